/- The Go functions that FactorJoins reaches compute what the plain functions say: part 1, printed by a program of this workplace. -/
import Derived.Test.YtmeleoadgjbmfaaChecked
import Derived.Test.YtmeleoadgjbmfaaWalkFactorJoins0
namespace Go.Pal
open Go Go.Proofs
set_option maxRecDepth 100000
set_option linter.unusedVariables false

theorem factor_Join_spec (K : Nat) (ins_1 : Int) (ins_2 : (List (Int × (Int × ByteArray)))) (del_3 : (Option ((List (Int × Int)) × Int))) (r : (Int × (List (Int × (Int × ByteArray))) × Int)) (H : factor_Join K ins_1 ins_2 del_3 = some r) : Spec Try.prog 27 0 [.agg [.val (.int .i64 ins_1), .imm (.slice (.pair (.int .i64) (.pair (.int .i64) .str))) ins_2], .c (.imm (.opt (.pair (.slice (.pair (.int .i64) (.int .i64))) (.int .i64))) del_3)] [] (.tup [(true, [.val (.int .i64 r.1), .imm (.slice (.pair (.int .i64) (.pair (.int .i64) .str))) r.2.1]), (false, [.val (.int .i64 r.2.2)])]) [] := by
  refine Spec_mk (fn := Try.f27) (c := (Try.f27.body).get!) Try.func27 (by kernel_rfl) rfl ?_
  intro C hN hn
  replace hN : C.N = 95 := hN
  unfold factor_Join at H
  refine V_run hN hn 4 0 [1, 2, 4] [0, 1] ⟨[(1, .c (.imm (.opt (.pair (.slice (.pair (.int .i64) (.int .i64))) (.int .i64))) del_3)), (2, .c (.h 0)), (4, .c (.h 1))], [(0, .box [.val (.int .i64 ins_1), .imm (.slice (.pair (.int .i64) (.pair (.int .i64) .str))) ins_2]), (1, .box [.val (.int .i64 (0 : Int)), .val (.slice none 0 0)])], 2⟩ [] (by kernel_rfl) rfl rfl ap0 ?_
  obtain ⟨q_142, H_143, H_144⟩ := of_bind H
  refine V_cut (Y := Bool) (R := Bool) q_142 (fun y => y) (fun y => [(1, .c (.imm (.opt (.pair (.slice (.pair (.int .i64) (.int .i64))) (.int .i64))) del_3)), (2, .c (.h 0)), (4, .c (.h 1)), (20, .c (.val (.bool y)))]) (fun y => [(0, .box [.val (.int .i64 ins_1), .imm (.slice (.pair (.int .i64) (.pair (.int .i64) .str))) ins_2]), (1, .box [.val (.int .i64 (0 : Int)), .val (.slice none 0 0)])]) ?_ ?_
  · skip
    obtain ⟨r_5, h_6, H_146⟩ := of_bind H_143
    rcases Bool.eq_false_or_eq_true ((!r_5)) with b_7 | b_7
    · have H_147 := of_t H_146 b_7
      refine V_reg hN hn [(1, ⟨44, 0, [.agg [.val (.int .i64 ins_1), .imm (.slice (.pair (.int .i64) (.pair (.int .i64) .str))) ins_2]], [], .c (.val (.bool r_5)), [], [], 2⟩)] [(16, true)] (calls_cons (delta_Is_spec K ins_1 ins_2 r_5 h_6) (by kernel_rfl) calls_nil) 2 [1, 2, 4, 20] [0, 1] ⟨[(1, .c (.imm (.opt (.pair (.slice (.pair (.int .i64) (.int .i64))) (.int .i64))) del_3)), (2, .c (.h 0)), (4, .c (.h 1)), (20, .c (.val (.bool true)))], [(0, .box [.val (.int .i64 ins_1), .imm (.slice (.pair (.int .i64) (.pair (.int .i64) .str))) ins_2]), (1, .box [.val (.int .i64 (0 : Int)), .val (.slice none 0 0)])], 2⟩ [(!r_5) = true] (by kernel_rfl) rfl rfl (ap1 b_7) (by kernel_rfl) (by kernel_rfl) ?_
      have H_149 := Option.some.inj (show some true = some q_142 from H_147); subst H_149
      refine VL_nil ?_
      exact QP_end true rfl [(0, 0), (1, 1)] hn (by kernel_rfl) (by kernel_rfl) rfl rfl rfl
    · have H_148 := of_f H_146 b_7
      obtain ⟨r_9, h_10, H_150⟩ := of_bind H_148
      refine V_reg hN hn [(1, ⟨44, 0, [.agg [.val (.int .i64 ins_1), .imm (.slice (.pair (.int .i64) (.pair (.int .i64) .str))) ins_2]], [], .c (.val (.bool r_5)), [], [], 2⟩), (5, ⟨24, 0, [.agg [.val (.int .i64 ins_1), .imm (.slice (.pair (.int .i64) (.pair (.int .i64) .str))) ins_2]], [], .c (.val (.int .i64 r_9)), [], [], 2⟩)] [(16, false)] (calls_cons (delta_Is_spec K ins_1 ins_2 r_5 h_6) (by kernel_rfl) (calls_cons (delta_Drops_spec K ins_1 ins_2 r_9 h_10) (by kernel_rfl) calls_nil)) 2 [1, 2, 4, 20] [0, 1] ⟨[(1, .c (.imm (.opt (.pair (.slice (.pair (.int .i64) (.int .i64))) (.int .i64))) del_3)), (2, .c (.h 0)), (4, .c (.h 1)), (20, .c (.val (.bool (decide (r_9 > (0 : Int))))))], [(0, .box [.val (.int .i64 ins_1), .imm (.slice (.pair (.int .i64) (.pair (.int .i64) .str))) ins_2]), (1, .box [.val (.int .i64 (0 : Int)), .val (.slice none 0 0)])], 2⟩ [(!r_5) = false] (by kernel_rfl) rfl rfl (ap1 b_7) (by kernel_rfl) (by kernel_rfl) ?_
      have H_151 := Option.some.inj (show some (decide (r_9 > (0 : Int))) = some q_142 from H_150); subst H_151
      refine VL_nil ?_
      exact QP_end (decide (r_9 > (0 : Int))) rfl [(0, 0), (1, 1)] hn (by kernel_rfl) (by kernel_rfl) rfl rfl rfl
  · intro y_145 hy; subst hy
    skip
    skip
    refine VL_cond (y_145) (by kernel_rfl) ?_ ?_
    · intro b_13; have H_152 := of_t H_144 b_13
      refine V_run hN hn 2 2 [4, 5] [1] ⟨[(4, .c (.h 1)), (5, .c (.val (.int .i64 (12 : Int))))], [(1, .box [.val (.int .i64 (0 : Int)), .val (.slice none 0 0)])], 2⟩ [] (by kernel_rfl) rfl rfl ap0 ?_
      have H_154 := Option.some.inj (show some ((0 : Int), ([] : List (Int × (Int × ByteArray))), (12 : Int)) = some r from H_152); subst H_154
      refine VL_ret ?_
      refine P_ghost [.readCell 1 1 (.slice (.pair (.int .i64) (.pair (.int .i64) .str)))] 2 hn [4, 5] [1] ⟨[(4, .c (.h 1)), (5, .c (.val (.int .i64 (12 : Int))))], [(1, .box [.val (.int .i64 (0 : Int)), .imm (.slice (.pair (.int .i64) (.pair (.int .i64) .str))) ([] : List (Int × (Int × ByteArray)))])], 2⟩ (by kernel_rfl) rfl rfl ?_
      exact P_to [(4, .c (.h 1)), (5, .c (.val (.int .i64 (12 : Int))))] [(1, .box [.val (.int .i64 (0 : Int)), .imm (.slice (.pair (.int .i64) (.pair (.int .i64) .str))) ([] : List (Int × (Int × ByteArray)))])] [(1, 1)] hn (by kernel_rfl) (by kernel_rfl) rfl rfl rfl (QF_retS (by kernel_rfl) (by kernel_rfl) rfl)
    · intro b_13; have H_153 := of_f H_144 b_13
      refine V_run hN hn 2 2 [1, 2, 4, 20] [0, 1] ⟨[(1, .c (.imm (.opt (.pair (.slice (.pair (.int .i64) (.int .i64))) (.int .i64))) del_3)), (2, .c (.h 0)), (4, .c (.h 1)), (20, .c (.val (.bool y_145)))], [(0, .box [.val (.int .i64 ins_1), .imm (.slice (.pair (.int .i64) (.pair (.int .i64) .str))) ins_2]), (1, .box [.val (.int .i64 (0 : Int)), .val (.slice none 0 0)])], 2⟩ [] (by kernel_rfl) rfl rfl ap0 ?_
      obtain ⟨r_16, h_17, H_155⟩ := of_bind H_153
      refine V_reg hN hn [(1, ⟨50, 0, [.c (.imm (.opt (.pair (.slice (.pair (.int .i64) (.int .i64))) (.int .i64))) del_3)], [], .tup [(false, [.val (.int .i64 r_16.1)]), (false, [.h 3])], [(3, .row (.pair (.int .i64) (.int .i64)) r_16.2)], [(3, 2)], 3⟩)] [] (calls_cons (factor_places_spec K del_3 r_16 h_17) (by kernel_rfl) calls_nil) 2 [2, 4, 6, 7] [0, 1, 2] ⟨[(2, .c (.h 0)), (4, .c (.h 1)), (6, .c (.val (.int .i64 r_16.1))), (7, .c (.h 2))], [(0, .box [.val (.int .i64 ins_1), .imm (.slice (.pair (.int .i64) (.pair (.int .i64) .str))) ins_2]), (1, .box [.val (.int .i64 (0 : Int)), .val (.slice none 0 0)]), (2, .row (.pair (.int .i64) (.int .i64)) r_16.2)], 3⟩ [] (by kernel_rfl) rfl rfl ap0 (by kernel_rfl) (by kernel_rfl) ?_
      refine V_run hN hn 3 3 [2, 4, 7, 30] [0, 1, 2] ⟨[(2, .c (.h 0)), (4, .c (.h 1)), (7, .c (.h 2)), (30, .c (.val (.bool (r_16.1 != ins_1))))], [(0, .box [.val (.int .i64 ins_1), .imm (.slice (.pair (.int .i64) (.pair (.int .i64) .str))) ins_2]), (1, .box [.val (.int .i64 (0 : Int)), .val (.slice none 0 0)]), (2, .row (.pair (.int .i64) (.int .i64)) r_16.2)], 3⟩ [] (by kernel_rfl) rfl rfl ap0 ?_
      refine VL_cond ((r_16.1 != ins_1)) (by kernel_rfl) ?_ ?_
      · intro b_20; have H_156 := of_t H_155 b_20
        refine V_run hN hn 2 3 [4, 5] [1] ⟨[(4, .c (.h 1)), (5, .c (.val (.int .i64 (80 : Int))))], [(1, .box [.val (.int .i64 (0 : Int)), .val (.slice none 0 0)])], 3⟩ [] (by kernel_rfl) rfl rfl ap0 ?_
        have H_158 := Option.some.inj (show some ((0 : Int), ([] : List (Int × (Int × ByteArray))), (80 : Int)) = some r from H_156); subst H_158
        refine VL_ret ?_
        refine P_ghost [.readCell 1 1 (.slice (.pair (.int .i64) (.pair (.int .i64) .str)))] 3 hn [4, 5] [1] ⟨[(4, .c (.h 1)), (5, .c (.val (.int .i64 (80 : Int))))], [(1, .box [.val (.int .i64 (0 : Int)), .imm (.slice (.pair (.int .i64) (.pair (.int .i64) .str))) ([] : List (Int × (Int × ByteArray)))])], 3⟩ (by kernel_rfl) rfl rfl ?_
        exact P_to [(4, .c (.h 1)), (5, .c (.val (.int .i64 (80 : Int))))] [(1, .box [.val (.int .i64 (0 : Int)), .imm (.slice (.pair (.int .i64) (.pair (.int .i64) .str))) ([] : List (Int × (Int × ByteArray)))])] [(1, 1)] hn (by kernel_rfl) (by kernel_rfl) rfl rfl rfl (QF_retS (by kernel_rfl) (by kernel_rfl) rfl)
      · intro b_20; have H_157 := of_f H_155 b_20
        refine V_run hN hn 2 3 [2, 4, 7, 30] [0, 1, 2] ⟨[(2, .c (.h 0)), (4, .c (.h 1)), (7, .c (.h 2)), (30, .c (.val (.bool (r_16.1 != ins_1))))], [(0, .box [.val (.int .i64 ins_1), .imm (.slice (.pair (.int .i64) (.pair (.int .i64) .str))) ins_2]), (1, .box [.val (.int .i64 (0 : Int)), .val (.slice none 0 0)]), (2, .row (.pair (.int .i64) (.int .i64)) r_16.2)], 3⟩ [] (by kernel_rfl) rfl rfl ap0 ?_
        obtain ⟨r_23, h_24, H_159⟩ := of_bind H_157
        refine V_reg hN hn [(2, ⟨39, 0, [.c (.val (.int .i64 ins_1))], [], .c (.h 0), [(0, .box [.val (.int .i64 ins_1), .val (.slice none 0 0)])], [(0, 3)], 4⟩)] [] (calls_cons (delta_NewMaker_spec K ins_1 r_23 h_24) (by kernel_rfl) calls_nil) 3 [2, 4, 7, 8] [0, 1, 2, 3] ⟨[(2, .c (.h 0)), (4, .c (.h 1)), (7, .c (.h 2)), (8, .c (.h 3))], [(0, .box [.val (.int .i64 ins_1), .imm (.slice (.pair (.int .i64) (.pair (.int .i64) .str))) ins_2]), (1, .box [.val (.int .i64 (0 : Int)), .val (.slice none 0 0)]), (2, .row (.pair (.int .i64) (.int .i64)) r_16.2), (3, .box [.val (.int .i64 ins_1), .val (.slice none 0 0)])], 4⟩ [] (by kernel_rfl) rfl rfl ap0 (by kernel_rfl) (by kernel_rfl) ?_
        refine V_run hN hn 3 4 [4, 7, 8, 36, 37, 38] [1, 2, 3] ⟨[(4, .c (.h 1)), (7, .c (.h 2)), (8, .c (.h 3)), (36, .c (.imm (.slice (.pair (.int .i64) (.pair (.int .i64) .str))) ins_2)), (37, .c (.val (.int .i64 (((List.length ins_2) : Nat) : Int)))), (38, .c (.val (.int .i64 (0 : Int))))], [(1, .box [.val (.int .i64 (0 : Int)), .val (.slice none 0 0)]), (2, .row (.pair (.int .i64) (.int .i64)) r_16.2), (3, .box [.val (.int .i64 ins_1), .val (.slice none 0 0)])], 4⟩ [] (by kernel_rfl) rfl rfl ap0 ?_
        obtain ⟨q_160, H_161, H_162⟩ := of_bind H_159
        refine V_cut (Y := (List (Int × (Int × ByteArray)))) (R := (List (Int × (Int × ByteArray)))) q_160 (fun y => y) (fun y => [(4, .c (.h 1)), (8, .c (.h 3))]) (fun y => [(1, .box [.val (.int .i64 (0 : Int)), .val (.slice none 0 0)]), (3, .box [.val (.int .i64 ins_1), .h 12]), (12, .row (.pair (.int .i64) (.pair (.int .i64) .str)) y)]) ?_ ?_
        · skip
          refine VL_block ?_
          refine V_ghost [.nilCell 3 1 (.pair (.int .i64) (.pair (.int .i64) .str))] 4 hn [4, 7, 8, 36, 37, 38] [1, 2, 3, 4] ⟨[(4, .c (.h 1)), (7, .c (.h 2)), (8, .c (.h 3)), (36, .c (.imm (.slice (.pair (.int .i64) (.pair (.int .i64) .str))) ins_2)), (37, .c (.val (.int .i64 (((List.length ins_2) : Nat) : Int)))), (38, .c (.val (.int .i64 (0 : Int))))], [(1, .box [.val (.int .i64 (0 : Int)), .val (.slice none 0 0)]), (2, .row (.pair (.int .i64) (.int .i64)) r_16.2), (3, .box [.val (.int .i64 ins_1), .h 4]), (4, .row (.pair (.int .i64) (.pair (.int .i64) .str)) ([] : List (Int × (Int × ByteArray))))], 5⟩ (by kernel_rfl) rfl rfl ?_
          refine V_to [(4, .c (.h 1)), (7, .c (.h 11)), (8, .c (.h 3)), (36, .c (.imm (.slice (.pair (.int .i64) (.pair (.int .i64) .str))) ins_2)), (37, .c (.val (.int .i64 (((List.length ins_2) : Nat) : Int)))), (38, .c (.val (.int .i64 (0 : Int))))] [(1, .box [.val (.int .i64 (0 : Int)), .val (.slice none 0 0)]), (3, .box [.val (.int .i64 ins_1), .h 12]), (11, .row (.pair (.int .i64) (.int .i64)) r_16.2), (12, .row (.pair (.int .i64) (.pair (.int .i64) .str)) ([] : List (Int × (Int × ByteArray))))] [(1, 1), (3, 3), (11, 2), (12, 4)] hn (by kernel_rfl) (by kernel_rfl) rfl rfl rfl ?_
          refine VL_loop (X := ((List (Int × Int)) × (List (Int × (Int × ByteArray))) × Int)) (fun x => [(4, .c (.h 1)), (7, .c (.h 11)), (8, .c (.h 3)), (36, .c (.imm (.slice (.pair (.int .i64) (.pair (.int .i64) .str))) ins_2)), (37, .c (.val (.int .i64 (((List.length ins_2) : Nat) : Int)))), (38, .c (.val (.int .i64 x.2.2)))]) (fun x => [(1, .box [.val (.int .i64 (0 : Int)), .val (.slice none 0 0)]), (3, .box [.val (.int .i64 ins_1), .h 12]), (11, .row (.pair (.int .i64) (.int .i64)) x.1), (12, .row (.pair (.int .i64) (.pair (.int .i64) .str)) x.2.1)]) (fun k x => factor_Join.l0 K ins_2 ins_1 k x.1 x.2.1 x.2.2 = some q_160) K (r_16.2, ([] : List (Int × (Int × ByteArray))), (0 : Int)) H_161 (fun _ h => no_none h) ?_
          intro k_79 x_79 H_164
          obtain ⟨l_77, x_78, t_27⟩ := x_79
          have H_165 : factor_Join.l0 K ins_2 ins_1 (k_79 + 1) l_77 x_78 t_27 = some q_160 := H_164
          rw [factor_Join.l0] at H_165
          refine V_run hN hn 3 13 [4, 7, 8, 36, 37, 38, 39] [1, 3, 11, 12] ⟨[(4, .c (.h 1)), (7, .c (.h 11)), (8, .c (.h 3)), (36, .c (.imm (.slice (.pair (.int .i64) (.pair (.int .i64) .str))) ins_2)), (37, .c (.val (.int .i64 (((List.length ins_2) : Nat) : Int)))), (38, .c (.val (.int .i64 t_27))), (39, .c (.val (.bool (decide (t_27 < (((List.length ins_2) : Nat) : Int))))))], [(1, .box [.val (.int .i64 (0 : Int)), .val (.slice none 0 0)]), (3, .box [.val (.int .i64 ins_1), .h 12]), (11, .row (.pair (.int .i64) (.int .i64)) l_77), (12, .row (.pair (.int .i64) (.pair (.int .i64) .str)) x_78)], 13⟩ [] (by kernel_rfl) rfl rfl ap0 ?_
          refine VL_cond ((decide (t_27 < (((List.length ins_2) : Nat) : Int)))) (by kernel_rfl) ?_ ?_
          · intro b_81; have H_166 := of_t H_165 b_81
            refine V_run hN hn 2 13 [4, 7, 8, 36, 37, 38, 39] [1, 3, 11, 12] ⟨[(4, .c (.h 1)), (7, .c (.h 11)), (8, .c (.h 3)), (36, .c (.imm (.slice (.pair (.int .i64) (.pair (.int .i64) .str))) ins_2)), (37, .c (.val (.int .i64 (((List.length ins_2) : Nat) : Int)))), (38, .c (.val (.int .i64 t_27))), (39, .c (.val (.bool (decide (t_27 < (((List.length ins_2) : Nat) : Int))))))], [(1, .box [.val (.int .i64 (0 : Int)), .val (.slice none 0 0)]), (3, .box [.val (.int .i64 ins_1), .h 12]), (11, .row (.pair (.int .i64) (.int .i64)) l_77), (12, .row (.pair (.int .i64) (.pair (.int .i64) .str)) x_78)], 13⟩ [] (by kernel_rfl) rfl rfl ap0 ?_
            obtain ⟨q_168, H_169, H_170⟩ := of_bind H_166
            refine V_cut (Y := ((List (Int × Int)) × (List (Int × (Int × ByteArray))))) (R := ((List (Int × Int)) × (List (Int × (Int × ByteArray))))) q_168 (fun y => y) (fun y => [(4, .c (.h 1)), (7, .c (.h 18)), (8, .c (.h 3)), (36, .c (.imm (.slice (.pair (.int .i64) (.pair (.int .i64) .str))) ins_2)), (37, .c (.val (.int .i64 (((List.length ins_2) : Nat) : Int)))), (38, .c (.val (.int .i64 t_27)))]) (fun y => [(1, .box [.val (.int .i64 (0 : Int)), .val (.slice none 0 0)]), (3, .box [.val (.int .i64 ins_1), .h 19]), (18, .row (.pair (.int .i64) (.int .i64)) y.1), (19, .row (.pair (.int .i64) (.pair (.int .i64) .str)) y.2)]) ?_ ?_
            · skip
              refine VL_block ?_
              obtain ⟨c_83, H_172⟩ := of_if H_169
              refine V_run hN hn 3 13 [4, 7, 8, 10, 36, 37, 38] [1, 3, 11, 12, 13] ⟨[(4, .c (.h 1)), (7, .c (.h 11)), (8, .c (.h 3)), (10, .c (.h 13)), (36, .c (.imm (.slice (.pair (.int .i64) (.pair (.int .i64) .str))) ins_2)), (37, .c (.val (.int .i64 (((List.length ins_2) : Nat) : Int)))), (38, .c (.val (.int .i64 t_27)))], [(1, .box [.val (.int .i64 (0 : Int)), .val (.slice none 0 0)]), (3, .box [.val (.int .i64 ins_1), .h 12]), (11, .row (.pair (.int .i64) (.int .i64)) l_77), (12, .row (.pair (.int .i64) (.pair (.int .i64) .str)) x_78), (13, .box [.val (.int .i64 (List.getD ins_2 (Int.toNat t_27) ((0 : Int), ((0 : Int), ByteArray.empty))).1), .val (.int .i64 (List.getD ins_2 (Int.toNat t_27) ((0 : Int), ((0 : Int), ByteArray.empty))).2.1), .val (.string (List.getD ins_2 (Int.toNat t_27) ((0 : Int), ((0 : Int), ByteArray.empty))).2.2)])], 14⟩ [0 ≤ t_27, t_27 < (((List.length ins_2) : Nat) : Int)] (by kernel_rfl) rfl rfl (ap2 c_83.1 (ap1 c_83.2)) ?_
              obtain ⟨r_84, h_85, H_173⟩ := of_bind H_172
              refine V_reg hN hn [(3, ⟨42, 2, [.c (.h 0), .c (.val (.string (List.getD ins_2 (Int.toNat t_27) ((0 : Int), ((0 : Int), ByteArray.empty))).2.2))], [(0, .box [.val (.int .i64 ins_1), .h 1]), (1, .row (.pair (.int .i64) (.pair (.int .i64) .str)) x_78)], .tup [], [(0, .box [.val (.int .i64 ins_1), .h 4]), (4, .row (.pair (.int .i64) (.pair (.int .i64) .str)) r_84)], [(0, 3), (1, 12), (4, 14)], 15⟩)] [] (calls_cons (delta_Maker_Put_bg_92925_spec K ins_1 x_78 (List.getD ins_2 (Int.toNat t_27) ((0 : Int), ((0 : Int), ByteArray.empty))).2.2 r_84 h_85) (by kernel_rfl) calls_nil) 14 [4, 7, 8, 10, 36, 37, 38] [1, 3, 11, 13, 14] ⟨[(4, .c (.h 1)), (7, .c (.h 11)), (8, .c (.h 3)), (10, .c (.h 13)), (36, .c (.imm (.slice (.pair (.int .i64) (.pair (.int .i64) .str))) ins_2)), (37, .c (.val (.int .i64 (((List.length ins_2) : Nat) : Int)))), (38, .c (.val (.int .i64 t_27)))], [(1, .box [.val (.int .i64 (0 : Int)), .val (.slice none 0 0)]), (3, .box [.val (.int .i64 ins_1), .h 14]), (11, .row (.pair (.int .i64) (.int .i64)) l_77), (13, .box [.val (.int .i64 (List.getD ins_2 (Int.toNat t_27) ((0 : Int), ((0 : Int), ByteArray.empty))).1), .val (.int .i64 (List.getD ins_2 (Int.toNat t_27) ((0 : Int), ((0 : Int), ByteArray.empty))).2.1), .val (.string (List.getD ins_2 (Int.toNat t_27) ((0 : Int), ((0 : Int), ByteArray.empty))).2.2)]), (14, .row (.pair (.int .i64) (.pair (.int .i64) .str)) r_84)], 15⟩ [] (by kernel_rfl) rfl rfl ap0 (by kernel_rfl) (by kernel_rfl) ?_
              refine V_run hN hn 2 15 [4, 7, 8, 10, 11, 36, 37, 38] [1, 3, 11, 13, 14] ⟨[(4, .c (.h 1)), (7, .c (.h 11)), (8, .c (.h 3)), (10, .c (.h 13)), (11, .c (.val (.int .i64 (List.getD ins_2 (Int.toNat t_27) ((0 : Int), ((0 : Int), ByteArray.empty))).1))), (36, .c (.imm (.slice (.pair (.int .i64) (.pair (.int .i64) .str))) ins_2)), (37, .c (.val (.int .i64 (((List.length ins_2) : Nat) : Int)))), (38, .c (.val (.int .i64 t_27)))], [(1, .box [.val (.int .i64 (0 : Int)), .val (.slice none 0 0)]), (3, .box [.val (.int .i64 ins_1), .h 14]), (11, .row (.pair (.int .i64) (.int .i64)) l_77), (13, .box [.val (.int .i64 (List.getD ins_2 (Int.toNat t_27) ((0 : Int), ((0 : Int), ByteArray.empty))).1), .val (.int .i64 (List.getD ins_2 (Int.toNat t_27) ((0 : Int), ((0 : Int), ByteArray.empty))).2.1), .val (.string (List.getD ins_2 (Int.toNat t_27) ((0 : Int), ((0 : Int), ByteArray.empty))).2.2)]), (14, .row (.pair (.int .i64) (.pair (.int .i64) .str)) r_84)], 15⟩ [] (by kernel_rfl) rfl rfl ap0 ?_
              refine VL_block ?_
              refine V_to [(4, .c (.h 1)), (7, .c (.h 18)), (8, .c (.h 3)), (10, .c (.h 13)), (11, .c (.val (.int .i64 (List.getD ins_2 (Int.toNat t_27) ((0 : Int), ((0 : Int), ByteArray.empty))).1))), (36, .c (.imm (.slice (.pair (.int .i64) (.pair (.int .i64) .str))) ins_2)), (37, .c (.val (.int .i64 (((List.length ins_2) : Nat) : Int)))), (38, .c (.val (.int .i64 t_27)))] [(1, .box [.val (.int .i64 (0 : Int)), .val (.slice none 0 0)]), (3, .box [.val (.int .i64 ins_1), .h 19]), (13, .box [.val (.int .i64 (List.getD ins_2 (Int.toNat t_27) ((0 : Int), ((0 : Int), ByteArray.empty))).1), .val (.int .i64 (List.getD ins_2 (Int.toNat t_27) ((0 : Int), ((0 : Int), ByteArray.empty))).2.1), .val (.string (List.getD ins_2 (Int.toNat t_27) ((0 : Int), ((0 : Int), ByteArray.empty))).2.2)]), (18, .row (.pair (.int .i64) (.int .i64)) l_77), (19, .row (.pair (.int .i64) (.pair (.int .i64) .str)) r_84)] [(1, 1), (3, 3), (13, 13), (18, 11), (19, 14)] hn (by kernel_rfl) (by kernel_rfl) rfl rfl rfl ?_
              refine VL_loop (X := ((List (Int × Int)) × (List (Int × (Int × ByteArray))) × Int)) (fun x => [(4, .c (.h 1)), (7, .c (.h 18)), (8, .c (.h 3)), (10, .c (.h 13)), (11, .c (.val (.int .i64 x.2.2))), (36, .c (.imm (.slice (.pair (.int .i64) (.pair (.int .i64) .str))) ins_2)), (37, .c (.val (.int .i64 (((List.length ins_2) : Nat) : Int)))), (38, .c (.val (.int .i64 t_27)))]) (fun x => [(1, .box [.val (.int .i64 (0 : Int)), .val (.slice none 0 0)]), (3, .box [.val (.int .i64 ins_1), .h 19]), (13, .box [.val (.int .i64 (List.getD ins_2 (Int.toNat t_27) ((0 : Int), ((0 : Int), ByteArray.empty))).1), .val (.int .i64 (List.getD ins_2 (Int.toNat t_27) ((0 : Int), ((0 : Int), ByteArray.empty))).2.1), .val (.string (List.getD ins_2 (Int.toNat t_27) ((0 : Int), ((0 : Int), ByteArray.empty))).2.2)]), (18, .row (.pair (.int .i64) (.int .i64)) x.1), (19, .row (.pair (.int .i64) (.pair (.int .i64) .str)) x.2.1)]) (fun k x => factor_Join.l1 K ins_2 t_27 ins_1 k x.1 x.2.1 x.2.2 = some q_168) K (l_77, r_84, (List.getD ins_2 (Int.toNat t_27) ((0 : Int), ((0 : Int), ByteArray.empty))).1) H_173 (fun _ h => no_none h) ?_
              intro k_108 x_108 H_174
              obtain ⟨l_106, x_107, at_88⟩ := x_108
              have H_175 : factor_Join.l1 K ins_2 t_27 ins_1 (k_108 + 1) l_106 x_107 at_88 = some q_168 := H_174
              rw [factor_Join.l1] at H_175
              refine V_run hN hn 3 20 [4, 7, 8, 10, 11, 36, 37, 38, 51] [1, 3, 13, 18, 19] ⟨[(4, .c (.h 1)), (7, .c (.h 18)), (8, .c (.h 3)), (10, .c (.h 13)), (11, .c (.val (.int .i64 at_88))), (36, .c (.imm (.slice (.pair (.int .i64) (.pair (.int .i64) .str))) ins_2)), (37, .c (.val (.int .i64 (((List.length ins_2) : Nat) : Int)))), (38, .c (.val (.int .i64 t_27))), (51, .c (.val (.bool (decide (at_88 < (List.getD ins_2 (Int.toNat t_27) ((0 : Int), ((0 : Int), ByteArray.empty))).2.1)))))], [(1, .box [.val (.int .i64 (0 : Int)), .val (.slice none 0 0)]), (3, .box [.val (.int .i64 ins_1), .h 19]), (13, .box [.val (.int .i64 (List.getD ins_2 (Int.toNat t_27) ((0 : Int), ((0 : Int), ByteArray.empty))).1), .val (.int .i64 (List.getD ins_2 (Int.toNat t_27) ((0 : Int), ((0 : Int), ByteArray.empty))).2.1), .val (.string (List.getD ins_2 (Int.toNat t_27) ((0 : Int), ((0 : Int), ByteArray.empty))).2.2)]), (18, .row (.pair (.int .i64) (.int .i64)) l_106), (19, .row (.pair (.int .i64) (.pair (.int .i64) .str)) x_107)], 20⟩ [] (by kernel_rfl) rfl rfl ap0 ?_
              refine VL_cond ((decide (at_88 < (List.getD ins_2 (Int.toNat t_27) ((0 : Int), ((0 : Int), ByteArray.empty))).2.1))) (by kernel_rfl) ?_ ?_
              · intro b_110; have H_176 := of_t H_175 b_110
                refine V_run hN hn 1 20 [4, 7, 8, 10, 11, 36, 37, 38, 51] [1, 3, 13, 18, 19] ⟨[(4, .c (.h 1)), (7, .c (.h 18)), (8, .c (.h 3)), (10, .c (.h 13)), (11, .c (.val (.int .i64 at_88))), (36, .c (.imm (.slice (.pair (.int .i64) (.pair (.int .i64) .str))) ins_2)), (37, .c (.val (.int .i64 (((List.length ins_2) : Nat) : Int)))), (38, .c (.val (.int .i64 t_27))), (51, .c (.val (.bool (decide (at_88 < (List.getD ins_2 (Int.toNat t_27) ((0 : Int), ((0 : Int), ByteArray.empty))).2.1)))))], [(1, .box [.val (.int .i64 (0 : Int)), .val (.slice none 0 0)]), (3, .box [.val (.int .i64 ins_1), .h 19]), (13, .box [.val (.int .i64 (List.getD ins_2 (Int.toNat t_27) ((0 : Int), ((0 : Int), ByteArray.empty))).1), .val (.int .i64 (List.getD ins_2 (Int.toNat t_27) ((0 : Int), ((0 : Int), ByteArray.empty))).2.1), .val (.string (List.getD ins_2 (Int.toNat t_27) ((0 : Int), ((0 : Int), ByteArray.empty))).2.2)]), (18, .row (.pair (.int .i64) (.int .i64)) l_106), (19, .row (.pair (.int .i64) (.pair (.int .i64) .str)) x_107)], 20⟩ [] (by kernel_rfl) rfl rfl ap0 ?_
                refine VL_block ?_
                refine V_run hN hn 1 20 [4, 7, 8, 10, 11, 36, 37, 38, 51] [1, 3, 13, 18, 19] ⟨[(4, .c (.h 1)), (7, .c (.h 18)), (8, .c (.h 3)), (10, .c (.h 13)), (11, .c (.val (.int .i64 at_88))), (36, .c (.imm (.slice (.pair (.int .i64) (.pair (.int .i64) .str))) ins_2)), (37, .c (.val (.int .i64 (((List.length ins_2) : Nat) : Int)))), (38, .c (.val (.int .i64 t_27))), (51, .c (.val (.bool (decide (at_88 < (List.getD ins_2 (Int.toNat t_27) ((0 : Int), ((0 : Int), ByteArray.empty))).2.1)))))], [(1, .box [.val (.int .i64 (0 : Int)), .val (.slice none 0 0)]), (3, .box [.val (.int .i64 ins_1), .h 19]), (13, .box [.val (.int .i64 (List.getD ins_2 (Int.toNat t_27) ((0 : Int), ((0 : Int), ByteArray.empty))).1), .val (.int .i64 (List.getD ins_2 (Int.toNat t_27) ((0 : Int), ((0 : Int), ByteArray.empty))).2.1), .val (.string (List.getD ins_2 (Int.toNat t_27) ((0 : Int), ((0 : Int), ByteArray.empty))).2.2)]), (18, .row (.pair (.int .i64) (.int .i64)) l_106), (19, .row (.pair (.int .i64) (.pair (.int .i64) .str)) x_107)], 20⟩ [] (by kernel_rfl) rfl rfl ap0 ?_
                obtain ⟨c_113, H_178⟩ := of_if H_176
                refine V_draw hN hn (by kernel_rfl) [] [] calls_nil 20 [4, 7, 8, 10, 11, 12, 36, 37, 38] [1, 3, 13, 18, 19] ⟨[(4, .c (.h 1)), (7, .c (.h 18)), (8, .c (.h 3)), (10, .c (.h 13)), (11, .c (.val (.int .i64 at_88))), (12, .c (.val (.int .i64 (mn2 (List.getD l_106 0 ((0 : Int), (0 : Int))).1 (IntKind.wrap .i64 ((List.getD ins_2 (Int.toNat t_27) ((0 : Int), ((0 : Int), ByteArray.empty))).2.1 - at_88)))))), (36, .c (.imm (.slice (.pair (.int .i64) (.pair (.int .i64) .str))) ins_2)), (37, .c (.val (.int .i64 (((List.length ins_2) : Nat) : Int)))), (38, .c (.val (.int .i64 t_27)))], [(1, .box [.val (.int .i64 (0 : Int)), .val (.slice none 0 0)]), (3, .box [.val (.int .i64 ins_1), .h 19]), (13, .box [.val (.int .i64 (List.getD ins_2 (Int.toNat t_27) ((0 : Int), ((0 : Int), ByteArray.empty))).1), .val (.int .i64 (List.getD ins_2 (Int.toNat t_27) ((0 : Int), ((0 : Int), ByteArray.empty))).2.1), .val (.string (List.getD ins_2 (Int.toNat t_27) ((0 : Int), ((0 : Int), ByteArray.empty))).2.2)]), (18, .row (.pair (.int .i64) (.int .i64)) l_106), (19, .row (.pair (.int .i64) (.pair (.int .i64) .str)) x_107)], 20⟩ [(0 : Int) ≤ (0 : Int), (0 : Int) < (((List.length l_106) : Nat) : Int)] (by kernel_rfl) rfl rfl (ap2 (by decide) (ap1 c_113)) (by kernel_rfl) (by kernel_rfl) ?_
                refine V_run hN hn 3 20 [4, 7, 8, 10, 11, 12, 36, 37, 38, 65] [1, 3, 13, 18, 19] ⟨[(4, .c (.h 1)), (7, .c (.h 18)), (8, .c (.h 3)), (10, .c (.h 13)), (11, .c (.val (.int .i64 at_88))), (12, .c (.val (.int .i64 (mn2 (List.getD l_106 0 ((0 : Int), (0 : Int))).1 (IntKind.wrap .i64 ((List.getD ins_2 (Int.toNat t_27) ((0 : Int), ((0 : Int), ByteArray.empty))).2.1 - at_88)))))), (36, .c (.imm (.slice (.pair (.int .i64) (.pair (.int .i64) .str))) ins_2)), (37, .c (.val (.int .i64 (((List.length ins_2) : Nat) : Int)))), (38, .c (.val (.int .i64 t_27))), (65, .c (.val (.bool ((List.getD l_106 0 ((0 : Int), (0 : Int))).2 == (0 : Int)))))], [(1, .box [.val (.int .i64 (0 : Int)), .val (.slice none 0 0)]), (3, .box [.val (.int .i64 ins_1), .h 19]), (13, .box [.val (.int .i64 (List.getD ins_2 (Int.toNat t_27) ((0 : Int), ((0 : Int), ByteArray.empty))).1), .val (.int .i64 (List.getD ins_2 (Int.toNat t_27) ((0 : Int), ((0 : Int), ByteArray.empty))).2.1), .val (.string (List.getD ins_2 (Int.toNat t_27) ((0 : Int), ((0 : Int), ByteArray.empty))).2.2)]), (18, .row (.pair (.int .i64) (.int .i64)) l_106), (19, .row (.pair (.int .i64) (.pair (.int .i64) .str)) x_107)], 20⟩ [(0 : Int) ≤ (0 : Int), (0 : Int) < (((List.length l_106) : Nat) : Int)] (by kernel_rfl) rfl rfl (ap2 (by decide) (ap1 c_113)) ?_
                obtain ⟨q_179, H_180, H_181⟩ := of_bind H_178
                refine V_cut (Y := (List (Int × (Int × ByteArray)))) (R := (List (Int × (Int × ByteArray)))) q_179 (fun y => y) (fun y => [(4, .c (.h 1)), (7, .c (.h 18)), (8, .c (.h 3)), (10, .c (.h 13)), (11, .c (.val (.int .i64 at_88))), (12, .c (.val (.int .i64 (mn2 (List.getD l_106 0 ((0 : Int), (0 : Int))).1 (IntKind.wrap .i64 ((List.getD ins_2 (Int.toNat t_27) ((0 : Int), ((0 : Int), ByteArray.empty))).2.1 - at_88)))))), (36, .c (.imm (.slice (.pair (.int .i64) (.pair (.int .i64) .str))) ins_2)), (37, .c (.val (.int .i64 (((List.length ins_2) : Nat) : Int)))), (38, .c (.val (.int .i64 t_27)))]) (fun y => [(1, .box [.val (.int .i64 (0 : Int)), .val (.slice none 0 0)]), (3, .box [.val (.int .i64 ins_1), .h 21]), (13, .box [.val (.int .i64 (List.getD ins_2 (Int.toNat t_27) ((0 : Int), ((0 : Int), ByteArray.empty))).1), .val (.int .i64 (List.getD ins_2 (Int.toNat t_27) ((0 : Int), ((0 : Int), ByteArray.empty))).2.1), .val (.string (List.getD ins_2 (Int.toNat t_27) ((0 : Int), ((0 : Int), ByteArray.empty))).2.2)]), (18, .row (.pair (.int .i64) (.int .i64)) l_106), (21, .row (.pair (.int .i64) (.pair (.int .i64) .str)) y)]) ?_ ?_
                · skip
                  refine VL_cond (((List.getD l_106 0 ((0 : Int), (0 : Int))).2 == (0 : Int))) (by kernel_rfl) ?_ ?_
                  · intro b_115; have H_183 := of_t H_180 b_115
                    obtain ⟨r_116, h_117, H_185⟩ := of_bind H_183
                    refine V_reg hN hn [(5, ⟨41, 2, [.c (.h 0), .c (.val (.int .i64 at_88)), .c (.val (.int .i64 (IntKind.wrap .i64 (at_88 + (mn2 (List.getD l_106 0 ((0 : Int), (0 : Int))).1 (IntKind.wrap .i64 ((List.getD ins_2 (Int.toNat t_27) ((0 : Int), ((0 : Int), ByteArray.empty))).2.1 - at_88)))))))], [(0, .box [.val (.int .i64 ins_1), .h 1]), (1, .row (.pair (.int .i64) (.pair (.int .i64) .str)) x_107)], .tup [], [(0, .box [.val (.int .i64 ins_1), .h 4]), (4, .row (.pair (.int .i64) (.pair (.int .i64) .str)) r_116)], [(0, 3), (1, 19), (4, 20)], 21⟩)] [] (calls_cons (delta_Maker_Copy_bgg_11dec_spec K ins_1 x_107 at_88 (IntKind.wrap .i64 (at_88 + (mn2 (List.getD l_106 0 ((0 : Int), (0 : Int))).1 (IntKind.wrap .i64 ((List.getD ins_2 (Int.toNat t_27) ((0 : Int), ((0 : Int), ByteArray.empty))).2.1 - at_88))))) r_116 h_117) (by kernel_rfl) calls_nil) 20 [4, 7, 8, 10, 11, 12, 36, 37, 38] [1, 3, 13, 18, 20] ⟨[(4, .c (.h 1)), (7, .c (.h 18)), (8, .c (.h 3)), (10, .c (.h 13)), (11, .c (.val (.int .i64 at_88))), (12, .c (.val (.int .i64 (mn2 (List.getD l_106 0 ((0 : Int), (0 : Int))).1 (IntKind.wrap .i64 ((List.getD ins_2 (Int.toNat t_27) ((0 : Int), ((0 : Int), ByteArray.empty))).2.1 - at_88)))))), (36, .c (.imm (.slice (.pair (.int .i64) (.pair (.int .i64) .str))) ins_2)), (37, .c (.val (.int .i64 (((List.length ins_2) : Nat) : Int)))), (38, .c (.val (.int .i64 t_27)))], [(1, .box [.val (.int .i64 (0 : Int)), .val (.slice none 0 0)]), (3, .box [.val (.int .i64 ins_1), .h 20]), (13, .box [.val (.int .i64 (List.getD ins_2 (Int.toNat t_27) ((0 : Int), ((0 : Int), ByteArray.empty))).1), .val (.int .i64 (List.getD ins_2 (Int.toNat t_27) ((0 : Int), ((0 : Int), ByteArray.empty))).2.1), .val (.string (List.getD ins_2 (Int.toNat t_27) ((0 : Int), ((0 : Int), ByteArray.empty))).2.2)]), (18, .row (.pair (.int .i64) (.int .i64)) l_106), (20, .row (.pair (.int .i64) (.pair (.int .i64) .str)) r_116)], 21⟩ [] (by kernel_rfl) rfl rfl ap0 (by kernel_rfl) (by kernel_rfl) ?_
                    have H_186 := Option.some.inj (show some r_116 = some q_179 from H_185); subst H_186
                    refine VL_nil ?_
                    exact QP_end r_116 rfl [(1, 1), (3, 3), (13, 13), (18, 18), (21, 20)] hn (by kernel_rfl) (by kernel_rfl) rfl rfl rfl
                  · intro b_115; have H_184 := of_f H_180 b_115
                    refine V_run hN hn 1 20 [4, 7, 8, 10, 11, 12, 36, 37, 38, 65] [1, 3, 13, 18, 19] ⟨[(4, .c (.h 1)), (7, .c (.h 18)), (8, .c (.h 3)), (10, .c (.h 13)), (11, .c (.val (.int .i64 at_88))), (12, .c (.val (.int .i64 (mn2 (List.getD l_106 0 ((0 : Int), (0 : Int))).1 (IntKind.wrap .i64 ((List.getD ins_2 (Int.toNat t_27) ((0 : Int), ((0 : Int), ByteArray.empty))).2.1 - at_88)))))), (36, .c (.imm (.slice (.pair (.int .i64) (.pair (.int .i64) .str))) ins_2)), (37, .c (.val (.int .i64 (((List.length ins_2) : Nat) : Int)))), (38, .c (.val (.int .i64 t_27))), (65, .c (.val (.bool ((List.getD l_106 0 ((0 : Int), (0 : Int))).2 == (0 : Int)))))], [(1, .box [.val (.int .i64 (0 : Int)), .val (.slice none 0 0)]), (3, .box [.val (.int .i64 ins_1), .h 19]), (13, .box [.val (.int .i64 (List.getD ins_2 (Int.toNat t_27) ((0 : Int), ((0 : Int), ByteArray.empty))).1), .val (.int .i64 (List.getD ins_2 (Int.toNat t_27) ((0 : Int), ((0 : Int), ByteArray.empty))).2.1), .val (.string (List.getD ins_2 (Int.toNat t_27) ((0 : Int), ((0 : Int), ByteArray.empty))).2.2)]), (18, .row (.pair (.int .i64) (.int .i64)) l_106), (19, .row (.pair (.int .i64) (.pair (.int .i64) .str)) x_107)], 20⟩ [] (by kernel_rfl) rfl rfl ap0 ?_
                    have H_187 := Option.some.inj (show some x_107 = some q_179 from H_184); subst H_187
                    refine VL_nil ?_
                    exact QP_end x_107 rfl [(1, 1), (3, 3), (13, 13), (18, 18), (21, 19)] hn (by kernel_rfl) (by kernel_rfl) rfl rfl rfl
                · intro y_182 hy; subst hy
                  skip
                  skip
                  obtain ⟨c_121, H_188⟩ := of_if H_181
                  refine V_run hN hn 6 22 [4, 7, 8, 10, 11, 36, 37, 38, 87] [1, 3, 13, 18, 21] ⟨[(4, .c (.h 1)), (7, .c (.h 18)), (8, .c (.h 3)), (10, .c (.h 13)), (11, .c (.val (.int .i64 (IntKind.wrap .i64 (at_88 + (mn2 (List.getD l_106 0 ((0 : Int), (0 : Int))).1 (IntKind.wrap .i64 ((List.getD ins_2 (Int.toNat t_27) ((0 : Int), ((0 : Int), ByteArray.empty))).2.1 - at_88)))))))), (36, .c (.imm (.slice (.pair (.int .i64) (.pair (.int .i64) .str))) ins_2)), (37, .c (.val (.int .i64 (((List.length ins_2) : Nat) : Int)))), (38, .c (.val (.int .i64 t_27))), (87, .c (.val (.bool ((List.getD (List.set l_106 0 ((IntKind.wrap .i64 ((List.getD l_106 0 ((0 : Int), (0 : Int))).1 - (mn2 (List.getD l_106 0 ((0 : Int), (0 : Int))).1 (IntKind.wrap .i64 ((List.getD ins_2 (Int.toNat t_27) ((0 : Int), ((0 : Int), ByteArray.empty))).2.1 - at_88))))), (List.getD l_106 0 ((0 : Int), (0 : Int))).2)) 0 ((0 : Int), (0 : Int))).1 == (0 : Int)))))], [(1, .box [.val (.int .i64 (0 : Int)), .val (.slice none 0 0)]), (3, .box [.val (.int .i64 ins_1), .h 21]), (13, .box [.val (.int .i64 (List.getD ins_2 (Int.toNat t_27) ((0 : Int), ((0 : Int), ByteArray.empty))).1), .val (.int .i64 (List.getD ins_2 (Int.toNat t_27) ((0 : Int), ((0 : Int), ByteArray.empty))).2.1), .val (.string (List.getD ins_2 (Int.toNat t_27) ((0 : Int), ((0 : Int), ByteArray.empty))).2.2)]), (18, .row (.pair (.int .i64) (.int .i64)) (List.set l_106 0 ((IntKind.wrap .i64 ((List.getD l_106 0 ((0 : Int), (0 : Int))).1 - (mn2 (List.getD l_106 0 ((0 : Int), (0 : Int))).1 (IntKind.wrap .i64 ((List.getD ins_2 (Int.toNat t_27) ((0 : Int), ((0 : Int), ByteArray.empty))).2.1 - at_88))))), (List.getD l_106 0 ((0 : Int), (0 : Int))).2))), (21, .row (.pair (.int .i64) (.pair (.int .i64) .str)) y_182)], 22⟩ [(0 : Int) ≤ (0 : Int), (0 : Int) < (((List.length l_106) : Nat) : Int), (0 : Int) ≤ (0 : Int), (0 : Int) < (((List.length l_106) : Nat) : Int), (0 : Int) ≤ (0 : Int), (0 : Int) < (((List.length (List.set l_106 0 ((IntKind.wrap .i64 ((List.getD l_106 0 ((0 : Int), (0 : Int))).1 - (mn2 (List.getD l_106 0 ((0 : Int), (0 : Int))).1 (IntKind.wrap .i64 ((List.getD ins_2 (Int.toNat t_27) ((0 : Int), ((0 : Int), ByteArray.empty))).2.1 - at_88))))), (List.getD l_106 0 ((0 : Int), (0 : Int))).2))) : Nat) : Int)] (by kernel_rfl) rfl rfl (ap2 (by decide) (ap2 c_113 (ap2 (by decide) (ap2 c_113 (ap2 (by decide) (ap1 c_121)))))) ?_
                  refine VL_cond (((List.getD (List.set l_106 0 ((IntKind.wrap .i64 ((List.getD l_106 0 ((0 : Int), (0 : Int))).1 - (mn2 (List.getD l_106 0 ((0 : Int), (0 : Int))).1 (IntKind.wrap .i64 ((List.getD ins_2 (Int.toNat t_27) ((0 : Int), ((0 : Int), ByteArray.empty))).2.1 - at_88))))), (List.getD l_106 0 ((0 : Int), (0 : Int))).2)) 0 ((0 : Int), (0 : Int))).1 == (0 : Int))) (by kernel_rfl) ?_ ?_
                  · intro b_122; have H_189 := of_t H_188 b_122
                    obtain ⟨c_123, H_191⟩ := of_if H_189
                    refine V_run hN hn 1 22 [4, 7, 8, 10, 11, 36, 37, 38] [1, 3, 13, 18, 21] ⟨[(4, .c (.h 1)), (7, .c (.sub 18 2 1 ((List.length (List.set l_106 0 ((IntKind.wrap .i64 ((List.getD l_106 0 ((0 : Int), (0 : Int))).1 - (mn2 (List.getD l_106 0 ((0 : Int), (0 : Int))).1 (IntKind.wrap .i64 ((List.getD ins_2 (Int.toNat t_27) ((0 : Int), ((0 : Int), ByteArray.empty))).2.1 - at_88))))), (List.getD l_106 0 ((0 : Int), (0 : Int))).2))) - 1))), (8, .c (.h 3)), (10, .c (.h 13)), (11, .c (.val (.int .i64 (IntKind.wrap .i64 (at_88 + (mn2 (List.getD l_106 0 ((0 : Int), (0 : Int))).1 (IntKind.wrap .i64 ((List.getD ins_2 (Int.toNat t_27) ((0 : Int), ((0 : Int), ByteArray.empty))).2.1 - at_88)))))))), (36, .c (.imm (.slice (.pair (.int .i64) (.pair (.int .i64) .str))) ins_2)), (37, .c (.val (.int .i64 (((List.length ins_2) : Nat) : Int)))), (38, .c (.val (.int .i64 t_27)))], [(1, .box [.val (.int .i64 (0 : Int)), .val (.slice none 0 0)]), (3, .box [.val (.int .i64 ins_1), .h 21]), (13, .box [.val (.int .i64 (List.getD ins_2 (Int.toNat t_27) ((0 : Int), ((0 : Int), ByteArray.empty))).1), .val (.int .i64 (List.getD ins_2 (Int.toNat t_27) ((0 : Int), ((0 : Int), ByteArray.empty))).2.1), .val (.string (List.getD ins_2 (Int.toNat t_27) ((0 : Int), ((0 : Int), ByteArray.empty))).2.2)]), (18, .row (.pair (.int .i64) (.int .i64)) (List.set l_106 0 ((IntKind.wrap .i64 ((List.getD l_106 0 ((0 : Int), (0 : Int))).1 - (mn2 (List.getD l_106 0 ((0 : Int), (0 : Int))).1 (IntKind.wrap .i64 ((List.getD ins_2 (Int.toNat t_27) ((0 : Int), ((0 : Int), ByteArray.empty))).2.1 - at_88))))), (List.getD l_106 0 ((0 : Int), (0 : Int))).2))), (21, .row (.pair (.int .i64) (.pair (.int .i64) .str)) y_182)], 22⟩ [(0 : Int) ≤ (1 : Int), (1 : Int) ≤ (((List.length (List.set l_106 0 ((IntKind.wrap .i64 ((List.getD l_106 0 ((0 : Int), (0 : Int))).1 - (mn2 (List.getD l_106 0 ((0 : Int), (0 : Int))).1 (IntKind.wrap .i64 ((List.getD ins_2 (Int.toNat t_27) ((0 : Int), ((0 : Int), ByteArray.empty))).2.1 - at_88))))), (List.getD l_106 0 ((0 : Int), (0 : Int))).2))) : Nat) : Int)] (by kernel_rfl) rfl rfl (ap2 (by decide) (ap1 c_123)) ?_
                    refine VL_nil (QB_end ?_)
                    refine VL_nil ?_
                    refine P_ghost [.own 7] 22 hn [4, 7, 8, 10, 11, 36, 37, 38] [1, 3, 13, 21, 22] ⟨[(4, .c (.h 1)), (7, .c (.h 22)), (8, .c (.h 3)), (10, .c (.h 13)), (11, .c (.val (.int .i64 (IntKind.wrap .i64 (at_88 + (mn2 (List.getD l_106 0 ((0 : Int), (0 : Int))).1 (IntKind.wrap .i64 ((List.getD ins_2 (Int.toNat t_27) ((0 : Int), ((0 : Int), ByteArray.empty))).2.1 - at_88)))))))), (36, .c (.imm (.slice (.pair (.int .i64) (.pair (.int .i64) .str))) ins_2)), (37, .c (.val (.int .i64 (((List.length ins_2) : Nat) : Int)))), (38, .c (.val (.int .i64 t_27)))], [(1, .box [.val (.int .i64 (0 : Int)), .val (.slice none 0 0)]), (3, .box [.val (.int .i64 ins_1), .h 21]), (13, .box [.val (.int .i64 (List.getD ins_2 (Int.toNat t_27) ((0 : Int), ((0 : Int), ByteArray.empty))).1), .val (.int .i64 (List.getD ins_2 (Int.toNat t_27) ((0 : Int), ((0 : Int), ByteArray.empty))).2.1), .val (.string (List.getD ins_2 (Int.toNat t_27) ((0 : Int), ((0 : Int), ByteArray.empty))).2.2)]), (21, .row (.pair (.int .i64) (.pair (.int .i64) .str)) y_182), (22, .row (.pair (.int .i64) (.int .i64)) (List.take ((List.length (List.set l_106 0 ((IntKind.wrap .i64 ((List.getD l_106 0 ((0 : Int), (0 : Int))).1 - (mn2 (List.getD l_106 0 ((0 : Int), (0 : Int))).1 (IntKind.wrap .i64 ((List.getD ins_2 (Int.toNat t_27) ((0 : Int), ((0 : Int), ByteArray.empty))).2.1 - at_88))))), (List.getD l_106 0 ((0 : Int), (0 : Int))).2))) - 1) (List.drop 1 (List.set l_106 0 ((IntKind.wrap .i64 ((List.getD l_106 0 ((0 : Int), (0 : Int))).1 - (mn2 (List.getD l_106 0 ((0 : Int), (0 : Int))).1 (IntKind.wrap .i64 ((List.getD ins_2 (Int.toNat t_27) ((0 : Int), ((0 : Int), ByteArray.empty))).2.1 - at_88))))), (List.getD l_106 0 ((0 : Int), (0 : Int))).2)))))], 23⟩ (by kernel_rfl) rfl rfl ?_
                    exact V_roundEnd ((List.take ((List.length (List.set l_106 0 ((IntKind.wrap .i64 ((List.getD l_106 0 ((0 : Int), (0 : Int))).1 - (mn2 (List.getD l_106 0 ((0 : Int), (0 : Int))).1 (IntKind.wrap .i64 ((List.getD ins_2 (Int.toNat t_27) ((0 : Int), ((0 : Int), ByteArray.empty))).2.1 - at_88))))), (List.getD l_106 0 ((0 : Int), (0 : Int))).2))) - 1) (List.drop 1 (List.set l_106 0 ((IntKind.wrap .i64 ((List.getD l_106 0 ((0 : Int), (0 : Int))).1 - (mn2 (List.getD l_106 0 ((0 : Int), (0 : Int))).1 (IntKind.wrap .i64 ((List.getD ins_2 (Int.toNat t_27) ((0 : Int), ((0 : Int), ByteArray.empty))).2.1 - at_88))))), (List.getD l_106 0 ((0 : Int), (0 : Int))).2)))), y_182, (IntKind.wrap .i64 (at_88 + (mn2 (List.getD l_106 0 ((0 : Int), (0 : Int))).1 (IntKind.wrap .i64 ((List.getD ins_2 (Int.toNat t_27) ((0 : Int), ((0 : Int), ByteArray.empty))).2.1 - at_88)))))) H_191 [(1, 1), (3, 3), (13, 13), (18, 22), (19, 21)] hn (by kernel_rfl) (by kernel_rfl) rfl rfl rfl
                  · intro b_122; have H_190 := of_f H_188 b_122
                    refine V_run hN hn 1 22 [4, 7, 8, 10, 11, 36, 37, 38, 87] [1, 3, 13, 18, 21] ⟨[(4, .c (.h 1)), (7, .c (.h 18)), (8, .c (.h 3)), (10, .c (.h 13)), (11, .c (.val (.int .i64 (IntKind.wrap .i64 (at_88 + (mn2 (List.getD l_106 0 ((0 : Int), (0 : Int))).1 (IntKind.wrap .i64 ((List.getD ins_2 (Int.toNat t_27) ((0 : Int), ((0 : Int), ByteArray.empty))).2.1 - at_88)))))))), (36, .c (.imm (.slice (.pair (.int .i64) (.pair (.int .i64) .str))) ins_2)), (37, .c (.val (.int .i64 (((List.length ins_2) : Nat) : Int)))), (38, .c (.val (.int .i64 t_27))), (87, .c (.val (.bool ((List.getD (List.set l_106 0 ((IntKind.wrap .i64 ((List.getD l_106 0 ((0 : Int), (0 : Int))).1 - (mn2 (List.getD l_106 0 ((0 : Int), (0 : Int))).1 (IntKind.wrap .i64 ((List.getD ins_2 (Int.toNat t_27) ((0 : Int), ((0 : Int), ByteArray.empty))).2.1 - at_88))))), (List.getD l_106 0 ((0 : Int), (0 : Int))).2)) 0 ((0 : Int), (0 : Int))).1 == (0 : Int)))))], [(1, .box [.val (.int .i64 (0 : Int)), .val (.slice none 0 0)]), (3, .box [.val (.int .i64 ins_1), .h 21]), (13, .box [.val (.int .i64 (List.getD ins_2 (Int.toNat t_27) ((0 : Int), ((0 : Int), ByteArray.empty))).1), .val (.int .i64 (List.getD ins_2 (Int.toNat t_27) ((0 : Int), ((0 : Int), ByteArray.empty))).2.1), .val (.string (List.getD ins_2 (Int.toNat t_27) ((0 : Int), ((0 : Int), ByteArray.empty))).2.2)]), (18, .row (.pair (.int .i64) (.int .i64)) (List.set l_106 0 ((IntKind.wrap .i64 ((List.getD l_106 0 ((0 : Int), (0 : Int))).1 - (mn2 (List.getD l_106 0 ((0 : Int), (0 : Int))).1 (IntKind.wrap .i64 ((List.getD ins_2 (Int.toNat t_27) ((0 : Int), ((0 : Int), ByteArray.empty))).2.1 - at_88))))), (List.getD l_106 0 ((0 : Int), (0 : Int))).2))), (21, .row (.pair (.int .i64) (.pair (.int .i64) .str)) y_182)], 22⟩ [] (by kernel_rfl) rfl rfl ap0 ?_
                    refine VL_nil (QB_end ?_)
                    refine VL_nil ?_
                    exact V_roundEnd ((List.set l_106 0 ((IntKind.wrap .i64 ((List.getD l_106 0 ((0 : Int), (0 : Int))).1 - (mn2 (List.getD l_106 0 ((0 : Int), (0 : Int))).1 (IntKind.wrap .i64 ((List.getD ins_2 (Int.toNat t_27) ((0 : Int), ((0 : Int), ByteArray.empty))).2.1 - at_88))))), (List.getD l_106 0 ((0 : Int), (0 : Int))).2)), y_182, (IntKind.wrap .i64 (at_88 + (mn2 (List.getD l_106 0 ((0 : Int), (0 : Int))).1 (IntKind.wrap .i64 ((List.getD ins_2 (Int.toNat t_27) ((0 : Int), ((0 : Int), ByteArray.empty))).2.1 - at_88)))))) H_190 [(1, 1), (3, 3), (13, 13), (18, 18), (19, 21)] hn (by kernel_rfl) (by kernel_rfl) rfl rfl rfl
              · intro b_110; have H_177 := of_f H_175 b_110
                refine VL_exit ?_
                refine QL_exit ?_
                refine QB_here ?_
                refine VL_nil (QB_end ?_)
                have H_192 := Option.some.inj (show some (l_106, x_107) = some q_168 from H_177); subst H_192
                refine VL_nil ?_
                exact QP_end (l_106, x_107) rfl [(1, 1), (3, 3), (18, 18), (19, 19)] hn (by kernel_rfl) (by kernel_rfl) rfl rfl rfl
            · intro y_171 hy; subst hy
              obtain ⟨l_125, x_126⟩ := y_171
              refine V_run hN hn 1 20 [4, 7, 8, 36, 37, 38] [1, 3, 18, 19] ⟨[(4, .c (.h 1)), (7, .c (.h 18)), (8, .c (.h 3)), (36, .c (.imm (.slice (.pair (.int .i64) (.pair (.int .i64) .str))) ins_2)), (37, .c (.val (.int .i64 (((List.length ins_2) : Nat) : Int)))), (38, .c (.val (.int .i64 (IntKind.wrap .i64 (t_27 + (1 : Int))))))], [(1, .box [.val (.int .i64 (0 : Int)), .val (.slice none 0 0)]), (3, .box [.val (.int .i64 ins_1), .h 19]), (18, .row (.pair (.int .i64) (.int .i64)) l_125), (19, .row (.pair (.int .i64) (.pair (.int .i64) .str)) x_126)], 20⟩ [] (by kernel_rfl) rfl rfl ap0 ?_
              refine VL_nil ?_
              exact V_roundEnd (l_125, x_126, (IntKind.wrap .i64 (t_27 + (1 : Int)))) H_170 [(1, 1), (3, 3), (11, 18), (12, 19)] hn (by kernel_rfl) (by kernel_rfl) rfl rfl rfl
          · intro b_81; have H_167 := of_f H_165 b_81
            refine VL_exit ?_
            refine QL_exit ?_
            refine QB_here ?_
            have H_193 := Option.some.inj (show some x_78 = some q_160 from H_167); subst H_193
            refine VL_nil ?_
            exact QP_end x_78 rfl [(1, 1), (3, 3), (12, 12)] hn (by kernel_rfl) (by kernel_rfl) rfl rfl rfl
        · intro y_163 hy; subst hy
          skip
          skip
          refine V_run hN hn 1 13 [4, 8] [1, 3, 12] ⟨[(4, .c (.h 1)), (8, .c (.h 3))], [(1, .box [.val (.int .i64 (0 : Int)), .val (.slice none 0 0)]), (3, .box [.val (.int .i64 ins_1), .h 12]), (12, .row (.pair (.int .i64) (.pair (.int .i64) .str)) y_163)], 13⟩ [] (by kernel_rfl) rfl rfl ap0 ?_
          refine V_ghost [.shut 12] 13 hn [4, 8] [1, 3] ⟨[(4, .c (.h 1)), (8, .c (.h 3))], [(1, .box [.val (.int .i64 (0 : Int)), .val (.slice none 0 0)]), (3, .box [.val (.int .i64 ins_1), .imm (.slice (.pair (.int .i64) (.pair (.int .i64) .str))) y_163])], 13⟩ (by kernel_rfl) rfl rfl ?_
          obtain ⟨r_130, h_131, H_194⟩ := of_bind H_162
          refine V_reg hN hn [(1, ⟨43, 1, [.c (.h 0)], [(0, .box [.val (.int .i64 ins_1), .imm (.slice (.pair (.int .i64) (.pair (.int .i64) .str))) y_163])], .tup [(true, [.val (.int .i64 r_130.1), .imm (.slice (.pair (.int .i64) (.pair (.int .i64) .str))) r_130.2.1]), (false, [.val (.int .i64 r_130.2.2)])], [(0, .box [.val (.int .i64 ins_1), .imm (.slice (.pair (.int .i64) (.pair (.int .i64) .str))) y_163])], [(0, 3)], 13⟩)] [] (calls_cons (delta_Maker_Delta_b_ee1c6_spec K ins_1 y_163 r_130 h_131) (by kernel_rfl) calls_nil) 13 [4, 5] [1] ⟨[(4, .c (.h 1)), (5, .c (.val (.int .i64 r_130.2.2)))], [(1, .box [.val (.int .i64 r_130.1), .imm (.slice (.pair (.int .i64) (.pair (.int .i64) .str))) r_130.2.1])], 13⟩ [] (by kernel_rfl) rfl rfl ap0 (by kernel_rfl) (by kernel_rfl) ?_
          have H_195 := Option.some.inj (show some (r_130.1, r_130.2.1, r_130.2.2) = some r from H_194); subst H_195
          refine VL_ret ?_
          exact P_to [(4, .c (.h 1)), (5, .c (.val (.int .i64 r_130.2.2)))] [(1, .box [.val (.int .i64 r_130.1), .imm (.slice (.pair (.int .i64) (.pair (.int .i64) .str))) r_130.2.1])] [(1, 1)] hn (by kernel_rfl) (by kernel_rfl) rfl rfl rfl (QF_retS (by kernel_rfl) (by kernel_rfl) rfl)

theorem factor_Inserted_spec (K : Nat) (d_1 : Int) (d_2 : (List (Int × (Int × ByteArray)))) (r : ((Option ((List (Int × Int)) × Int)) × Int)) (H : factor_Inserted K d_1 d_2 = some r) : Spec Try.prog 11 0 [.agg [.val (.int .i64 d_1), .imm (.slice (.pair (.int .i64) (.pair (.int .i64) .str))) d_2]] [] (.tup [(false, [.imm (.opt (.pair (.slice (.pair (.int .i64) (.int .i64))) (.int .i64))) r.1]), (false, [.val (.int .i64 r.2)])]) [] := by
  refine Spec_mk (fn := Try.f11) (c := (Try.f11.body).get!) Try.func11 (by kernel_rfl) rfl ?_
  intro C hN hn
  replace hN : C.N = 35 := hN
  unfold factor_Inserted at H
  refine V_run hN hn 4 0 [1] [0] ⟨[(1, .c (.h 0))], [(0, .box [.val (.int .i64 d_1), .imm (.slice (.pair (.int .i64) (.pair (.int .i64) .str))) d_2])], 1⟩ [] (by kernel_rfl) rfl rfl ap0 ?_
  obtain ⟨r_4, h_5, H_32⟩ := of_bind H
  refine V_reg hN hn [(1, ⟨44, 0, [.agg [.val (.int .i64 d_1), .imm (.slice (.pair (.int .i64) (.pair (.int .i64) .str))) d_2]], [], .c (.val (.bool r_4)), [], [], 1⟩)] [] (calls_cons (delta_Is_spec K d_1 d_2 r_4 h_5) (by kernel_rfl) calls_nil) 1 [1, 9] [0] ⟨[(1, .c (.h 0)), (9, .c (.val (.bool (!r_4))))], [(0, .box [.val (.int .i64 d_1), .imm (.slice (.pair (.int .i64) (.pair (.int .i64) .str))) d_2])], 1⟩ [] (by kernel_rfl) rfl rfl ap0 (by kernel_rfl) (by kernel_rfl) ?_
  refine VL_cond ((!r_4)) (by kernel_rfl) ?_ ?_
  · intro b_7; have H_33 := of_t H_32 b_7
    refine V_run hN hn 2 1 [2, 3] [] ⟨[(2, .c (.val (.pointer none))), (3, .c (.val (.int .i64 (12 : Int))))], [], 1⟩ [] (by kernel_rfl) rfl rfl ap0 ?_
    have H_35 := Option.some.inj (show some ((none : (Option ((List (Int × Int)) × Int))), (12 : Int)) = some r from H_33); subst H_35
    refine VL_ret ?_
    refine P_ghost [.read 2 (.opt (.pair (.slice (.pair (.int .i64) (.int .i64))) (.int .i64)))] 1 hn [2, 3] [] ⟨[(2, .c (.imm (.opt (.pair (.slice (.pair (.int .i64) (.int .i64))) (.int .i64))) (none : (Option ((List (Int × Int)) × Int))))), (3, .c (.val (.int .i64 (12 : Int))))], [], 1⟩ (by kernel_rfl) rfl rfl ?_
    exact P_to [(2, .c (.imm (.opt (.pair (.slice (.pair (.int .i64) (.int .i64))) (.int .i64))) (none : (Option ((List (Int × Int)) × Int))))), (3, .c (.val (.int .i64 (12 : Int))))] [] [] hn (by kernel_rfl) (by kernel_rfl) rfl rfl rfl (QF_retS (by kernel_rfl) (by kernel_rfl) rfl)
  · intro b_7; have H_34 := of_f H_32 b_7
    refine V_run hN hn 6 1 [4, 11, 12, 13] [] ⟨[(4, .c (.val (.slice none 0 0))), (11, .c (.imm (.slice (.pair (.int .i64) (.pair (.int .i64) .str))) d_2)), (12, .c (.val (.int .i64 (((List.length d_2) : Nat) : Int)))), (13, .c (.val (.int .i64 (0 : Int))))], [], 1⟩ [] (by kernel_rfl) rfl rfl ap0 ?_
    obtain ⟨q_36, H_37, H_38⟩ := of_bind H_34
    refine V_cut (Y := (List (Int × Int))) (R := (List (Int × Int))) q_36 (fun y => y) (fun y => [(4, .c (.h 5))]) (fun y => [(5, .row (.pair (.int .i64) (.int .i64)) y)]) ?_ ?_
    · skip
      refine VL_block ?_
      refine V_ghost [.nilSlot 4 (.pair (.int .i64) (.int .i64))] 1 hn [4, 11, 12, 13] [1] ⟨[(4, .c (.h 1)), (11, .c (.imm (.slice (.pair (.int .i64) (.pair (.int .i64) .str))) d_2)), (12, .c (.val (.int .i64 (((List.length d_2) : Nat) : Int)))), (13, .c (.val (.int .i64 (0 : Int))))], [(1, .row (.pair (.int .i64) (.int .i64)) ([] : List (Int × Int)))], 2⟩ (by kernel_rfl) rfl rfl ?_
      refine V_to [(4, .c (.h 5)), (11, .c (.imm (.slice (.pair (.int .i64) (.pair (.int .i64) .str))) d_2)), (12, .c (.val (.int .i64 (((List.length d_2) : Nat) : Int)))), (13, .c (.val (.int .i64 (0 : Int))))] [(5, .row (.pair (.int .i64) (.int .i64)) ([] : List (Int × Int)))] [(5, 1)] hn (by kernel_rfl) (by kernel_rfl) rfl rfl rfl ?_
      refine VL_loop (X := ((List (Int × Int)) × Int)) (fun x => [(4, .c (.h 5)), (11, .c (.imm (.slice (.pair (.int .i64) (.pair (.int .i64) .str))) d_2)), (12, .c (.val (.int .i64 (((List.length d_2) : Nat) : Int)))), (13, .c (.val (.int .i64 x.2)))]) (fun x => [(5, .row (.pair (.int .i64) (.int .i64)) x.1)]) (fun k x => factor_Inserted.l0 K d_2 k x.1 x.2 = some q_36) K (([] : List (Int × Int)), (0 : Int)) H_37 (fun _ h => no_none h) ?_
      intro k_18 x_18 H_40
      obtain ⟨out_17, t_10⟩ := x_18
      have H_41 : factor_Inserted.l0 K d_2 (k_18 + 1) out_17 t_10 = some q_36 := H_40
      rw [factor_Inserted.l0] at H_41
      refine V_run hN hn 3 6 [4, 11, 12, 13, 14] [5] ⟨[(4, .c (.h 5)), (11, .c (.imm (.slice (.pair (.int .i64) (.pair (.int .i64) .str))) d_2)), (12, .c (.val (.int .i64 (((List.length d_2) : Nat) : Int)))), (13, .c (.val (.int .i64 t_10))), (14, .c (.val (.bool (decide (t_10 < (((List.length d_2) : Nat) : Int))))))], [(5, .row (.pair (.int .i64) (.int .i64)) out_17)], 6⟩ [] (by kernel_rfl) rfl rfl ap0 ?_
      refine VL_cond ((decide (t_10 < (((List.length d_2) : Nat) : Int)))) (by kernel_rfl) ?_ ?_
      · intro b_20; have H_42 := of_t H_41 b_20
        refine V_run hN hn 2 6 [4, 11, 12, 13, 14] [5] ⟨[(4, .c (.h 5)), (11, .c (.imm (.slice (.pair (.int .i64) (.pair (.int .i64) .str))) d_2)), (12, .c (.val (.int .i64 (((List.length d_2) : Nat) : Int)))), (13, .c (.val (.int .i64 t_10))), (14, .c (.val (.bool (decide (t_10 < (((List.length d_2) : Nat) : Int))))))], [(5, .row (.pair (.int .i64) (.int .i64)) out_17)], 6⟩ [] (by kernel_rfl) rfl rfl ap0 ?_
        refine VL_block ?_
        obtain ⟨c_22, H_44⟩ := of_if H_42
        refine V_run hN hn 3 6 [4, 11, 12, 13] [8] ⟨[(4, .c (.h 8)), (11, .c (.imm (.slice (.pair (.int .i64) (.pair (.int .i64) .str))) d_2)), (12, .c (.val (.int .i64 (((List.length d_2) : Nat) : Int)))), (13, .c (.val (.int .i64 t_10)))], [(8, .row (.pair (.int .i64) (.int .i64)) (out_17 ++ ([((IntKind.wrap .i64 ((List.getD d_2 (Int.toNat t_10) ((0 : Int), ((0 : Int), ByteArray.empty))).2.1 - (List.getD d_2 (Int.toNat t_10) ((0 : Int), ((0 : Int), ByteArray.empty))).1)), (0 : Int)), ((((ByteArray.size (List.getD d_2 (Int.toNat t_10) ((0 : Int), ((0 : Int), ByteArray.empty))).2.2) : Nat) : Int), (1 : Int))] : List (Int × Int))))], 9⟩ [0 ≤ t_10, t_10 < (((List.length d_2) : Nat) : Int), (List.length out_17 + List.length ([((IntKind.wrap .i64 ((List.getD d_2 (Int.toNat t_10) ((0 : Int), ((0 : Int), ByteArray.empty))).2.1 - (List.getD d_2 (Int.toNat t_10) ((0 : Int), ((0 : Int), ByteArray.empty))).1)), (0 : Int)), ((((ByteArray.size (List.getD d_2 (Int.toNat t_10) ((0 : Int), ((0 : Int), ByteArray.empty))).2.2) : Nat) : Int), (1 : Int))] : List (Int × Int))) * 16 ≤ 140737488355328] (by kernel_rfl) rfl rfl (ap2 c_22.1 (ap2 c_22.2.1 (ap1 c_22.2.2))) ?_
        refine VL_nil (QB_end ?_)
        refine V_run hN hn 1 9 [4, 11, 12, 13] [8] ⟨[(4, .c (.h 8)), (11, .c (.imm (.slice (.pair (.int .i64) (.pair (.int .i64) .str))) d_2)), (12, .c (.val (.int .i64 (((List.length d_2) : Nat) : Int)))), (13, .c (.val (.int .i64 (IntKind.wrap .i64 (t_10 + (1 : Int))))))], [(8, .row (.pair (.int .i64) (.int .i64)) (out_17 ++ ([((IntKind.wrap .i64 ((List.getD d_2 (Int.toNat t_10) ((0 : Int), ((0 : Int), ByteArray.empty))).2.1 - (List.getD d_2 (Int.toNat t_10) ((0 : Int), ((0 : Int), ByteArray.empty))).1)), (0 : Int)), ((((ByteArray.size (List.getD d_2 (Int.toNat t_10) ((0 : Int), ((0 : Int), ByteArray.empty))).2.2) : Nat) : Int), (1 : Int))] : List (Int × Int))))], 9⟩ [] (by kernel_rfl) rfl rfl ap0 ?_
        refine VL_nil ?_
        exact V_roundEnd ((out_17 ++ ([((IntKind.wrap .i64 ((List.getD d_2 (Int.toNat t_10) ((0 : Int), ((0 : Int), ByteArray.empty))).2.1 - (List.getD d_2 (Int.toNat t_10) ((0 : Int), ((0 : Int), ByteArray.empty))).1)), (0 : Int)), ((((ByteArray.size (List.getD d_2 (Int.toNat t_10) ((0 : Int), ((0 : Int), ByteArray.empty))).2.2) : Nat) : Int), (1 : Int))] : List (Int × Int))), (IntKind.wrap .i64 (t_10 + (1 : Int)))) H_44 [(5, 8)] hn (by kernel_rfl) (by kernel_rfl) rfl rfl rfl
      · intro b_20; have H_43 := of_f H_41 b_20
        refine VL_exit ?_
        refine QL_exit ?_
        refine QB_here ?_
        have H_45 := Option.some.inj (show some out_17 = some q_36 from H_43); subst H_45
        refine VL_nil ?_
        exact QP_end out_17 rfl [(5, 5)] hn (by kernel_rfl) (by kernel_rfl) rfl rfl rfl
    · intro y_39 hy; subst hy
      skip
      skip
      refine V_run hN hn 1 6 [4] [5] ⟨[(4, .c (.h 5))], [(5, .row (.pair (.int .i64) (.int .i64)) y_39)], 6⟩ [] (by kernel_rfl) rfl rfl ap0 ?_
      obtain ⟨r_26, h_27, H_46⟩ := of_bind H_38
      refine V_reg hN hn [(1, ⟨45, 1, [.c (.h 0)], [(0, .row (.pair (.int .i64) (.int .i64)) y_39)], .tup [(false, [.imm (.opt (.pair (.slice (.pair (.int .i64) (.int .i64))) (.int .i64))) r_26.1]), (false, [.val (.int .i64 r_26.2)])], [(0, .row (.pair (.int .i64) (.int .i64)) y_39)], [(0, 5)], 6⟩)] [] (calls_cons (subset_Pack_r_spec K y_39 r_26 h_27) (by kernel_rfl) calls_nil) 6 [2, 3] [] ⟨[(2, .c (.imm (.opt (.pair (.slice (.pair (.int .i64) (.int .i64))) (.int .i64))) r_26.1)), (3, .c (.val (.int .i64 r_26.2)))], [], 6⟩ [] (by kernel_rfl) rfl rfl ap0 (by kernel_rfl) (by kernel_rfl) ?_
      have H_47 := Option.some.inj (show some (r_26.1, r_26.2) = some r from H_46); subst H_47
      refine VL_ret ?_
      exact P_to [(2, .c (.imm (.opt (.pair (.slice (.pair (.int .i64) (.int .i64))) (.int .i64))) r_26.1)), (3, .c (.val (.int .i64 r_26.2)))] [] [] hn (by kernel_rfl) (by kernel_rfl) rfl rfl rfl (QF_retS (by kernel_rfl) (by kernel_rfl) rfl)

theorem delta_Is_sgn_spec (K : Nat) (d_1 : Int) (r : Bool) (H : delta_Is_sgn K d_1 = some r) : Spec Try.prog 44 0 [.agg [.val (.int .i64 d_1), .val (.slice none 0 0)]] [] (.c (.val (.bool r))) [] := by
  refine Spec_mk (fn := Try.f44) (c := (Try.f44.body).get!) Try.func44 (by kernel_rfl) rfl ?_
  intro C hN hn
  replace hN : C.N = 68 := hN
  unfold delta_Is_sgn at H
  refine V_run hN hn 4 0 [1] [0] ⟨[(1, .c (.h 0))], [(0, .box [.val (.int .i64 d_1), .val (.slice none 0 0)])], 1⟩ [] (by kernel_rfl) rfl rfl ap0 ?_
  obtain ⟨q_22, H_23, H_24⟩ := of_bind H
  refine V_cut (Y := Bool) (R := Bool) q_22 (fun y => y) (fun y => [(1, .c (.h 0)), (21, .c (.val (.bool y)))]) (fun y => [(0, .box [.val (.int .i64 d_1), .val (.slice none 0 0)])]) ?_ ?_
  · skip
    rcases Bool.eq_false_or_eq_true ((decide (d_1 < (0 : Int)))) with b_3 | b_3
    · have H_26 := of_t H_23 b_3
      refine V_reg hN hn [] [(11, true)] calls_nil 1 [1, 21] [0] ⟨[(1, .c (.h 0)), (21, .c (.val (.bool true)))], [(0, .box [.val (.int .i64 d_1), .val (.slice none 0 0)])], 1⟩ [(decide (d_1 < (0 : Int))) = true] (by kernel_rfl) rfl rfl (ap1 b_3) (by kernel_rfl) (by kernel_rfl) ?_
      have H_28 := Option.some.inj (show some true = some q_22 from H_26); subst H_28
      refine VL_nil ?_
      exact QP_end true rfl [(0, 0)] hn (by kernel_rfl) (by kernel_rfl) rfl rfl rfl
    · have H_27 := of_f H_23 b_3
      rcases Bool.eq_false_or_eq_true ((decide (d_1 > (20000 : Int)))) with b_5 | b_5
      · have H_29 := of_t H_27 b_5
        refine V_reg hN hn [] [(11, false), (16, true)] calls_nil 1 [1, 21] [0] ⟨[(1, .c (.h 0)), (21, .c (.val (.bool true)))], [(0, .box [.val (.int .i64 d_1), .val (.slice none 0 0)])], 1⟩ [(decide (d_1 < (0 : Int))) = false, (decide (d_1 > (20000 : Int))) = true] (by kernel_rfl) rfl rfl (ap2 b_3 (ap1 b_5)) (by kernel_rfl) (by kernel_rfl) ?_
        have H_31 := Option.some.inj (show some true = some q_22 from H_29); subst H_31
        refine VL_nil ?_
        exact QP_end true rfl [(0, 0)] hn (by kernel_rfl) (by kernel_rfl) rfl rfl rfl
      · have H_30 := of_f H_27 b_5
        refine V_reg hN hn [] [(11, false), (16, false)] calls_nil 1 [1, 21] [0] ⟨[(1, .c (.h 0)), (21, .c (.val (.bool false)))], [(0, .box [.val (.int .i64 d_1), .val (.slice none 0 0)])], 1⟩ [(decide (d_1 < (0 : Int))) = false, (decide (d_1 > (20000 : Int))) = false] (by kernel_rfl) rfl rfl (ap2 b_3 (ap1 b_5)) (by kernel_rfl) (by kernel_rfl) ?_
        have H_32 := Option.some.inj (show some false = some q_22 from H_30); subst H_32
        refine VL_nil ?_
        exact QP_end false rfl [(0, 0)] hn (by kernel_rfl) (by kernel_rfl) rfl rfl rfl
  · intro y_25 hy; subst hy
    skip
    skip
    refine VL_cond (y_25) (by kernel_rfl) ?_ ?_
    · intro b_9; have H_33 := of_t H_24 b_9
      refine V_run hN hn 2 1 [2] [] ⟨[(2, .c (.val (.bool false)))], [], 1⟩ [] (by kernel_rfl) rfl rfl ap0 ?_
      have H_35 := Option.some.inj (show some false = some r from H_33); subst H_35
      refine VL_ret ?_
      exact P_to [(2, .c (.val (.bool false)))] [] [] hn (by kernel_rfl) (by kernel_rfl) rfl rfl rfl (QF_retS (by kernel_rfl) (by kernel_rfl) rfl)
    · intro b_9; have H_34 := of_f H_24 b_9
      refine V_run hN hn 6 1 [1, 3, 4, 23, 24, 25] [0] ⟨[(1, .c (.h 0)), (3, .c (.val (.int .i64 (0 : Int)))), (4, .c (.val (.int .i64 (0 : Int)))), (23, .c (.val (.slice none 0 0))), (24, .c (.val (.int .i64 (0 : Int)))), (25, .c (.val (.int .i64 (0 : Int))))], [(0, .box [.val (.int .i64 d_1), .val (.slice none 0 0)])], 1⟩ [] (by kernel_rfl) rfl rfl ap0 ?_
      refine VL_block ?_
      refine V_to [(1, .c (.h 0)), (3, .c (.val (.int .i64 (0 : Int)))), (4, .c (.val (.int .i64 (0 : Int)))), (23, .c (.val (.slice none 0 0))), (24, .c (.val (.int .i64 (0 : Int)))), (25, .c (.val (.int .i64 (0 : Int))))] [(0, .box [.val (.int .i64 d_1), .val (.slice none 0 0)])] [(0, 0)] hn (by kernel_rfl) (by kernel_rfl) rfl rfl rfl ?_
      refine VL_loop (X := (Int × Int × Int)) (fun x => [(1, .c (.h 0)), (3, .c (.val (.int .i64 x.1))), (4, .c (.val (.int .i64 x.2.1))), (23, .c (.val (.slice none 0 0))), (24, .c (.val (.int .i64 (0 : Int)))), (25, .c (.val (.int .i64 x.2.2)))]) (fun x => [(0, .box [.val (.int .i64 d_1), .val (.slice none 0 0)])]) (fun k x => delta_Is_sgn.l0 K k x.1 x.2.1 x.2.2 = some r) K ((0 : Int), (0 : Int), (0 : Int)) H_34 (fun _ h => no_none h) ?_
      intro k_15 x_15 H_36
      obtain ⟨size_12, to_13, t_14⟩ := x_15
      have H_37 : delta_Is_sgn.l0 K (k_15 + 1) size_12 to_13 t_14 = some r := H_36
      rw [delta_Is_sgn.l0] at H_37
      refine V_run hN hn 3 1 [1, 3, 4, 23, 24, 25, 26] [0] ⟨[(1, .c (.h 0)), (3, .c (.val (.int .i64 size_12))), (4, .c (.val (.int .i64 to_13))), (23, .c (.val (.slice none 0 0))), (24, .c (.val (.int .i64 (0 : Int)))), (25, .c (.val (.int .i64 t_14))), (26, .c (.val (.bool (decide (t_14 < (0 : Int))))))], [(0, .box [.val (.int .i64 d_1), .val (.slice none 0 0)])], 1⟩ [] (by kernel_rfl) rfl rfl ap0 ?_
      refine VL_cond ((decide (t_14 < (0 : Int)))) (by kernel_rfl) ?_ ?_
      · intro b_17; have H_38 := of_t H_37 b_17
        refine V_run hN hn 2 1 [1, 3, 4, 23, 24, 25, 26] [0] ⟨[(1, .c (.h 0)), (3, .c (.val (.int .i64 size_12))), (4, .c (.val (.int .i64 to_13))), (23, .c (.val (.slice none 0 0))), (24, .c (.val (.int .i64 (0 : Int)))), (25, .c (.val (.int .i64 t_14))), (26, .c (.val (.bool (decide (t_14 < (0 : Int))))))], [(0, .box [.val (.int .i64 d_1), .val (.slice none 0 0)])], 1⟩ [] (by kernel_rfl) rfl rfl ap0 ?_
        refine VL_block ?_
        exact (no_none H_38).elim
      · intro b_17; have H_39 := of_f H_37 b_17
        refine VL_exit ?_
        refine QL_exit ?_
        refine QB_here ?_
        refine V_run hN hn 2 1 [2] [] ⟨[(2, .c (.val (.bool true)))], [], 1⟩ [] (by kernel_rfl) rfl rfl ap0 ?_
        have H_40 := Option.some.inj (show some true = some r from H_39); subst H_40
        refine VL_ret ?_
        exact P_to [(2, .c (.val (.bool true)))] [] [] hn (by kernel_rfl) (by kernel_rfl) rfl rfl rfl (QF_retS (by kernel_rfl) (by kernel_rfl) rfl)

theorem factor_Deleted_sgn_spec (K : Nat) (d_1 : Int) (r : ((Option ((List (Int × Int)) × Int)) × Int)) (H : factor_Deleted_sgn K d_1 = some r) : Spec Try.prog 12 0 [.agg [.val (.int .i64 d_1), .val (.slice none 0 0)]] [] (.tup [(false, [.imm (.opt (.pair (.slice (.pair (.int .i64) (.int .i64))) (.int .i64))) r.1]), (false, [.val (.int .i64 r.2)])]) [] := by
  refine Spec_mk (fn := Try.f12) (c := (Try.f12.body).get!) Try.func12 (by kernel_rfl) rfl ?_
  intro C hN hn
  replace hN : C.N = 49 := hN
  unfold factor_Deleted_sgn at H
  refine V_run hN hn 4 0 [1] [0] ⟨[(1, .c (.h 0))], [(0, .box [.val (.int .i64 d_1), .val (.slice none 0 0)])], 1⟩ [] (by kernel_rfl) rfl rfl ap0 ?_
  obtain ⟨r_3, h_4, H_23⟩ := of_bind H
  refine V_reg hN hn [(1, ⟨44, 0, [.agg [.val (.int .i64 d_1), .val (.slice none 0 0)]], [], .c (.val (.bool r_3)), [], [], 1⟩)] [] (calls_cons (delta_Is_sgn_spec K d_1 r_3 h_4) (by kernel_rfl) calls_nil) 1 [1, 10] [0] ⟨[(1, .c (.h 0)), (10, .c (.val (.bool (!r_3))))], [(0, .box [.val (.int .i64 d_1), .val (.slice none 0 0)])], 1⟩ [] (by kernel_rfl) rfl rfl ap0 (by kernel_rfl) (by kernel_rfl) ?_
  refine VL_cond ((!r_3)) (by kernel_rfl) ?_ ?_
  · intro b_6; have H_24 := of_t H_23 b_6
    refine V_run hN hn 2 1 [2, 3] [] ⟨[(2, .c (.val (.pointer none))), (3, .c (.val (.int .i64 (12 : Int))))], [], 1⟩ [] (by kernel_rfl) rfl rfl ap0 ?_
    have H_26 := Option.some.inj (show some ((none : (Option ((List (Int × Int)) × Int))), (12 : Int)) = some r from H_24); subst H_26
    refine VL_ret ?_
    refine P_ghost [.read 2 (.opt (.pair (.slice (.pair (.int .i64) (.int .i64))) (.int .i64)))] 1 hn [2, 3] [] ⟨[(2, .c (.imm (.opt (.pair (.slice (.pair (.int .i64) (.int .i64))) (.int .i64))) (none : (Option ((List (Int × Int)) × Int))))), (3, .c (.val (.int .i64 (12 : Int))))], [], 1⟩ (by kernel_rfl) rfl rfl ?_
    exact P_to [(2, .c (.imm (.opt (.pair (.slice (.pair (.int .i64) (.int .i64))) (.int .i64))) (none : (Option ((List (Int × Int)) × Int))))), (3, .c (.val (.int .i64 (12 : Int))))] [] [] hn (by kernel_rfl) (by kernel_rfl) rfl rfl rfl (QF_retS (by kernel_rfl) (by kernel_rfl) rfl)
  · intro b_6; have H_25 := of_f H_23 b_6
    refine V_run hN hn 8 1 [1, 4, 5, 12, 13, 14] [0] ⟨[(1, .c (.h 0)), (4, .c (.val (.slice none 0 0))), (5, .c (.val (.int .i64 (0 : Int)))), (12, .c (.val (.slice none 0 0))), (13, .c (.val (.int .i64 (0 : Int)))), (14, .c (.val (.int .i64 (0 : Int))))], [(0, .box [.val (.int .i64 d_1), .val (.slice none 0 0)])], 1⟩ [] (by kernel_rfl) rfl rfl ap0 ?_
    obtain ⟨q_27, H_28, H_29⟩ := of_bind H_25
    refine V_cut (Y := Int) (R := Int) q_27 (fun y => y) (fun y => [(1, .c (.h 0)), (4, .c (.h 1)), (5, .c (.val (.int .i64 y)))]) (fun y => [(0, .box [.val (.int .i64 d_1), .val (.slice none 0 0)]), (1, .row (.pair (.int .i64) (.int .i64)) ([] : List (Int × Int)))]) ?_ ?_
    · skip
      refine VL_block ?_
      refine V_ghost [.nilSlot 4 (.pair (.int .i64) (.int .i64))] 1 hn [1, 4, 5, 12, 13, 14] [0, 1] ⟨[(1, .c (.h 0)), (4, .c (.h 1)), (5, .c (.val (.int .i64 (0 : Int)))), (12, .c (.val (.slice none 0 0))), (13, .c (.val (.int .i64 (0 : Int)))), (14, .c (.val (.int .i64 (0 : Int))))], [(0, .box [.val (.int .i64 d_1), .val (.slice none 0 0)]), (1, .row (.pair (.int .i64) (.int .i64)) ([] : List (Int × Int)))], 2⟩ (by kernel_rfl) rfl rfl ?_
      refine V_to [(1, .c (.h 0)), (4, .c (.h 1)), (5, .c (.val (.int .i64 (0 : Int)))), (12, .c (.val (.slice none 0 0))), (13, .c (.val (.int .i64 (0 : Int)))), (14, .c (.val (.int .i64 (0 : Int))))] [(0, .box [.val (.int .i64 d_1), .val (.slice none 0 0)]), (1, .row (.pair (.int .i64) (.int .i64)) ([] : List (Int × Int)))] [(0, 0), (1, 1)] hn (by kernel_rfl) (by kernel_rfl) rfl rfl rfl ?_
      refine VL_loop (X := (Int × Int)) (fun x => [(1, .c (.h 0)), (4, .c (.h 1)), (5, .c (.val (.int .i64 x.1))), (12, .c (.val (.slice none 0 0))), (13, .c (.val (.int .i64 (0 : Int)))), (14, .c (.val (.int .i64 x.2)))]) (fun x => [(0, .box [.val (.int .i64 d_1), .val (.slice none 0 0)]), (1, .row (.pair (.int .i64) (.int .i64)) ([] : List (Int × Int)))]) (fun k x => factor_Deleted_sgn.l0 K k x.1 x.2 = some q_27) K ((0 : Int), (0 : Int)) H_28 (fun _ h => no_none h) ?_
      intro k_11 x_11 H_31
      obtain ⟨at_9, t_10⟩ := x_11
      have H_32 : factor_Deleted_sgn.l0 K (k_11 + 1) at_9 t_10 = some q_27 := H_31
      rw [factor_Deleted_sgn.l0] at H_32
      refine V_run hN hn 3 2 [1, 4, 5, 12, 13, 14, 15] [0, 1] ⟨[(1, .c (.h 0)), (4, .c (.h 1)), (5, .c (.val (.int .i64 at_9))), (12, .c (.val (.slice none 0 0))), (13, .c (.val (.int .i64 (0 : Int)))), (14, .c (.val (.int .i64 t_10))), (15, .c (.val (.bool (decide (t_10 < (0 : Int))))))], [(0, .box [.val (.int .i64 d_1), .val (.slice none 0 0)]), (1, .row (.pair (.int .i64) (.int .i64)) ([] : List (Int × Int)))], 2⟩ [] (by kernel_rfl) rfl rfl ap0 ?_
      refine VL_cond ((decide (t_10 < (0 : Int)))) (by kernel_rfl) ?_ ?_
      · intro b_13; have H_33 := of_t H_32 b_13
        refine V_run hN hn 2 2 [1, 4, 5, 12, 13, 14, 15] [0, 1] ⟨[(1, .c (.h 0)), (4, .c (.h 1)), (5, .c (.val (.int .i64 at_9))), (12, .c (.val (.slice none 0 0))), (13, .c (.val (.int .i64 (0 : Int)))), (14, .c (.val (.int .i64 t_10))), (15, .c (.val (.bool (decide (t_10 < (0 : Int))))))], [(0, .box [.val (.int .i64 d_1), .val (.slice none 0 0)]), (1, .row (.pair (.int .i64) (.int .i64)) ([] : List (Int × Int)))], 2⟩ [] (by kernel_rfl) rfl rfl ap0 ?_
        refine VL_block ?_
        exact (no_none H_33).elim
      · intro b_13; have H_34 := of_f H_32 b_13
        refine VL_exit ?_
        refine QL_exit ?_
        refine QB_here ?_
        have H_35 := Option.some.inj (show some at_9 = some q_27 from H_34); subst H_35
        refine VL_nil ?_
        exact QP_end at_9 rfl [(0, 0), (1, 1)] hn (by kernel_rfl) (by kernel_rfl) rfl rfl rfl
    · intro y_30 hy; subst hy
      skip
      skip
      refine V_run hN hn 1 2 [1, 4, 5] [0, 1] ⟨[(1, .c (.h 0)), (4, .c (.h 1)), (5, .c (.val (.int .i64 y_30)))], [(0, .box [.val (.int .i64 d_1), .val (.slice none 0 0)]), (1, .row (.pair (.int .i64) (.int .i64)) ([] : List (Int × Int)))], 2⟩ [] (by kernel_rfl) rfl rfl ap0 ?_
      obtain ⟨r_17, h_18, H_36⟩ := of_bind H_29
      obtain ⟨c_19, H_37⟩ := of_if H_36
      refine V_reg hN hn [(8, ⟨45, 1, [.c (.h 0)], [(0, .row (.pair (.int .i64) (.int .i64)) (([] : List (Int × Int)) ++ ([((IntKind.wrap .i64 (d_1 - y_30)), (1 : Int))] : List (Int × Int))))], .tup [(false, [.imm (.opt (.pair (.slice (.pair (.int .i64) (.int .i64))) (.int .i64))) r_17.1]), (false, [.val (.int .i64 r_17.2)])], [(0, .row (.pair (.int .i64) (.int .i64)) (([] : List (Int × Int)) ++ ([((IntKind.wrap .i64 (d_1 - y_30)), (1 : Int))] : List (Int × Int))))], [(0, 3)], 4⟩)] [] (calls_cons (subset_Pack_r_spec K (([] : List (Int × Int)) ++ ([((IntKind.wrap .i64 (d_1 - y_30)), (1 : Int))] : List (Int × Int))) r_17 h_18) (by kernel_rfl) calls_nil) 2 [2, 3] [] ⟨[(2, .c (.imm (.opt (.pair (.slice (.pair (.int .i64) (.int .i64))) (.int .i64))) r_17.1)), (3, .c (.val (.int .i64 r_17.2)))], [], 4⟩ [(List.length ([] : List (Int × Int)) + List.length ([((IntKind.wrap .i64 (d_1 - y_30)), (1 : Int))] : List (Int × Int))) * 16 ≤ 140737488355328] (by kernel_rfl) rfl rfl (ap1 c_19) (by kernel_rfl) (by kernel_rfl) ?_
      have H_38 := Option.some.inj (show some (r_17.1, r_17.2) = some r from H_37); subst H_38
      refine VL_ret ?_
      exact P_to [(2, .c (.imm (.opt (.pair (.slice (.pair (.int .i64) (.int .i64))) (.int .i64))) r_17.1)), (3, .c (.val (.int .i64 r_17.2)))] [] [] hn (by kernel_rfl) (by kernel_rfl) rfl rfl rfl (QF_retS (by kernel_rfl) (by kernel_rfl) rfl)

theorem subset_Subset_Count_spec (K : Nat) (s_1 : (Option ((List (Int × Int)) × Int))) (at_2 : Int) (r : Int) (H : subset_Subset_Count K s_1 at_2 = some r) : Spec Try.prog 38 0 [.c (.imm (.opt (.pair (.slice (.pair (.int .i64) (.int .i64))) (.int .i64))) s_1), .c (.val (.int .i64 at_2))] [] (.c (.val (.int .i64 r))) [] := by
  refine Spec_mk (fn := Try.f38) (c := (Try.f38.body).get!) Try.func38 (by kernel_rfl) rfl ?_
  intro C hN hn
  replace hN : C.N = 37 := hN
  unfold subset_Subset_Count at H
  refine V_run hN hn 4 0 [0, 1] [] ⟨[(0, .c (.imm (.opt (.pair (.slice (.pair (.int .i64) (.int .i64))) (.int .i64))) s_1)), (1, .c (.val (.int .i64 at_2)))], [], 0⟩ [] (by kernel_rfl) rfl rfl ap0 ?_
  obtain ⟨q_25, H_26, H_27⟩ := of_bind H
  refine V_cut (Y := Bool) (R := Bool) q_25 (fun y => y) (fun y => [(0, .c (.imm (.opt (.pair (.slice (.pair (.int .i64) (.int .i64))) (.int .i64))) s_1)), (1, .c (.val (.int .i64 at_2))), (16, .c (.val (.bool y)))]) (fun y => []) ?_ ?_
  · skip
    rcases Bool.eq_false_or_eq_true ((decide (at_2 < (0 : Int)))) with b_4 | b_4
    · have H_29 := of_t H_26 b_4
      refine V_reg hN hn [] [(9, true)] calls_nil 0 [0, 1, 16] [] ⟨[(0, .c (.imm (.opt (.pair (.slice (.pair (.int .i64) (.int .i64))) (.int .i64))) s_1)), (1, .c (.val (.int .i64 at_2))), (16, .c (.val (.bool true)))], [], 0⟩ [(decide (at_2 < (0 : Int))) = true] (by kernel_rfl) rfl rfl (ap1 b_4) (by kernel_rfl) (by kernel_rfl) ?_
      have H_31 := Option.some.inj (show some true = some q_25 from H_29); subst H_31
      refine VL_nil ?_
      exact QP_end true rfl [] hn (by kernel_rfl) (by kernel_rfl) rfl rfl rfl
    · have H_30 := of_f H_26 b_4
      obtain ⟨c_6, H_32⟩ := of_if H_30
      refine V_reg hN hn [] [(9, false)] calls_nil 0 [0, 1, 16] [] ⟨[(0, .c (.imm (.opt (.pair (.slice (.pair (.int .i64) (.int .i64))) (.int .i64))) s_1)), (1, .c (.val (.int .i64 at_2))), (16, .c (.val (.bool (decide (at_2 ≥ (Option.getD s_1 (([] : (List (Int × Int))), (0 : Int))).2)))))], [], 0⟩ [(decide (at_2 < (0 : Int))) = false, Option.isSome s_1 = true] (by kernel_rfl) rfl rfl (ap2 b_4 (ap1 c_6)) (by kernel_rfl) (by kernel_rfl) ?_
      have H_33 := Option.some.inj (show some (decide (at_2 ≥ (Option.getD s_1 (([] : (List (Int × Int))), (0 : Int))).2)) = some q_25 from H_32); subst H_33
      refine VL_nil ?_
      exact QP_end (decide (at_2 ≥ (Option.getD s_1 (([] : (List (Int × Int))), (0 : Int))).2)) rfl [] hn (by kernel_rfl) (by kernel_rfl) rfl rfl rfl
  · intro y_28 hy; subst hy
    skip
    skip
    refine VL_cond (y_28) (by kernel_rfl) ?_ ?_
    · intro b_8; have H_34 := of_t H_27 b_8
      refine V_run hN hn 2 0 [4] [] ⟨[(4, .c (.val (.int .i64 (0 : Int))))], [], 0⟩ [] (by kernel_rfl) rfl rfl ap0 ?_
      have H_36 := Option.some.inj (show some (0 : Int) = some r from H_34); subst H_36
      refine VL_ret ?_
      exact P_to [(4, .c (.val (.int .i64 (0 : Int))))] [] [] hn (by kernel_rfl) (by kernel_rfl) rfl rfl rfl (QF_retS (by kernel_rfl) (by kernel_rfl) rfl)
    · intro b_8; have H_35 := of_f H_27 b_8
      obtain ⟨c_10, H_37⟩ := of_if H_35
      refine V_run hN hn 4 0 [1, 20, 21, 22] [] ⟨[(1, .c (.val (.int .i64 at_2))), (20, .c (.imm (.slice (.pair (.int .i64) (.int .i64))) (Option.getD s_1 (([] : (List (Int × Int))), (0 : Int))).1)), (21, .c (.val (.int .i64 (((List.length (Option.getD s_1 (([] : (List (Int × Int))), (0 : Int))).1) : Nat) : Int)))), (22, .c (.val (.int .i64 (0 : Int))))], [], 0⟩ [Option.isSome s_1 = true] (by kernel_rfl) rfl rfl (ap1 c_10) ?_
      refine VL_block ?_
      refine V_to [(1, .c (.val (.int .i64 at_2))), (20, .c (.imm (.slice (.pair (.int .i64) (.int .i64))) (Option.getD s_1 (([] : (List (Int × Int))), (0 : Int))).1)), (21, .c (.val (.int .i64 (((List.length (Option.getD s_1 (([] : (List (Int × Int))), (0 : Int))).1) : Nat) : Int)))), (22, .c (.val (.int .i64 (0 : Int))))] [] [] hn (by kernel_rfl) (by kernel_rfl) rfl rfl rfl ?_
      refine VL_loop (X := (Int × Int)) (fun x => [(1, .c (.val (.int .i64 x.1))), (20, .c (.imm (.slice (.pair (.int .i64) (.int .i64))) (Option.getD s_1 (([] : (List (Int × Int))), (0 : Int))).1)), (21, .c (.val (.int .i64 (((List.length (Option.getD s_1 (([] : (List (Int × Int))), (0 : Int))).1) : Nat) : Int)))), (22, .c (.val (.int .i64 x.2)))]) (fun x => []) (fun k x => subset_Subset_Count.l0 K s_1 k x.1 x.2 = some r) K (at_2, (0 : Int)) H_37 (fun _ h => no_none h) ?_
      intro k_13 x_13 H_38
      obtain ⟨at_11, t_12⟩ := x_13
      have H_39 : subset_Subset_Count.l0 K s_1 (k_13 + 1) at_11 t_12 = some r := H_38
      rw [subset_Subset_Count.l0] at H_39
      refine V_run hN hn 3 0 [1, 20, 21, 22, 23] [] ⟨[(1, .c (.val (.int .i64 at_11))), (20, .c (.imm (.slice (.pair (.int .i64) (.int .i64))) (Option.getD s_1 (([] : (List (Int × Int))), (0 : Int))).1)), (21, .c (.val (.int .i64 (((List.length (Option.getD s_1 (([] : (List (Int × Int))), (0 : Int))).1) : Nat) : Int)))), (22, .c (.val (.int .i64 t_12))), (23, .c (.val (.bool (decide (t_12 < (((List.length (Option.getD s_1 (([] : (List (Int × Int))), (0 : Int))).1) : Nat) : Int))))))], [], 0⟩ [] (by kernel_rfl) rfl rfl ap0 ?_
      refine VL_cond ((decide (t_12 < (((List.length (Option.getD s_1 (([] : (List (Int × Int))), (0 : Int))).1) : Nat) : Int)))) (by kernel_rfl) ?_ ?_
      · intro b_15; have H_40 := of_t H_39 b_15
        refine V_run hN hn 2 0 [1, 20, 21, 22, 23] [] ⟨[(1, .c (.val (.int .i64 at_11))), (20, .c (.imm (.slice (.pair (.int .i64) (.int .i64))) (Option.getD s_1 (([] : (List (Int × Int))), (0 : Int))).1)), (21, .c (.val (.int .i64 (((List.length (Option.getD s_1 (([] : (List (Int × Int))), (0 : Int))).1) : Nat) : Int)))), (22, .c (.val (.int .i64 t_12))), (23, .c (.val (.bool (decide (t_12 < (((List.length (Option.getD s_1 (([] : (List (Int × Int))), (0 : Int))).1) : Nat) : Int))))))], [], 0⟩ [] (by kernel_rfl) rfl rfl ap0 ?_
        refine VL_block ?_
        obtain ⟨c_17, H_42⟩ := of_if H_40
        refine V_run hN hn 5 0 [1, 6, 20, 21, 22, 29] [0] ⟨[(1, .c (.val (.int .i64 at_11))), (6, .c (.h 0)), (20, .c (.imm (.slice (.pair (.int .i64) (.int .i64))) (Option.getD s_1 (([] : (List (Int × Int))), (0 : Int))).1)), (21, .c (.val (.int .i64 (((List.length (Option.getD s_1 (([] : (List (Int × Int))), (0 : Int))).1) : Nat) : Int)))), (22, .c (.val (.int .i64 t_12))), (29, .c (.val (.bool (decide (at_11 < (List.getD (Option.getD s_1 (([] : (List (Int × Int))), (0 : Int))).1 (Int.toNat t_12) ((0 : Int), (0 : Int))).1)))))], [(0, .box [.val (.int .i64 (List.getD (Option.getD s_1 (([] : (List (Int × Int))), (0 : Int))).1 (Int.toNat t_12) ((0 : Int), (0 : Int))).1), .val (.int .i64 (List.getD (Option.getD s_1 (([] : (List (Int × Int))), (0 : Int))).1 (Int.toNat t_12) ((0 : Int), (0 : Int))).2)])], 1⟩ [0 ≤ t_12, t_12 < (((List.length (Option.getD s_1 (([] : (List (Int × Int))), (0 : Int))).1) : Nat) : Int)] (by kernel_rfl) rfl rfl (ap2 c_17.1 (ap1 c_17.2)) ?_
        refine VL_cond ((decide (at_11 < (List.getD (Option.getD s_1 (([] : (List (Int × Int))), (0 : Int))).1 (Int.toNat t_12) ((0 : Int), (0 : Int))).1))) (by kernel_rfl) ?_ ?_
        · intro b_18; have H_43 := of_t H_42 b_18
          refine V_run hN hn 2 1 [4] [] ⟨[(4, .c (.val (.int .i64 (List.getD (Option.getD s_1 (([] : (List (Int × Int))), (0 : Int))).1 (Int.toNat t_12) ((0 : Int), (0 : Int))).2)))], [], 1⟩ [] (by kernel_rfl) rfl rfl ap0 ?_
          have H_45 := Option.some.inj (show some (List.getD (Option.getD s_1 (([] : (List (Int × Int))), (0 : Int))).1 (Int.toNat t_12) ((0 : Int), (0 : Int))).2 = some r from H_43); subst H_45
          refine VL_ret ?_
          refine QB_ret ?_
          refine QL_ret ?_
          refine QB_ret ?_
          exact P_to [(4, .c (.val (.int .i64 (List.getD (Option.getD s_1 (([] : (List (Int × Int))), (0 : Int))).1 (Int.toNat t_12) ((0 : Int), (0 : Int))).2)))] [] [] hn (by kernel_rfl) (by kernel_rfl) rfl rfl rfl (QF_retS (by kernel_rfl) (by kernel_rfl) rfl)
        · intro b_18; have H_44 := of_f H_42 b_18
          refine V_run hN hn 2 1 [1, 20, 21, 22] [] ⟨[(1, .c (.val (.int .i64 (IntKind.wrap .i64 (at_11 - (List.getD (Option.getD s_1 (([] : (List (Int × Int))), (0 : Int))).1 (Int.toNat t_12) ((0 : Int), (0 : Int))).1))))), (20, .c (.imm (.slice (.pair (.int .i64) (.int .i64))) (Option.getD s_1 (([] : (List (Int × Int))), (0 : Int))).1)), (21, .c (.val (.int .i64 (((List.length (Option.getD s_1 (([] : (List (Int × Int))), (0 : Int))).1) : Nat) : Int)))), (22, .c (.val (.int .i64 t_12)))], [], 1⟩ [] (by kernel_rfl) rfl rfl ap0 ?_
          refine VL_nil (QB_end ?_)
          refine V_run hN hn 1 1 [1, 20, 21, 22] [] ⟨[(1, .c (.val (.int .i64 (IntKind.wrap .i64 (at_11 - (List.getD (Option.getD s_1 (([] : (List (Int × Int))), (0 : Int))).1 (Int.toNat t_12) ((0 : Int), (0 : Int))).1))))), (20, .c (.imm (.slice (.pair (.int .i64) (.int .i64))) (Option.getD s_1 (([] : (List (Int × Int))), (0 : Int))).1)), (21, .c (.val (.int .i64 (((List.length (Option.getD s_1 (([] : (List (Int × Int))), (0 : Int))).1) : Nat) : Int)))), (22, .c (.val (.int .i64 (IntKind.wrap .i64 (t_12 + (1 : Int))))))], [], 1⟩ [] (by kernel_rfl) rfl rfl ap0 ?_
          refine VL_nil ?_
          exact V_roundEnd ((IntKind.wrap .i64 (at_11 - (List.getD (Option.getD s_1 (([] : (List (Int × Int))), (0 : Int))).1 (Int.toNat t_12) ((0 : Int), (0 : Int))).1)), (IntKind.wrap .i64 (t_12 + (1 : Int)))) H_44 [] hn (by kernel_rfl) (by kernel_rfl) rfl rfl rfl
      · intro b_15; have H_41 := of_f H_39 b_15
        refine VL_exit ?_
        refine QL_exit ?_
        refine QB_here ?_
        refine V_run hN hn 2 0 [4] [] ⟨[(4, .c (.val (.int .i64 (0 : Int))))], [], 0⟩ [] (by kernel_rfl) rfl rfl ap0 ?_
        have H_46 := Option.some.inj (show some (0 : Int) = some r from H_41); subst H_46
        refine VL_ret ?_
        exact P_to [(4, .c (.val (.int .i64 (0 : Int))))] [] [] hn (by kernel_rfl) (by kernel_rfl) rfl rfl rfl (QF_retS (by kernel_rfl) (by kernel_rfl) rfl)

theorem subset_Subset_Size_spec (K : Nat) (s_1 : (Option ((List (Int × Int)) × Int))) (r : Int) (H : subset_Subset_Size K s_1 = some r) : Spec Try.prog 20 0 [.c (.imm (.opt (.pair (.slice (.pair (.int .i64) (.int .i64))) (.int .i64))) s_1)] [] (.c (.val (.int .i64 r))) [] := by
  refine Spec_mk (fn := Try.f20) (c := (Try.f20.body).get!) Try.func20 (by kernel_rfl) rfl ?_
  intro C hN hn
  replace hN : C.N = 24 := hN
  unfold subset_Subset_Size at H
  obtain ⟨c_2, H_17⟩ := of_if H
  refine V_run hN hn 7 0 [3, 9, 10, 11] [] ⟨[(3, .c (.val (.int .i64 (0 : Int)))), (9, .c (.imm (.slice (.pair (.int .i64) (.int .i64))) (Option.getD s_1 (([] : (List (Int × Int))), (0 : Int))).1)), (10, .c (.val (.int .i64 (((List.length (Option.getD s_1 (([] : (List (Int × Int))), (0 : Int))).1) : Nat) : Int)))), (11, .c (.val (.int .i64 (0 : Int))))], [], 0⟩ [Option.isSome s_1 = true] (by kernel_rfl) rfl rfl (ap1 c_2) ?_
  refine VL_block ?_
  refine V_to [(3, .c (.val (.int .i64 (0 : Int)))), (9, .c (.imm (.slice (.pair (.int .i64) (.int .i64))) (Option.getD s_1 (([] : (List (Int × Int))), (0 : Int))).1)), (10, .c (.val (.int .i64 (((List.length (Option.getD s_1 (([] : (List (Int × Int))), (0 : Int))).1) : Nat) : Int)))), (11, .c (.val (.int .i64 (0 : Int))))] [] [] hn (by kernel_rfl) (by kernel_rfl) rfl rfl rfl ?_
  refine VL_loop (X := (Int × Int)) (fun x => [(3, .c (.val (.int .i64 x.1))), (9, .c (.imm (.slice (.pair (.int .i64) (.int .i64))) (Option.getD s_1 (([] : (List (Int × Int))), (0 : Int))).1)), (10, .c (.val (.int .i64 (((List.length (Option.getD s_1 (([] : (List (Int × Int))), (0 : Int))).1) : Nat) : Int)))), (11, .c (.val (.int .i64 x.2)))]) (fun x => []) (fun k x => subset_Subset_Size.l0 K s_1 k x.1 x.2 = some r) K ((0 : Int), (0 : Int)) H_17 (fun _ h => no_none h) ?_
  intro k_5 x_5 H_18
  obtain ⟨n_3, t_4⟩ := x_5
  have H_19 : subset_Subset_Size.l0 K s_1 (k_5 + 1) n_3 t_4 = some r := H_18
  rw [subset_Subset_Size.l0] at H_19
  refine V_run hN hn 3 0 [3, 9, 10, 11, 12] [] ⟨[(3, .c (.val (.int .i64 n_3))), (9, .c (.imm (.slice (.pair (.int .i64) (.int .i64))) (Option.getD s_1 (([] : (List (Int × Int))), (0 : Int))).1)), (10, .c (.val (.int .i64 (((List.length (Option.getD s_1 (([] : (List (Int × Int))), (0 : Int))).1) : Nat) : Int)))), (11, .c (.val (.int .i64 t_4))), (12, .c (.val (.bool (decide (t_4 < (((List.length (Option.getD s_1 (([] : (List (Int × Int))), (0 : Int))).1) : Nat) : Int))))))], [], 0⟩ [] (by kernel_rfl) rfl rfl ap0 ?_
  refine VL_cond ((decide (t_4 < (((List.length (Option.getD s_1 (([] : (List (Int × Int))), (0 : Int))).1) : Nat) : Int)))) (by kernel_rfl) ?_ ?_
  · intro b_7; have H_20 := of_t H_19 b_7
    refine V_run hN hn 2 0 [3, 9, 10, 11, 12] [] ⟨[(3, .c (.val (.int .i64 n_3))), (9, .c (.imm (.slice (.pair (.int .i64) (.int .i64))) (Option.getD s_1 (([] : (List (Int × Int))), (0 : Int))).1)), (10, .c (.val (.int .i64 (((List.length (Option.getD s_1 (([] : (List (Int × Int))), (0 : Int))).1) : Nat) : Int)))), (11, .c (.val (.int .i64 t_4))), (12, .c (.val (.bool (decide (t_4 < (((List.length (Option.getD s_1 (([] : (List (Int × Int))), (0 : Int))).1) : Nat) : Int))))))], [], 0⟩ [] (by kernel_rfl) rfl rfl ap0 ?_
    refine VL_block ?_
    obtain ⟨c_9, H_22⟩ := of_if H_20
    refine V_run hN hn 4 0 [3, 5, 9, 10, 11, 17] [0] ⟨[(3, .c (.val (.int .i64 n_3))), (5, .c (.h 0)), (9, .c (.imm (.slice (.pair (.int .i64) (.int .i64))) (Option.getD s_1 (([] : (List (Int × Int))), (0 : Int))).1)), (10, .c (.val (.int .i64 (((List.length (Option.getD s_1 (([] : (List (Int × Int))), (0 : Int))).1) : Nat) : Int)))), (11, .c (.val (.int .i64 t_4))), (17, .c (.val (.bool (decide ((List.getD (Option.getD s_1 (([] : (List (Int × Int))), (0 : Int))).1 (Int.toNat t_4) ((0 : Int), (0 : Int))).2 > (0 : Int))))))], [(0, .box [.val (.int .i64 (List.getD (Option.getD s_1 (([] : (List (Int × Int))), (0 : Int))).1 (Int.toNat t_4) ((0 : Int), (0 : Int))).1), .val (.int .i64 (List.getD (Option.getD s_1 (([] : (List (Int × Int))), (0 : Int))).1 (Int.toNat t_4) ((0 : Int), (0 : Int))).2)])], 1⟩ [0 ≤ t_4, t_4 < (((List.length (Option.getD s_1 (([] : (List (Int × Int))), (0 : Int))).1) : Nat) : Int)] (by kernel_rfl) rfl rfl (ap2 c_9.1 (ap1 c_9.2)) ?_
    refine VL_cond ((decide ((List.getD (Option.getD s_1 (([] : (List (Int × Int))), (0 : Int))).1 (Int.toNat t_4) ((0 : Int), (0 : Int))).2 > (0 : Int)))) (by kernel_rfl) ?_ ?_
    · intro b_10; have H_23 := of_t H_22 b_10
      refine V_run hN hn 1 1 [3, 9, 10, 11] [] ⟨[(3, .c (.val (.int .i64 (IntKind.wrap .i64 (n_3 + (List.getD (Option.getD s_1 (([] : (List (Int × Int))), (0 : Int))).1 (Int.toNat t_4) ((0 : Int), (0 : Int))).1))))), (9, .c (.imm (.slice (.pair (.int .i64) (.int .i64))) (Option.getD s_1 (([] : (List (Int × Int))), (0 : Int))).1)), (10, .c (.val (.int .i64 (((List.length (Option.getD s_1 (([] : (List (Int × Int))), (0 : Int))).1) : Nat) : Int)))), (11, .c (.val (.int .i64 t_4)))], [], 1⟩ [] (by kernel_rfl) rfl rfl ap0 ?_
      refine VL_nil (QB_end ?_)
      refine V_run hN hn 1 1 [3, 9, 10, 11] [] ⟨[(3, .c (.val (.int .i64 (IntKind.wrap .i64 (n_3 + (List.getD (Option.getD s_1 (([] : (List (Int × Int))), (0 : Int))).1 (Int.toNat t_4) ((0 : Int), (0 : Int))).1))))), (9, .c (.imm (.slice (.pair (.int .i64) (.int .i64))) (Option.getD s_1 (([] : (List (Int × Int))), (0 : Int))).1)), (10, .c (.val (.int .i64 (((List.length (Option.getD s_1 (([] : (List (Int × Int))), (0 : Int))).1) : Nat) : Int)))), (11, .c (.val (.int .i64 (IntKind.wrap .i64 (t_4 + (1 : Int))))))], [], 1⟩ [] (by kernel_rfl) rfl rfl ap0 ?_
      refine VL_nil ?_
      exact V_roundEnd ((IntKind.wrap .i64 (n_3 + (List.getD (Option.getD s_1 (([] : (List (Int × Int))), (0 : Int))).1 (Int.toNat t_4) ((0 : Int), (0 : Int))).1)), (IntKind.wrap .i64 (t_4 + (1 : Int)))) H_23 [] hn (by kernel_rfl) (by kernel_rfl) rfl rfl rfl
    · intro b_10; have H_24 := of_f H_22 b_10
      refine V_run hN hn 1 1 [3, 5, 9, 10, 11, 17] [0] ⟨[(3, .c (.val (.int .i64 n_3))), (5, .c (.h 0)), (9, .c (.imm (.slice (.pair (.int .i64) (.int .i64))) (Option.getD s_1 (([] : (List (Int × Int))), (0 : Int))).1)), (10, .c (.val (.int .i64 (((List.length (Option.getD s_1 (([] : (List (Int × Int))), (0 : Int))).1) : Nat) : Int)))), (11, .c (.val (.int .i64 t_4))), (17, .c (.val (.bool (decide ((List.getD (Option.getD s_1 (([] : (List (Int × Int))), (0 : Int))).1 (Int.toNat t_4) ((0 : Int), (0 : Int))).2 > (0 : Int))))))], [(0, .box [.val (.int .i64 (List.getD (Option.getD s_1 (([] : (List (Int × Int))), (0 : Int))).1 (Int.toNat t_4) ((0 : Int), (0 : Int))).1), .val (.int .i64 (List.getD (Option.getD s_1 (([] : (List (Int × Int))), (0 : Int))).1 (Int.toNat t_4) ((0 : Int), (0 : Int))).2)])], 1⟩ [] (by kernel_rfl) rfl rfl ap0 ?_
      refine VL_nil (QB_end ?_)
      refine V_run hN hn 1 1 [3, 9, 10, 11] [] ⟨[(3, .c (.val (.int .i64 n_3))), (9, .c (.imm (.slice (.pair (.int .i64) (.int .i64))) (Option.getD s_1 (([] : (List (Int × Int))), (0 : Int))).1)), (10, .c (.val (.int .i64 (((List.length (Option.getD s_1 (([] : (List (Int × Int))), (0 : Int))).1) : Nat) : Int)))), (11, .c (.val (.int .i64 (IntKind.wrap .i64 (t_4 + (1 : Int))))))], [], 1⟩ [] (by kernel_rfl) rfl rfl ap0 ?_
      refine VL_nil ?_
      exact V_roundEnd (n_3, (IntKind.wrap .i64 (t_4 + (1 : Int)))) H_24 [] hn (by kernel_rfl) (by kernel_rfl) rfl rfl rfl
  · intro b_7; have H_21 := of_f H_19 b_7
    refine VL_exit ?_
    refine QL_exit ?_
    refine QB_here ?_
    refine V_run hN hn 2 0 [2] [] ⟨[(2, .c (.val (.int .i64 n_3)))], [], 0⟩ [] (by kernel_rfl) rfl rfl ap0 ?_
    have H_25 := Option.some.inj (show some n_3 = some r from H_21); subst H_25
    refine VL_ret ?_
    exact P_to [(2, .c (.val (.int .i64 n_3)))] [] [] hn (by kernel_rfl) (by kernel_rfl) rfl rfl rfl (QF_retS (by kernel_rfl) (by kernel_rfl) rfl)

theorem slices_Equal_spec (K : Nat) (s1_1 : (List (Int × (Int × ByteArray)))) (s2_2 : (List (Int × (Int × ByteArray)))) (r : Bool) (H : slices_Equal K s1_1 s2_2 = some r) : Spec Try.prog 51 0 [.c (.imm (.slice (.pair (.int .i64) (.pair (.int .i64) .str))) s1_1), .c (.imm (.slice (.pair (.int .i64) (.pair (.int .i64) .str))) s2_2)] [] (.c (.val (.bool r))) [] := by
  refine Spec_mk (fn := Try.f51) (c := (Try.f51.body).get!) Try.func51 (by kernel_rfl) rfl ?_
  intro C hN hn
  replace hN : C.N = 26 := hN
  unfold slices_Equal at H
  refine V_run hN hn 5 0 [0, 1, 10] [] ⟨[(0, .c (.imm (.slice (.pair (.int .i64) (.pair (.int .i64) .str))) s1_1)), (1, .c (.imm (.slice (.pair (.int .i64) (.pair (.int .i64) .str))) s2_2)), (10, .c (.val (.bool ((((List.length s1_1) : Nat) : Int) != (((List.length s2_2) : Nat) : Int)))))], [], 0⟩ [] (by kernel_rfl) rfl rfl ap0 ?_
  refine VL_cond (((((List.length s1_1) : Nat) : Int) != (((List.length s2_2) : Nat) : Int))) (by kernel_rfl) ?_ ?_
  · intro b_4; have H_20 := of_t H b_4
    refine V_run hN hn 2 0 [4] [] ⟨[(4, .c (.val (.bool false)))], [], 0⟩ [] (by kernel_rfl) rfl rfl ap0 ?_
    have H_22 := Option.some.inj (show some false = some r from H_20); subst H_22
    refine VL_ret ?_
    exact P_to [(4, .c (.val (.bool false)))] [] [] hn (by kernel_rfl) (by kernel_rfl) rfl rfl rfl (QF_retS (by kernel_rfl) (by kernel_rfl) rfl)
  · intro b_4; have H_21 := of_f H b_4
    refine V_run hN hn 4 0 [0, 1, 12, 13] [] ⟨[(0, .c (.imm (.slice (.pair (.int .i64) (.pair (.int .i64) .str))) s1_1)), (1, .c (.imm (.slice (.pair (.int .i64) (.pair (.int .i64) .str))) s2_2)), (12, .c (.val (.int .i64 (((List.length s1_1) : Nat) : Int)))), (13, .c (.val (.int .i64 (0 : Int))))], [], 0⟩ [] (by kernel_rfl) rfl rfl ap0 ?_
    refine VL_block ?_
    refine V_to [(0, .c (.imm (.slice (.pair (.int .i64) (.pair (.int .i64) .str))) s1_1)), (1, .c (.imm (.slice (.pair (.int .i64) (.pair (.int .i64) .str))) s2_2)), (12, .c (.val (.int .i64 (((List.length s1_1) : Nat) : Int)))), (13, .c (.val (.int .i64 (0 : Int))))] [] [] hn (by kernel_rfl) (by kernel_rfl) rfl rfl rfl ?_
    refine VL_loop (X := Int) (fun x => [(0, .c (.imm (.slice (.pair (.int .i64) (.pair (.int .i64) .str))) s1_1)), (1, .c (.imm (.slice (.pair (.int .i64) (.pair (.int .i64) .str))) s2_2)), (12, .c (.val (.int .i64 (((List.length s1_1) : Nat) : Int)))), (13, .c (.val (.int .i64 x)))]) (fun x => []) (fun k x => slices_Equal.l0 K s1_1 s2_2 k x = some r) K (0 : Int) H_21 (fun _ h => no_none h) ?_
    intro k_8 t_7 H_23
    have H_24 : slices_Equal.l0 K s1_1 s2_2 (k_8 + 1) t_7 = some r := H_23
    rw [slices_Equal.l0] at H_24
    refine V_run hN hn 3 0 [0, 1, 12, 13, 14] [] ⟨[(0, .c (.imm (.slice (.pair (.int .i64) (.pair (.int .i64) .str))) s1_1)), (1, .c (.imm (.slice (.pair (.int .i64) (.pair (.int .i64) .str))) s2_2)), (12, .c (.val (.int .i64 (((List.length s1_1) : Nat) : Int)))), (13, .c (.val (.int .i64 t_7))), (14, .c (.val (.bool (decide (t_7 < (((List.length s1_1) : Nat) : Int))))))], [], 0⟩ [] (by kernel_rfl) rfl rfl ap0 ?_
    refine VL_cond ((decide (t_7 < (((List.length s1_1) : Nat) : Int)))) (by kernel_rfl) ?_ ?_
    · intro b_10; have H_25 := of_t H_24 b_10
      refine V_run hN hn 2 0 [0, 1, 12, 13, 14] [] ⟨[(0, .c (.imm (.slice (.pair (.int .i64) (.pair (.int .i64) .str))) s1_1)), (1, .c (.imm (.slice (.pair (.int .i64) (.pair (.int .i64) .str))) s2_2)), (12, .c (.val (.int .i64 (((List.length s1_1) : Nat) : Int)))), (13, .c (.val (.int .i64 t_7))), (14, .c (.val (.bool (decide (t_7 < (((List.length s1_1) : Nat) : Int))))))], [], 0⟩ [] (by kernel_rfl) rfl rfl ap0 ?_
      refine VL_block ?_
      refine V_run hN hn 3 0 [0, 1, 5, 12, 13] [] ⟨[(0, .c (.imm (.slice (.pair (.int .i64) (.pair (.int .i64) .str))) s1_1)), (1, .c (.imm (.slice (.pair (.int .i64) (.pair (.int .i64) .str))) s2_2)), (5, .c (.val (.int .i64 t_7))), (12, .c (.val (.int .i64 (((List.length s1_1) : Nat) : Int)))), (13, .c (.val (.int .i64 t_7)))], [], 0⟩ [] (by kernel_rfl) rfl rfl ap0 ?_
      obtain ⟨c_13, H_27⟩ := of_if H_25
      refine V_draw hN hn (by kernel_rfl) [] [] calls_nil 0 [0, 1, 12, 13, 24] [] ⟨[(0, .c (.imm (.slice (.pair (.int .i64) (.pair (.int .i64) .str))) s1_1)), (1, .c (.imm (.slice (.pair (.int .i64) (.pair (.int .i64) .str))) s2_2)), (12, .c (.val (.int .i64 (((List.length s1_1) : Nat) : Int)))), (13, .c (.val (.int .i64 t_7))), (24, .c (.val (.bool (!(((List.getD s1_1 (Int.toNat t_7) ((0 : Int), ((0 : Int), ByteArray.empty))).1 == (List.getD s2_2 (Int.toNat t_7) ((0 : Int), ((0 : Int), ByteArray.empty))).1) && (((List.getD s1_1 (Int.toNat t_7) ((0 : Int), ((0 : Int), ByteArray.empty))).2.1 == (List.getD s2_2 (Int.toNat t_7) ((0 : Int), ((0 : Int), ByteArray.empty))).2.1) && (ByteArray.toList (List.getD s1_1 (Int.toNat t_7) ((0 : Int), ((0 : Int), ByteArray.empty))).2.2 == ByteArray.toList (List.getD s2_2 (Int.toNat t_7) ((0 : Int), ((0 : Int), ByteArray.empty))).2.2)))))))], [], 0⟩ [0 ≤ t_7, t_7 < (((List.length s1_1) : Nat) : Int), 0 ≤ t_7, t_7 < (((List.length s2_2) : Nat) : Int)] (by kernel_rfl) rfl rfl (ap2 c_13.1 (ap2 c_13.2.1 (ap2 c_13.1 (ap1 c_13.2.2)))) (by kernel_rfl) (by kernel_rfl) ?_
      refine VL_cond ((!(((List.getD s1_1 (Int.toNat t_7) ((0 : Int), ((0 : Int), ByteArray.empty))).1 == (List.getD s2_2 (Int.toNat t_7) ((0 : Int), ((0 : Int), ByteArray.empty))).1) && (((List.getD s1_1 (Int.toNat t_7) ((0 : Int), ((0 : Int), ByteArray.empty))).2.1 == (List.getD s2_2 (Int.toNat t_7) ((0 : Int), ((0 : Int), ByteArray.empty))).2.1) && (ByteArray.toList (List.getD s1_1 (Int.toNat t_7) ((0 : Int), ((0 : Int), ByteArray.empty))).2.2 == ByteArray.toList (List.getD s2_2 (Int.toNat t_7) ((0 : Int), ((0 : Int), ByteArray.empty))).2.2))))) (by kernel_rfl) ?_ ?_
      · intro b_14; have H_28 := of_t H_27 b_14
        refine V_run hN hn 2 0 [4] [] ⟨[(4, .c (.val (.bool false)))], [], 0⟩ [] (by kernel_rfl) rfl rfl ap0 ?_
        have H_30 := Option.some.inj (show some false = some r from H_28); subst H_30
        refine VL_ret ?_
        refine QB_ret ?_
        refine QL_ret ?_
        refine QB_ret ?_
        exact P_to [(4, .c (.val (.bool false)))] [] [] hn (by kernel_rfl) (by kernel_rfl) rfl rfl rfl (QF_retS (by kernel_rfl) (by kernel_rfl) rfl)
      · intro b_14; have H_29 := of_f H_27 b_14
        refine V_run hN hn 1 0 [0, 1, 12, 13, 24] [] ⟨[(0, .c (.imm (.slice (.pair (.int .i64) (.pair (.int .i64) .str))) s1_1)), (1, .c (.imm (.slice (.pair (.int .i64) (.pair (.int .i64) .str))) s2_2)), (12, .c (.val (.int .i64 (((List.length s1_1) : Nat) : Int)))), (13, .c (.val (.int .i64 t_7))), (24, .c (.val (.bool (!(((List.getD s1_1 (Int.toNat t_7) ((0 : Int), ((0 : Int), ByteArray.empty))).1 == (List.getD s2_2 (Int.toNat t_7) ((0 : Int), ((0 : Int), ByteArray.empty))).1) && (((List.getD s1_1 (Int.toNat t_7) ((0 : Int), ((0 : Int), ByteArray.empty))).2.1 == (List.getD s2_2 (Int.toNat t_7) ((0 : Int), ((0 : Int), ByteArray.empty))).2.1) && (ByteArray.toList (List.getD s1_1 (Int.toNat t_7) ((0 : Int), ((0 : Int), ByteArray.empty))).2.2 == ByteArray.toList (List.getD s2_2 (Int.toNat t_7) ((0 : Int), ((0 : Int), ByteArray.empty))).2.2)))))))], [], 0⟩ [] (by kernel_rfl) rfl rfl ap0 ?_
        refine VL_nil (QB_end ?_)
        refine V_run hN hn 1 0 [0, 1, 12, 13] [] ⟨[(0, .c (.imm (.slice (.pair (.int .i64) (.pair (.int .i64) .str))) s1_1)), (1, .c (.imm (.slice (.pair (.int .i64) (.pair (.int .i64) .str))) s2_2)), (12, .c (.val (.int .i64 (((List.length s1_1) : Nat) : Int)))), (13, .c (.val (.int .i64 (IntKind.wrap .i64 (t_7 + (1 : Int))))))], [], 0⟩ [] (by kernel_rfl) rfl rfl ap0 ?_
        refine VL_nil ?_
        exact V_roundEnd (IntKind.wrap .i64 (t_7 + (1 : Int))) H_29 [] hn (by kernel_rfl) (by kernel_rfl) rfl rfl rfl
    · intro b_10; have H_26 := of_f H_24 b_10
      refine VL_exit ?_
      refine QL_exit ?_
      refine QB_here ?_
      refine V_run hN hn 2 0 [4] [] ⟨[(4, .c (.val (.bool true)))], [], 0⟩ [] (by kernel_rfl) rfl rfl ap0 ?_
      have H_31 := Option.some.inj (show some true = some r from H_26); subst H_31
      refine VL_ret ?_
      exact P_to [(4, .c (.val (.bool true)))] [] [] hn (by kernel_rfl) (by kernel_rfl) rfl rfl rfl (QF_retS (by kernel_rfl) (by kernel_rfl) rfl)

theorem delta_Same_spec (K : Nat) (a_1 : Int) (a_2 : (List (Int × (Int × ByteArray)))) (b_3 : Int) (b_4 : (List (Int × (Int × ByteArray)))) (r : Bool) (H : delta_Same K a_1 a_2 b_3 b_4 = some r) : Spec Try.prog 32 0 [.agg [.val (.int .i64 a_1), .imm (.slice (.pair (.int .i64) (.pair (.int .i64) .str))) a_2], .agg [.val (.int .i64 b_3), .imm (.slice (.pair (.int .i64) (.pair (.int .i64) .str))) b_4]] [] (.c (.val (.bool r))) [] := by
  refine Spec_mk (fn := Try.f32) (c := (Try.f32.body).get!) Try.func32 (by kernel_rfl) rfl ?_
  intro C hN hn
  replace hN : C.N = 17 := hN
  unfold delta_Same at H
  refine V_run hN hn 3 0 [2, 3] [0, 1] ⟨[(2, .c (.h 0)), (3, .c (.h 1))], [(0, .box [.val (.int .i64 a_1), .imm (.slice (.pair (.int .i64) (.pair (.int .i64) .str))) a_2]), (1, .box [.val (.int .i64 b_3), .imm (.slice (.pair (.int .i64) (.pair (.int .i64) .str))) b_4])], 2⟩ [] (by kernel_rfl) rfl rfl ap0 ?_
  rcases Bool.eq_false_or_eq_true ((a_1 == b_3)) with b_6 | b_6
  · have H_12 := of_t H b_6
    obtain ⟨r_7, h_8, H_14⟩ := of_bind H_12
    refine V_reg hN hn [(10, ⟨51, 0, [.c (.imm (.slice (.pair (.int .i64) (.pair (.int .i64) .str))) a_2), .c (.imm (.slice (.pair (.int .i64) (.pair (.int .i64) .str))) b_4)], [], .c (.val (.bool r_7)), [], [], 2⟩)] [(10, true)] (calls_cons (slices_Equal_spec K a_2 b_4 r_7 h_8) (by kernel_rfl) calls_nil) 2 [4] [] ⟨[(4, .c (.val (.bool r_7)))], [], 2⟩ [(a_1 == b_3) = true] (by kernel_rfl) rfl rfl (ap1 b_6) (by kernel_rfl) (by kernel_rfl) ?_
    have H_15 := Option.some.inj (show some r_7 = some r from H_14); subst H_15
    refine VL_ret ?_
    exact P_to [(4, .c (.val (.bool r_7)))] [] [] hn (by kernel_rfl) (by kernel_rfl) rfl rfl rfl (QF_retS (by kernel_rfl) (by kernel_rfl) rfl)
  · have H_13 := of_f H b_6
    refine V_reg hN hn [] [(10, false)] calls_nil 2 [4] [] ⟨[(4, .c (.val (.bool false)))], [], 2⟩ [(a_1 == b_3) = false] (by kernel_rfl) rfl rfl (ap1 b_6) (by kernel_rfl) (by kernel_rfl) ?_
    have H_16 := Option.some.inj (show some false = some r from H_13); subst H_16
    refine VL_ret ?_
    exact P_to [(4, .c (.val (.bool false)))] [] [] hn (by kernel_rfl) (by kernel_rfl) rfl rfl rfl (QF_retS (by kernel_rfl) (by kernel_rfl) rfl)

theorem palinodelaw12_known_spec (K : Nat) (r : Bool) (H : palinodelaw12_known K  = some r) : Spec Try.prog 8 0 [] [] (.c (.val (.bool r))) [] := by
  refine Spec_mk (fn := Try.f8) (c := (Try.f8.body).get!) Try.func8 (by kernel_rfl) rfl ?_
  intro C hN hn
  replace hN : C.N = 115 := hN
  unfold palinodelaw12_known at H
  refine V_run hN hn 3 0 [] [] ⟨[], [], 0⟩ [] (by kernel_rfl) rfl rfl ap0 ?_
  obtain ⟨r_2, h_3, H_65⟩ := of_bind H
  refine V_reg hN hn [(2, ⟨19, 1, [.c (.val (.int .i64 (3 : Int))), .c (.h 0)], [(0, .row (.pair (.int .i64) (.pair (.int .i64) .str)) ([((1 : Int), ((2 : Int), (ByteArray.mk #[120])))] : List (Int × (Int × ByteArray))))], .tup [(true, [.val (.int .i64 r_2.1), .imm (.slice (.pair (.int .i64) (.pair (.int .i64) .str))) r_2.2.1]), (false, [.val (.int .i64 r_2.2.2)])], [(0, .row (.pair (.int .i64) (.pair (.int .i64) .str)) ([((1 : Int), ((2 : Int), (ByteArray.mk #[120])))] : List (Int × (Int × ByteArray))))], [(0, 0)], 1⟩)] [] (calls_cons (delta_Build_gr_spec K (3 : Int) ([((1 : Int), ((2 : Int), (ByteArray.mk #[120])))] : List (Int × (Int × ByteArray))) r_2 h_3) (by kernel_rfl) calls_nil) 0 [1, 2] [1] ⟨[(1, .c (.h 1)), (2, .c (.val (.int .i64 r_2.2.2)))], [(1, .box [.val (.int .i64 r_2.1), .imm (.slice (.pair (.int .i64) (.pair (.int .i64) .str))) r_2.2.1])], 2⟩ [] (by kernel_rfl) rfl rfl ap0 (by kernel_rfl) (by kernel_rfl) ?_
  refine V_run hN hn 3 2 [1, 21] [1] ⟨[(1, .c (.h 1)), (21, .c (.val (.bool (r_2.2.2 != (0 : Int)))))], [(1, .box [.val (.int .i64 r_2.1), .imm (.slice (.pair (.int .i64) (.pair (.int .i64) .str))) r_2.2.1])], 2⟩ [] (by kernel_rfl) rfl rfl ap0 ?_
  refine VL_cond ((r_2.2.2 != (0 : Int))) (by kernel_rfl) ?_ ?_
  · intro b_6; have H_66 := of_t H_65 b_6
    refine V_run hN hn 2 2 [0] [] ⟨[(0, .c (.val (.bool false)))], [], 2⟩ [] (by kernel_rfl) rfl rfl ap0 ?_
    have H_68 := Option.some.inj (show some false = some r from H_66); subst H_68
    refine VL_ret ?_
    exact P_to [(0, .c (.val (.bool false)))] [] [] hn (by kernel_rfl) (by kernel_rfl) rfl rfl rfl (QF_retS (by kernel_rfl) (by kernel_rfl) rfl)
  · intro b_6; have H_67 := of_f H_65 b_6
    refine V_run hN hn 2 2 [1, 21] [1] ⟨[(1, .c (.h 1)), (21, .c (.val (.bool (r_2.2.2 != (0 : Int)))))], [(1, .box [.val (.int .i64 r_2.1), .imm (.slice (.pair (.int .i64) (.pair (.int .i64) .str))) r_2.2.1])], 2⟩ [] (by kernel_rfl) rfl rfl ap0 ?_
    obtain ⟨r_9, h_10, H_69⟩ := of_bind H_67
    refine V_reg hN hn [(1, ⟨10, 0, [.agg [.val (.int .i64 r_2.1), .imm (.slice (.pair (.int .i64) (.pair (.int .i64) .str))) r_2.2.1]], [], .tup [(true, [.val (.int .i64 r_9.1), .imm (.slice (.pair (.int .i64) (.pair (.int .i64) .str))) r_9.2.1]), (false, [.imm (.opt (.pair (.slice (.pair (.int .i64) (.int .i64))) (.int .i64))) r_9.2.2.1]), (false, [.val (.int .i64 r_9.2.2.2)])], [], [], 2⟩)] [] (calls_cons (factor_Split_spec K r_2.1 r_2.2.1 r_9 h_10) (by kernel_rfl) calls_nil) 2 [1, 3, 4, 5] [1, 2] ⟨[(1, .c (.h 1)), (3, .c (.h 2)), (4, .c (.imm (.opt (.pair (.slice (.pair (.int .i64) (.int .i64))) (.int .i64))) r_9.2.2.1)), (5, .c (.val (.int .i64 r_9.2.2.2)))], [(1, .box [.val (.int .i64 r_2.1), .imm (.slice (.pair (.int .i64) (.pair (.int .i64) .str))) r_2.2.1]), (2, .box [.val (.int .i64 r_9.1), .imm (.slice (.pair (.int .i64) (.pair (.int .i64) .str))) r_9.2.1])], 3⟩ [] (by kernel_rfl) rfl rfl ap0 (by kernel_rfl) (by kernel_rfl) ?_
    refine V_run hN hn 1 3 [1, 3, 4, 5] [1, 2] ⟨[(1, .c (.h 1)), (3, .c (.h 2)), (4, .c (.imm (.opt (.pair (.slice (.pair (.int .i64) (.int .i64))) (.int .i64))) r_9.2.2.1)), (5, .c (.val (.int .i64 r_9.2.2.2)))], [(1, .box [.val (.int .i64 r_2.1), .imm (.slice (.pair (.int .i64) (.pair (.int .i64) .str))) r_2.2.1]), (2, .box [.val (.int .i64 r_9.1), .imm (.slice (.pair (.int .i64) (.pair (.int .i64) .str))) r_9.2.1])], 3⟩ [] (by kernel_rfl) rfl rfl ap0 ?_
    obtain ⟨r_13, h_14, H_70⟩ := of_bind H_69
    refine V_reg hN hn [(2, ⟨27, 0, [.agg [.val (.int .i64 r_9.1), .imm (.slice (.pair (.int .i64) (.pair (.int .i64) .str))) r_9.2.1], .c (.imm (.opt (.pair (.slice (.pair (.int .i64) (.int .i64))) (.int .i64))) r_9.2.2.1)], [], .tup [(true, [.val (.int .i64 r_13.1), .imm (.slice (.pair (.int .i64) (.pair (.int .i64) .str))) r_13.2.1]), (false, [.val (.int .i64 r_13.2.2)])], [], [], 3⟩)] [] (calls_cons (factor_Join_spec K r_9.1 r_9.2.1 r_9.2.2.1 r_13 h_14) (by kernel_rfl) calls_nil) 3 [1, 3, 4, 5, 6, 7] [1, 2, 3] ⟨[(1, .c (.h 1)), (3, .c (.h 2)), (4, .c (.imm (.opt (.pair (.slice (.pair (.int .i64) (.int .i64))) (.int .i64))) r_9.2.2.1)), (5, .c (.val (.int .i64 r_9.2.2.2))), (6, .c (.h 3)), (7, .c (.val (.int .i64 r_13.2.2)))], [(1, .box [.val (.int .i64 r_2.1), .imm (.slice (.pair (.int .i64) (.pair (.int .i64) .str))) r_2.2.1]), (2, .box [.val (.int .i64 r_9.1), .imm (.slice (.pair (.int .i64) (.pair (.int .i64) .str))) r_9.2.1]), (3, .box [.val (.int .i64 r_13.1), .imm (.slice (.pair (.int .i64) (.pair (.int .i64) .str))) r_13.2.1])], 4⟩ [] (by kernel_rfl) rfl rfl ap0 (by kernel_rfl) (by kernel_rfl) ?_
    refine V_run hN hn 1 4 [1, 3, 4, 5, 6, 7] [1, 2, 3] ⟨[(1, .c (.h 1)), (3, .c (.h 2)), (4, .c (.imm (.opt (.pair (.slice (.pair (.int .i64) (.int .i64))) (.int .i64))) r_9.2.2.1)), (5, .c (.val (.int .i64 r_9.2.2.2))), (6, .c (.h 3)), (7, .c (.val (.int .i64 r_13.2.2)))], [(1, .box [.val (.int .i64 r_2.1), .imm (.slice (.pair (.int .i64) (.pair (.int .i64) .str))) r_2.2.1]), (2, .box [.val (.int .i64 r_9.1), .imm (.slice (.pair (.int .i64) (.pair (.int .i64) .str))) r_9.2.1]), (3, .box [.val (.int .i64 r_13.1), .imm (.slice (.pair (.int .i64) (.pair (.int .i64) .str))) r_13.2.1])], 4⟩ [] (by kernel_rfl) rfl rfl ap0 ?_
    obtain ⟨r_17, h_18, H_71⟩ := of_bind H_70
    refine V_reg hN hn [(2, ⟨27, 0, [.agg [.val (.int .i64 r_2.1), .imm (.slice (.pair (.int .i64) (.pair (.int .i64) .str))) r_2.2.1], .c (.imm (.opt (.pair (.slice (.pair (.int .i64) (.int .i64))) (.int .i64))) r_9.2.2.1)], [], .tup [(true, [.val (.int .i64 r_17.1), .imm (.slice (.pair (.int .i64) (.pair (.int .i64) .str))) r_17.2.1]), (false, [.val (.int .i64 r_17.2.2)])], [], [], 4⟩)] [] (calls_cons (factor_Join_spec K r_2.1 r_2.2.1 r_9.2.2.1 r_17 h_18) (by kernel_rfl) calls_nil) 4 [1, 3, 4, 5, 6, 7, 9] [1, 2, 3] ⟨[(1, .c (.h 1)), (3, .c (.h 2)), (4, .c (.imm (.opt (.pair (.slice (.pair (.int .i64) (.int .i64))) (.int .i64))) r_9.2.2.1)), (5, .c (.val (.int .i64 r_9.2.2.2))), (6, .c (.h 3)), (7, .c (.val (.int .i64 r_13.2.2))), (9, .c (.val (.int .i64 r_17.2.2)))], [(1, .box [.val (.int .i64 r_2.1), .imm (.slice (.pair (.int .i64) (.pair (.int .i64) .str))) r_2.2.1]), (2, .box [.val (.int .i64 r_9.1), .imm (.slice (.pair (.int .i64) (.pair (.int .i64) .str))) r_9.2.1]), (3, .box [.val (.int .i64 r_13.1), .imm (.slice (.pair (.int .i64) (.pair (.int .i64) .str))) r_13.2.1])], 5⟩ [] (by kernel_rfl) rfl rfl ap0 (by kernel_rfl) (by kernel_rfl) ?_
    refine V_run hN hn 1 5 [1, 3, 4, 5, 6, 7, 9] [1, 2, 3] ⟨[(1, .c (.h 1)), (3, .c (.h 2)), (4, .c (.imm (.opt (.pair (.slice (.pair (.int .i64) (.int .i64))) (.int .i64))) r_9.2.2.1)), (5, .c (.val (.int .i64 r_9.2.2.2))), (6, .c (.h 3)), (7, .c (.val (.int .i64 r_13.2.2))), (9, .c (.val (.int .i64 r_17.2.2)))], [(1, .box [.val (.int .i64 r_2.1), .imm (.slice (.pair (.int .i64) (.pair (.int .i64) .str))) r_2.2.1]), (2, .box [.val (.int .i64 r_9.1), .imm (.slice (.pair (.int .i64) (.pair (.int .i64) .str))) r_9.2.1]), (3, .box [.val (.int .i64 r_13.1), .imm (.slice (.pair (.int .i64) (.pair (.int .i64) .str))) r_13.2.1])], 5⟩ [] (by kernel_rfl) rfl rfl ap0 ?_
    obtain ⟨r_21, h_22, H_72⟩ := of_bind H_71
    refine V_reg hN hn [(1, ⟨11, 0, [.agg [.val (.int .i64 r_2.1), .imm (.slice (.pair (.int .i64) (.pair (.int .i64) .str))) r_2.2.1]], [], .tup [(false, [.imm (.opt (.pair (.slice (.pair (.int .i64) (.int .i64))) (.int .i64))) r_21.1]), (false, [.val (.int .i64 r_21.2)])], [], [], 5⟩)] [] (calls_cons (factor_Inserted_spec K r_2.1 r_2.2.1 r_21 h_22) (by kernel_rfl) calls_nil) 5 [1, 3, 4, 5, 6, 7, 9, 10, 11] [1, 2, 3] ⟨[(1, .c (.h 1)), (3, .c (.h 2)), (4, .c (.imm (.opt (.pair (.slice (.pair (.int .i64) (.int .i64))) (.int .i64))) r_9.2.2.1)), (5, .c (.val (.int .i64 r_9.2.2.2))), (6, .c (.h 3)), (7, .c (.val (.int .i64 r_13.2.2))), (9, .c (.val (.int .i64 r_17.2.2))), (10, .c (.imm (.opt (.pair (.slice (.pair (.int .i64) (.int .i64))) (.int .i64))) r_21.1)), (11, .c (.val (.int .i64 r_21.2)))], [(1, .box [.val (.int .i64 r_2.1), .imm (.slice (.pair (.int .i64) (.pair (.int .i64) .str))) r_2.2.1]), (2, .box [.val (.int .i64 r_9.1), .imm (.slice (.pair (.int .i64) (.pair (.int .i64) .str))) r_9.2.1]), (3, .box [.val (.int .i64 r_13.1), .imm (.slice (.pair (.int .i64) (.pair (.int .i64) .str))) r_13.2.1])], 5⟩ [] (by kernel_rfl) rfl rfl ap0 (by kernel_rfl) (by kernel_rfl) ?_
    refine V_run hN hn 1 5 [1, 3, 4, 5, 6, 7, 9, 10, 11] [1, 2, 3] ⟨[(1, .c (.h 1)), (3, .c (.h 2)), (4, .c (.imm (.opt (.pair (.slice (.pair (.int .i64) (.int .i64))) (.int .i64))) r_9.2.2.1)), (5, .c (.val (.int .i64 r_9.2.2.2))), (6, .c (.h 3)), (7, .c (.val (.int .i64 r_13.2.2))), (9, .c (.val (.int .i64 r_17.2.2))), (10, .c (.imm (.opt (.pair (.slice (.pair (.int .i64) (.int .i64))) (.int .i64))) r_21.1)), (11, .c (.val (.int .i64 r_21.2)))], [(1, .box [.val (.int .i64 r_2.1), .imm (.slice (.pair (.int .i64) (.pair (.int .i64) .str))) r_2.2.1]), (2, .box [.val (.int .i64 r_9.1), .imm (.slice (.pair (.int .i64) (.pair (.int .i64) .str))) r_9.2.1]), (3, .box [.val (.int .i64 r_13.1), .imm (.slice (.pair (.int .i64) (.pair (.int .i64) .str))) r_13.2.1])], 5⟩ [] (by kernel_rfl) rfl rfl ap0 ?_
    obtain ⟨r_25, h_26, H_73⟩ := of_bind H_72
    refine V_reg hN hn [(1, ⟨12, 0, [.agg [.val (.int .i64 (-1 : Int)), .val (.slice none 0 0)]], [], .tup [(false, [.imm (.opt (.pair (.slice (.pair (.int .i64) (.int .i64))) (.int .i64))) r_25.1]), (false, [.val (.int .i64 r_25.2)])], [], [], 5⟩)] [] (calls_cons (factor_Deleted_sgn_spec K (-1 : Int) r_25 h_26) (by kernel_rfl) calls_nil) 5 [1, 3, 4, 5, 6, 7, 9, 10, 11, 13] [1, 2, 3] ⟨[(1, .c (.h 1)), (3, .c (.h 2)), (4, .c (.imm (.opt (.pair (.slice (.pair (.int .i64) (.int .i64))) (.int .i64))) r_9.2.2.1)), (5, .c (.val (.int .i64 r_9.2.2.2))), (6, .c (.h 3)), (7, .c (.val (.int .i64 r_13.2.2))), (9, .c (.val (.int .i64 r_17.2.2))), (10, .c (.imm (.opt (.pair (.slice (.pair (.int .i64) (.int .i64))) (.int .i64))) r_21.1)), (11, .c (.val (.int .i64 r_21.2))), (13, .c (.val (.int .i64 r_25.2)))], [(1, .box [.val (.int .i64 r_2.1), .imm (.slice (.pair (.int .i64) (.pair (.int .i64) .str))) r_2.2.1]), (2, .box [.val (.int .i64 r_9.1), .imm (.slice (.pair (.int .i64) (.pair (.int .i64) .str))) r_9.2.1]), (3, .box [.val (.int .i64 r_13.1), .imm (.slice (.pair (.int .i64) (.pair (.int .i64) .str))) r_13.2.1])], 5⟩ [] (by kernel_rfl) rfl rfl ap0 (by kernel_rfl) (by kernel_rfl) ?_
    refine V_run hN hn 1 5 [1, 3, 4, 5, 6, 7, 9, 10, 11, 13] [1, 2, 3] ⟨[(1, .c (.h 1)), (3, .c (.h 2)), (4, .c (.imm (.opt (.pair (.slice (.pair (.int .i64) (.int .i64))) (.int .i64))) r_9.2.2.1)), (5, .c (.val (.int .i64 r_9.2.2.2))), (6, .c (.h 3)), (7, .c (.val (.int .i64 r_13.2.2))), (9, .c (.val (.int .i64 r_17.2.2))), (10, .c (.imm (.opt (.pair (.slice (.pair (.int .i64) (.int .i64))) (.int .i64))) r_21.1)), (11, .c (.val (.int .i64 r_21.2))), (13, .c (.val (.int .i64 r_25.2)))], [(1, .box [.val (.int .i64 r_2.1), .imm (.slice (.pair (.int .i64) (.pair (.int .i64) .str))) r_2.2.1]), (2, .box [.val (.int .i64 r_9.1), .imm (.slice (.pair (.int .i64) (.pair (.int .i64) .str))) r_9.2.1]), (3, .box [.val (.int .i64 r_13.1), .imm (.slice (.pair (.int .i64) (.pair (.int .i64) .str))) r_13.2.1])], 5⟩ [] (by kernel_rfl) rfl rfl ap0 ?_
    rcases Bool.eq_false_or_eq_true ((r_9.2.2.2 == (0 : Int))) with b_29 | b_29
    · have H_74 := of_t H_73 b_29
      rcases Bool.eq_false_or_eq_true (((((List.length r_9.2.1) : Nat) : Int) == (3 : Int))) with b_30 | b_30
      · have H_76 := of_t H_74 b_30
        rcases Bool.eq_false_or_eq_true (((List.getD r_9.2.1 0 ((0 : Int), ((0 : Int), ByteArray.empty))).2.1 == (1 : Int))) with b_31 | b_31
        · have H_78 := of_t H_76 b_31
          rcases Bool.eq_false_or_eq_true (((List.getD r_9.2.1 2 ((0 : Int), ((0 : Int), ByteArray.empty))).1 == (1 : Int))) with b_32 | b_32
          · have H_80 := of_t H_78 b_32
            obtain ⟨r_33, h_34, H_82⟩ := of_bind H_80
            rcases Bool.eq_false_or_eq_true ((r_33 == (1 : Int))) with b_35 | b_35
            · have H_83 := of_t H_82 b_35
              obtain ⟨r_36, h_37, H_85⟩ := of_bind H_83
              rcases Bool.eq_false_or_eq_true ((r_36 == (1 : Int))) with b_38 | b_38
              · have H_86 := of_t H_85 b_38
                rcases Bool.eq_false_or_eq_true ((r_13.2.2 == (0 : Int))) with b_39 | b_39
                · have H_88 := of_t H_86 b_39
                  obtain ⟨r_40, h_41, H_90⟩ := of_bind H_88
                  rcases Bool.eq_false_or_eq_true (r_40) with b_42 | b_42
                  · have H_91 := of_t H_90 b_42
                    rcases Bool.eq_false_or_eq_true ((r_17.2.2 == (12 : Int))) with b_43 | b_43
                    · have H_93 := of_t H_91 b_43
                      rcases Bool.eq_false_or_eq_true ((r_21.2 == (0 : Int))) with b_44 | b_44
                      · have H_95 := of_t H_93 b_44
                        obtain ⟨r_45, h_46, H_97⟩ := of_bind H_95
                        rcases Bool.eq_false_or_eq_true ((r_45 == (1 : Int))) with b_47 | b_47
                        · have H_98 := of_t H_97 b_47
                          obtain ⟨r_48, h_49, H_100⟩ := of_bind H_98
                          rcases Bool.eq_false_or_eq_true ((r_48 == (1 : Int))) with b_50 | b_50
                          · have H_101 := of_t H_100 b_50
                            obtain ⟨c_51, H_103⟩ := of_if H_101
                            refine V_reg hN hn [(26, ⟨38, 0, [.c (.imm (.opt (.pair (.slice (.pair (.int .i64) (.int .i64))) (.int .i64))) r_9.2.2.1), .c (.val (.int .i64 (1 : Int)))], [], .c (.val (.int .i64 r_33)), [], [], 5⟩), (31, ⟨20, 0, [.c (.imm (.opt (.pair (.slice (.pair (.int .i64) (.int .i64))) (.int .i64))) r_9.2.2.1)], [], .c (.val (.int .i64 r_36)), [], [], 5⟩), (41, ⟨32, 0, [.agg [.val (.int .i64 r_13.1), .imm (.slice (.pair (.int .i64) (.pair (.int .i64) .str))) r_13.2.1], .agg [.val (.int .i64 r_2.1), .imm (.slice (.pair (.int .i64) (.pair (.int .i64) .str))) r_2.2.1]], [], .c (.val (.bool r_40)), [], [], 5⟩), (53, ⟨38, 0, [.c (.imm (.opt (.pair (.slice (.pair (.int .i64) (.int .i64))) (.int .i64))) r_21.1), .c (.val (.int .i64 (1 : Int)))], [], .c (.val (.int .i64 r_45)), [], [], 5⟩), (58, ⟨20, 0, [.c (.imm (.opt (.pair (.slice (.pair (.int .i64) (.int .i64))) (.int .i64))) r_21.1)], [], .c (.val (.int .i64 r_48)), [], [], 5⟩)] [(52, true), (58, true), (66, true), (74, true), (79, true), (84, true), (88, true), (93, true), (97, true), (101, true), (106, true), (111, true)] (calls_cons (subset_Subset_Count_spec K r_9.2.2.1 (1 : Int) r_33 h_34) (by kernel_rfl) (calls_cons (subset_Subset_Size_spec K r_9.2.2.1 r_36 h_37) (by kernel_rfl) (calls_cons (delta_Same_spec K r_13.1 r_13.2.1 r_2.1 r_2.2.1 r_40 h_41) (by kernel_rfl) (calls_cons (subset_Subset_Count_spec K r_21.1 (1 : Int) r_45 h_46) (by kernel_rfl) (calls_cons (subset_Subset_Size_spec K r_21.1 r_48 h_49) (by kernel_rfl) calls_nil))))) 5 [0] [] ⟨[(0, .c (.val (.bool (r_25.2 == (12 : Int)))))], [], 5⟩ [(r_9.2.2.2 == (0 : Int)) = true, ((((List.length r_9.2.1) : Nat) : Int) == (3 : Int)) = true, (0 : Int) ≤ (0 : Int), (0 : Int) < (((List.length r_9.2.1) : Nat) : Int), ((List.getD r_9.2.1 0 ((0 : Int), ((0 : Int), ByteArray.empty))).2.1 == (1 : Int)) = true, (0 : Int) ≤ (2 : Int), (2 : Int) < (((List.length r_9.2.1) : Nat) : Int), ((List.getD r_9.2.1 2 ((0 : Int), ((0 : Int), ByteArray.empty))).1 == (1 : Int)) = true, (r_33 == (1 : Int)) = true, (r_36 == (1 : Int)) = true, (r_13.2.2 == (0 : Int)) = true, r_40 = true, (r_17.2.2 == (12 : Int)) = true, (r_21.2 == (0 : Int)) = true, (r_45 == (1 : Int)) = true, (r_48 == (1 : Int)) = true] (by kernel_rfl) rfl rfl (ap2 b_29 (ap2 b_30 (ap2 (by decide) (ap2 c_51.1 (ap2 b_31 (ap2 (by decide) (ap2 c_51.2 (ap2 b_32 (ap2 b_35 (ap2 b_38 (ap2 b_39 (ap2 b_42 (ap2 b_43 (ap2 b_44 (ap2 b_47 (ap1 b_50)))))))))))))))) (by kernel_rfl) (by kernel_rfl) ?_
                            have H_104 := Option.some.inj (show some (r_25.2 == (12 : Int)) = some r from H_103); subst H_104
                            refine VL_ret ?_
                            exact P_to [(0, .c (.val (.bool (r_25.2 == (12 : Int)))))] [] [] hn (by kernel_rfl) (by kernel_rfl) rfl rfl rfl (QF_retS (by kernel_rfl) (by kernel_rfl) rfl)
                          · have H_102 := of_f H_100 b_50
                            obtain ⟨c_52, H_105⟩ := of_if H_102
                            refine V_reg hN hn [(26, ⟨38, 0, [.c (.imm (.opt (.pair (.slice (.pair (.int .i64) (.int .i64))) (.int .i64))) r_9.2.2.1), .c (.val (.int .i64 (1 : Int)))], [], .c (.val (.int .i64 r_33)), [], [], 5⟩), (31, ⟨20, 0, [.c (.imm (.opt (.pair (.slice (.pair (.int .i64) (.int .i64))) (.int .i64))) r_9.2.2.1)], [], .c (.val (.int .i64 r_36)), [], [], 5⟩), (41, ⟨32, 0, [.agg [.val (.int .i64 r_13.1), .imm (.slice (.pair (.int .i64) (.pair (.int .i64) .str))) r_13.2.1], .agg [.val (.int .i64 r_2.1), .imm (.slice (.pair (.int .i64) (.pair (.int .i64) .str))) r_2.2.1]], [], .c (.val (.bool r_40)), [], [], 5⟩), (53, ⟨38, 0, [.c (.imm (.opt (.pair (.slice (.pair (.int .i64) (.int .i64))) (.int .i64))) r_21.1), .c (.val (.int .i64 (1 : Int)))], [], .c (.val (.int .i64 r_45)), [], [], 5⟩), (58, ⟨20, 0, [.c (.imm (.opt (.pair (.slice (.pair (.int .i64) (.int .i64))) (.int .i64))) r_21.1)], [], .c (.val (.int .i64 r_48)), [], [], 5⟩)] [(52, true), (58, true), (66, true), (74, true), (79, true), (84, true), (88, true), (93, true), (97, true), (101, true), (106, true), (111, false)] (calls_cons (subset_Subset_Count_spec K r_9.2.2.1 (1 : Int) r_33 h_34) (by kernel_rfl) (calls_cons (subset_Subset_Size_spec K r_9.2.2.1 r_36 h_37) (by kernel_rfl) (calls_cons (delta_Same_spec K r_13.1 r_13.2.1 r_2.1 r_2.2.1 r_40 h_41) (by kernel_rfl) (calls_cons (subset_Subset_Count_spec K r_21.1 (1 : Int) r_45 h_46) (by kernel_rfl) (calls_cons (subset_Subset_Size_spec K r_21.1 r_48 h_49) (by kernel_rfl) calls_nil))))) 5 [0] [] ⟨[(0, .c (.val (.bool false)))], [], 5⟩ [(r_9.2.2.2 == (0 : Int)) = true, ((((List.length r_9.2.1) : Nat) : Int) == (3 : Int)) = true, (0 : Int) ≤ (0 : Int), (0 : Int) < (((List.length r_9.2.1) : Nat) : Int), ((List.getD r_9.2.1 0 ((0 : Int), ((0 : Int), ByteArray.empty))).2.1 == (1 : Int)) = true, (0 : Int) ≤ (2 : Int), (2 : Int) < (((List.length r_9.2.1) : Nat) : Int), ((List.getD r_9.2.1 2 ((0 : Int), ((0 : Int), ByteArray.empty))).1 == (1 : Int)) = true, (r_33 == (1 : Int)) = true, (r_36 == (1 : Int)) = true, (r_13.2.2 == (0 : Int)) = true, r_40 = true, (r_17.2.2 == (12 : Int)) = true, (r_21.2 == (0 : Int)) = true, (r_45 == (1 : Int)) = true, (r_48 == (1 : Int)) = false] (by kernel_rfl) rfl rfl (ap2 b_29 (ap2 b_30 (ap2 (by decide) (ap2 c_52.1 (ap2 b_31 (ap2 (by decide) (ap2 c_52.2 (ap2 b_32 (ap2 b_35 (ap2 b_38 (ap2 b_39 (ap2 b_42 (ap2 b_43 (ap2 b_44 (ap2 b_47 (ap1 b_50)))))))))))))))) (by kernel_rfl) (by kernel_rfl) ?_
                            have H_106 := Option.some.inj (show some false = some r from H_105); subst H_106
                            refine VL_ret ?_
                            exact P_to [(0, .c (.val (.bool false)))] [] [] hn (by kernel_rfl) (by kernel_rfl) rfl rfl rfl (QF_retS (by kernel_rfl) (by kernel_rfl) rfl)
                        · have H_99 := of_f H_97 b_47
                          obtain ⟨c_53, H_107⟩ := of_if H_99
                          refine V_reg hN hn [(26, ⟨38, 0, [.c (.imm (.opt (.pair (.slice (.pair (.int .i64) (.int .i64))) (.int .i64))) r_9.2.2.1), .c (.val (.int .i64 (1 : Int)))], [], .c (.val (.int .i64 r_33)), [], [], 5⟩), (31, ⟨20, 0, [.c (.imm (.opt (.pair (.slice (.pair (.int .i64) (.int .i64))) (.int .i64))) r_9.2.2.1)], [], .c (.val (.int .i64 r_36)), [], [], 5⟩), (41, ⟨32, 0, [.agg [.val (.int .i64 r_13.1), .imm (.slice (.pair (.int .i64) (.pair (.int .i64) .str))) r_13.2.1], .agg [.val (.int .i64 r_2.1), .imm (.slice (.pair (.int .i64) (.pair (.int .i64) .str))) r_2.2.1]], [], .c (.val (.bool r_40)), [], [], 5⟩), (53, ⟨38, 0, [.c (.imm (.opt (.pair (.slice (.pair (.int .i64) (.int .i64))) (.int .i64))) r_21.1), .c (.val (.int .i64 (1 : Int)))], [], .c (.val (.int .i64 r_45)), [], [], 5⟩)] [(52, true), (58, true), (66, true), (74, true), (79, true), (84, true), (88, true), (93, true), (97, true), (101, true), (106, false)] (calls_cons (subset_Subset_Count_spec K r_9.2.2.1 (1 : Int) r_33 h_34) (by kernel_rfl) (calls_cons (subset_Subset_Size_spec K r_9.2.2.1 r_36 h_37) (by kernel_rfl) (calls_cons (delta_Same_spec K r_13.1 r_13.2.1 r_2.1 r_2.2.1 r_40 h_41) (by kernel_rfl) (calls_cons (subset_Subset_Count_spec K r_21.1 (1 : Int) r_45 h_46) (by kernel_rfl) calls_nil)))) 5 [0] [] ⟨[(0, .c (.val (.bool false)))], [], 5⟩ [(r_9.2.2.2 == (0 : Int)) = true, ((((List.length r_9.2.1) : Nat) : Int) == (3 : Int)) = true, (0 : Int) ≤ (0 : Int), (0 : Int) < (((List.length r_9.2.1) : Nat) : Int), ((List.getD r_9.2.1 0 ((0 : Int), ((0 : Int), ByteArray.empty))).2.1 == (1 : Int)) = true, (0 : Int) ≤ (2 : Int), (2 : Int) < (((List.length r_9.2.1) : Nat) : Int), ((List.getD r_9.2.1 2 ((0 : Int), ((0 : Int), ByteArray.empty))).1 == (1 : Int)) = true, (r_33 == (1 : Int)) = true, (r_36 == (1 : Int)) = true, (r_13.2.2 == (0 : Int)) = true, r_40 = true, (r_17.2.2 == (12 : Int)) = true, (r_21.2 == (0 : Int)) = true, (r_45 == (1 : Int)) = false] (by kernel_rfl) rfl rfl (ap2 b_29 (ap2 b_30 (ap2 (by decide) (ap2 c_53.1 (ap2 b_31 (ap2 (by decide) (ap2 c_53.2 (ap2 b_32 (ap2 b_35 (ap2 b_38 (ap2 b_39 (ap2 b_42 (ap2 b_43 (ap2 b_44 (ap1 b_47))))))))))))))) (by kernel_rfl) (by kernel_rfl) ?_
                          have H_108 := Option.some.inj (show some false = some r from H_107); subst H_108
                          refine VL_ret ?_
                          exact P_to [(0, .c (.val (.bool false)))] [] [] hn (by kernel_rfl) (by kernel_rfl) rfl rfl rfl (QF_retS (by kernel_rfl) (by kernel_rfl) rfl)
                      · have H_96 := of_f H_93 b_44
                        obtain ⟨c_54, H_109⟩ := of_if H_96
                        refine V_reg hN hn [(26, ⟨38, 0, [.c (.imm (.opt (.pair (.slice (.pair (.int .i64) (.int .i64))) (.int .i64))) r_9.2.2.1), .c (.val (.int .i64 (1 : Int)))], [], .c (.val (.int .i64 r_33)), [], [], 5⟩), (31, ⟨20, 0, [.c (.imm (.opt (.pair (.slice (.pair (.int .i64) (.int .i64))) (.int .i64))) r_9.2.2.1)], [], .c (.val (.int .i64 r_36)), [], [], 5⟩), (41, ⟨32, 0, [.agg [.val (.int .i64 r_13.1), .imm (.slice (.pair (.int .i64) (.pair (.int .i64) .str))) r_13.2.1], .agg [.val (.int .i64 r_2.1), .imm (.slice (.pair (.int .i64) (.pair (.int .i64) .str))) r_2.2.1]], [], .c (.val (.bool r_40)), [], [], 5⟩)] [(52, true), (58, true), (66, true), (74, true), (79, true), (84, true), (88, true), (93, true), (97, true), (101, false)] (calls_cons (subset_Subset_Count_spec K r_9.2.2.1 (1 : Int) r_33 h_34) (by kernel_rfl) (calls_cons (subset_Subset_Size_spec K r_9.2.2.1 r_36 h_37) (by kernel_rfl) (calls_cons (delta_Same_spec K r_13.1 r_13.2.1 r_2.1 r_2.2.1 r_40 h_41) (by kernel_rfl) calls_nil))) 5 [0] [] ⟨[(0, .c (.val (.bool false)))], [], 5⟩ [(r_9.2.2.2 == (0 : Int)) = true, ((((List.length r_9.2.1) : Nat) : Int) == (3 : Int)) = true, (0 : Int) ≤ (0 : Int), (0 : Int) < (((List.length r_9.2.1) : Nat) : Int), ((List.getD r_9.2.1 0 ((0 : Int), ((0 : Int), ByteArray.empty))).2.1 == (1 : Int)) = true, (0 : Int) ≤ (2 : Int), (2 : Int) < (((List.length r_9.2.1) : Nat) : Int), ((List.getD r_9.2.1 2 ((0 : Int), ((0 : Int), ByteArray.empty))).1 == (1 : Int)) = true, (r_33 == (1 : Int)) = true, (r_36 == (1 : Int)) = true, (r_13.2.2 == (0 : Int)) = true, r_40 = true, (r_17.2.2 == (12 : Int)) = true, (r_21.2 == (0 : Int)) = false] (by kernel_rfl) rfl rfl (ap2 b_29 (ap2 b_30 (ap2 (by decide) (ap2 c_54.1 (ap2 b_31 (ap2 (by decide) (ap2 c_54.2 (ap2 b_32 (ap2 b_35 (ap2 b_38 (ap2 b_39 (ap2 b_42 (ap2 b_43 (ap1 b_44)))))))))))))) (by kernel_rfl) (by kernel_rfl) ?_
                        have H_110 := Option.some.inj (show some false = some r from H_109); subst H_110
                        refine VL_ret ?_
                        exact P_to [(0, .c (.val (.bool false)))] [] [] hn (by kernel_rfl) (by kernel_rfl) rfl rfl rfl (QF_retS (by kernel_rfl) (by kernel_rfl) rfl)
                    · have H_94 := of_f H_91 b_43
                      obtain ⟨c_55, H_111⟩ := of_if H_94
                      refine V_reg hN hn [(26, ⟨38, 0, [.c (.imm (.opt (.pair (.slice (.pair (.int .i64) (.int .i64))) (.int .i64))) r_9.2.2.1), .c (.val (.int .i64 (1 : Int)))], [], .c (.val (.int .i64 r_33)), [], [], 5⟩), (31, ⟨20, 0, [.c (.imm (.opt (.pair (.slice (.pair (.int .i64) (.int .i64))) (.int .i64))) r_9.2.2.1)], [], .c (.val (.int .i64 r_36)), [], [], 5⟩), (41, ⟨32, 0, [.agg [.val (.int .i64 r_13.1), .imm (.slice (.pair (.int .i64) (.pair (.int .i64) .str))) r_13.2.1], .agg [.val (.int .i64 r_2.1), .imm (.slice (.pair (.int .i64) (.pair (.int .i64) .str))) r_2.2.1]], [], .c (.val (.bool r_40)), [], [], 5⟩)] [(52, true), (58, true), (66, true), (74, true), (79, true), (84, true), (88, true), (93, true), (97, false)] (calls_cons (subset_Subset_Count_spec K r_9.2.2.1 (1 : Int) r_33 h_34) (by kernel_rfl) (calls_cons (subset_Subset_Size_spec K r_9.2.2.1 r_36 h_37) (by kernel_rfl) (calls_cons (delta_Same_spec K r_13.1 r_13.2.1 r_2.1 r_2.2.1 r_40 h_41) (by kernel_rfl) calls_nil))) 5 [0] [] ⟨[(0, .c (.val (.bool false)))], [], 5⟩ [(r_9.2.2.2 == (0 : Int)) = true, ((((List.length r_9.2.1) : Nat) : Int) == (3 : Int)) = true, (0 : Int) ≤ (0 : Int), (0 : Int) < (((List.length r_9.2.1) : Nat) : Int), ((List.getD r_9.2.1 0 ((0 : Int), ((0 : Int), ByteArray.empty))).2.1 == (1 : Int)) = true, (0 : Int) ≤ (2 : Int), (2 : Int) < (((List.length r_9.2.1) : Nat) : Int), ((List.getD r_9.2.1 2 ((0 : Int), ((0 : Int), ByteArray.empty))).1 == (1 : Int)) = true, (r_33 == (1 : Int)) = true, (r_36 == (1 : Int)) = true, (r_13.2.2 == (0 : Int)) = true, r_40 = true, (r_17.2.2 == (12 : Int)) = false] (by kernel_rfl) rfl rfl (ap2 b_29 (ap2 b_30 (ap2 (by decide) (ap2 c_55.1 (ap2 b_31 (ap2 (by decide) (ap2 c_55.2 (ap2 b_32 (ap2 b_35 (ap2 b_38 (ap2 b_39 (ap2 b_42 (ap1 b_43))))))))))))) (by kernel_rfl) (by kernel_rfl) ?_
                      have H_112 := Option.some.inj (show some false = some r from H_111); subst H_112
                      refine VL_ret ?_
                      exact P_to [(0, .c (.val (.bool false)))] [] [] hn (by kernel_rfl) (by kernel_rfl) rfl rfl rfl (QF_retS (by kernel_rfl) (by kernel_rfl) rfl)
                  · have H_92 := of_f H_90 b_42
                    obtain ⟨c_56, H_113⟩ := of_if H_92
                    refine V_reg hN hn [(26, ⟨38, 0, [.c (.imm (.opt (.pair (.slice (.pair (.int .i64) (.int .i64))) (.int .i64))) r_9.2.2.1), .c (.val (.int .i64 (1 : Int)))], [], .c (.val (.int .i64 r_33)), [], [], 5⟩), (31, ⟨20, 0, [.c (.imm (.opt (.pair (.slice (.pair (.int .i64) (.int .i64))) (.int .i64))) r_9.2.2.1)], [], .c (.val (.int .i64 r_36)), [], [], 5⟩), (41, ⟨32, 0, [.agg [.val (.int .i64 r_13.1), .imm (.slice (.pair (.int .i64) (.pair (.int .i64) .str))) r_13.2.1], .agg [.val (.int .i64 r_2.1), .imm (.slice (.pair (.int .i64) (.pair (.int .i64) .str))) r_2.2.1]], [], .c (.val (.bool r_40)), [], [], 5⟩)] [(52, true), (58, true), (66, true), (74, true), (79, true), (84, true), (88, true), (93, false)] (calls_cons (subset_Subset_Count_spec K r_9.2.2.1 (1 : Int) r_33 h_34) (by kernel_rfl) (calls_cons (subset_Subset_Size_spec K r_9.2.2.1 r_36 h_37) (by kernel_rfl) (calls_cons (delta_Same_spec K r_13.1 r_13.2.1 r_2.1 r_2.2.1 r_40 h_41) (by kernel_rfl) calls_nil))) 5 [0] [] ⟨[(0, .c (.val (.bool false)))], [], 5⟩ [(r_9.2.2.2 == (0 : Int)) = true, ((((List.length r_9.2.1) : Nat) : Int) == (3 : Int)) = true, (0 : Int) ≤ (0 : Int), (0 : Int) < (((List.length r_9.2.1) : Nat) : Int), ((List.getD r_9.2.1 0 ((0 : Int), ((0 : Int), ByteArray.empty))).2.1 == (1 : Int)) = true, (0 : Int) ≤ (2 : Int), (2 : Int) < (((List.length r_9.2.1) : Nat) : Int), ((List.getD r_9.2.1 2 ((0 : Int), ((0 : Int), ByteArray.empty))).1 == (1 : Int)) = true, (r_33 == (1 : Int)) = true, (r_36 == (1 : Int)) = true, (r_13.2.2 == (0 : Int)) = true, r_40 = false] (by kernel_rfl) rfl rfl (ap2 b_29 (ap2 b_30 (ap2 (by decide) (ap2 c_56.1 (ap2 b_31 (ap2 (by decide) (ap2 c_56.2 (ap2 b_32 (ap2 b_35 (ap2 b_38 (ap2 b_39 (ap1 b_42)))))))))))) (by kernel_rfl) (by kernel_rfl) ?_
                    have H_114 := Option.some.inj (show some false = some r from H_113); subst H_114
                    refine VL_ret ?_
                    exact P_to [(0, .c (.val (.bool false)))] [] [] hn (by kernel_rfl) (by kernel_rfl) rfl rfl rfl (QF_retS (by kernel_rfl) (by kernel_rfl) rfl)
                · have H_89 := of_f H_86 b_39
                  obtain ⟨c_57, H_115⟩ := of_if H_89
                  refine V_reg hN hn [(26, ⟨38, 0, [.c (.imm (.opt (.pair (.slice (.pair (.int .i64) (.int .i64))) (.int .i64))) r_9.2.2.1), .c (.val (.int .i64 (1 : Int)))], [], .c (.val (.int .i64 r_33)), [], [], 5⟩), (31, ⟨20, 0, [.c (.imm (.opt (.pair (.slice (.pair (.int .i64) (.int .i64))) (.int .i64))) r_9.2.2.1)], [], .c (.val (.int .i64 r_36)), [], [], 5⟩)] [(52, true), (58, true), (66, true), (74, true), (79, true), (84, true), (88, false)] (calls_cons (subset_Subset_Count_spec K r_9.2.2.1 (1 : Int) r_33 h_34) (by kernel_rfl) (calls_cons (subset_Subset_Size_spec K r_9.2.2.1 r_36 h_37) (by kernel_rfl) calls_nil)) 5 [0] [] ⟨[(0, .c (.val (.bool false)))], [], 5⟩ [(r_9.2.2.2 == (0 : Int)) = true, ((((List.length r_9.2.1) : Nat) : Int) == (3 : Int)) = true, (0 : Int) ≤ (0 : Int), (0 : Int) < (((List.length r_9.2.1) : Nat) : Int), ((List.getD r_9.2.1 0 ((0 : Int), ((0 : Int), ByteArray.empty))).2.1 == (1 : Int)) = true, (0 : Int) ≤ (2 : Int), (2 : Int) < (((List.length r_9.2.1) : Nat) : Int), ((List.getD r_9.2.1 2 ((0 : Int), ((0 : Int), ByteArray.empty))).1 == (1 : Int)) = true, (r_33 == (1 : Int)) = true, (r_36 == (1 : Int)) = true, (r_13.2.2 == (0 : Int)) = false] (by kernel_rfl) rfl rfl (ap2 b_29 (ap2 b_30 (ap2 (by decide) (ap2 c_57.1 (ap2 b_31 (ap2 (by decide) (ap2 c_57.2 (ap2 b_32 (ap2 b_35 (ap2 b_38 (ap1 b_39))))))))))) (by kernel_rfl) (by kernel_rfl) ?_
                  have H_116 := Option.some.inj (show some false = some r from H_115); subst H_116
                  refine VL_ret ?_
                  exact P_to [(0, .c (.val (.bool false)))] [] [] hn (by kernel_rfl) (by kernel_rfl) rfl rfl rfl (QF_retS (by kernel_rfl) (by kernel_rfl) rfl)
              · have H_87 := of_f H_85 b_38
                obtain ⟨c_58, H_117⟩ := of_if H_87
                refine V_reg hN hn [(26, ⟨38, 0, [.c (.imm (.opt (.pair (.slice (.pair (.int .i64) (.int .i64))) (.int .i64))) r_9.2.2.1), .c (.val (.int .i64 (1 : Int)))], [], .c (.val (.int .i64 r_33)), [], [], 5⟩), (31, ⟨20, 0, [.c (.imm (.opt (.pair (.slice (.pair (.int .i64) (.int .i64))) (.int .i64))) r_9.2.2.1)], [], .c (.val (.int .i64 r_36)), [], [], 5⟩)] [(52, true), (58, true), (66, true), (74, true), (79, true), (84, false)] (calls_cons (subset_Subset_Count_spec K r_9.2.2.1 (1 : Int) r_33 h_34) (by kernel_rfl) (calls_cons (subset_Subset_Size_spec K r_9.2.2.1 r_36 h_37) (by kernel_rfl) calls_nil)) 5 [0] [] ⟨[(0, .c (.val (.bool false)))], [], 5⟩ [(r_9.2.2.2 == (0 : Int)) = true, ((((List.length r_9.2.1) : Nat) : Int) == (3 : Int)) = true, (0 : Int) ≤ (0 : Int), (0 : Int) < (((List.length r_9.2.1) : Nat) : Int), ((List.getD r_9.2.1 0 ((0 : Int), ((0 : Int), ByteArray.empty))).2.1 == (1 : Int)) = true, (0 : Int) ≤ (2 : Int), (2 : Int) < (((List.length r_9.2.1) : Nat) : Int), ((List.getD r_9.2.1 2 ((0 : Int), ((0 : Int), ByteArray.empty))).1 == (1 : Int)) = true, (r_33 == (1 : Int)) = true, (r_36 == (1 : Int)) = false] (by kernel_rfl) rfl rfl (ap2 b_29 (ap2 b_30 (ap2 (by decide) (ap2 c_58.1 (ap2 b_31 (ap2 (by decide) (ap2 c_58.2 (ap2 b_32 (ap2 b_35 (ap1 b_38)))))))))) (by kernel_rfl) (by kernel_rfl) ?_
                have H_118 := Option.some.inj (show some false = some r from H_117); subst H_118
                refine VL_ret ?_
                exact P_to [(0, .c (.val (.bool false)))] [] [] hn (by kernel_rfl) (by kernel_rfl) rfl rfl rfl (QF_retS (by kernel_rfl) (by kernel_rfl) rfl)
            · have H_84 := of_f H_82 b_35
              obtain ⟨c_59, H_119⟩ := of_if H_84
              refine V_reg hN hn [(26, ⟨38, 0, [.c (.imm (.opt (.pair (.slice (.pair (.int .i64) (.int .i64))) (.int .i64))) r_9.2.2.1), .c (.val (.int .i64 (1 : Int)))], [], .c (.val (.int .i64 r_33)), [], [], 5⟩)] [(52, true), (58, true), (66, true), (74, true), (79, false)] (calls_cons (subset_Subset_Count_spec K r_9.2.2.1 (1 : Int) r_33 h_34) (by kernel_rfl) calls_nil) 5 [0] [] ⟨[(0, .c (.val (.bool false)))], [], 5⟩ [(r_9.2.2.2 == (0 : Int)) = true, ((((List.length r_9.2.1) : Nat) : Int) == (3 : Int)) = true, (0 : Int) ≤ (0 : Int), (0 : Int) < (((List.length r_9.2.1) : Nat) : Int), ((List.getD r_9.2.1 0 ((0 : Int), ((0 : Int), ByteArray.empty))).2.1 == (1 : Int)) = true, (0 : Int) ≤ (2 : Int), (2 : Int) < (((List.length r_9.2.1) : Nat) : Int), ((List.getD r_9.2.1 2 ((0 : Int), ((0 : Int), ByteArray.empty))).1 == (1 : Int)) = true, (r_33 == (1 : Int)) = false] (by kernel_rfl) rfl rfl (ap2 b_29 (ap2 b_30 (ap2 (by decide) (ap2 c_59.1 (ap2 b_31 (ap2 (by decide) (ap2 c_59.2 (ap2 b_32 (ap1 b_35))))))))) (by kernel_rfl) (by kernel_rfl) ?_
              have H_120 := Option.some.inj (show some false = some r from H_119); subst H_120
              refine VL_ret ?_
              exact P_to [(0, .c (.val (.bool false)))] [] [] hn (by kernel_rfl) (by kernel_rfl) rfl rfl rfl (QF_retS (by kernel_rfl) (by kernel_rfl) rfl)
          · have H_81 := of_f H_78 b_32
            obtain ⟨c_60, H_121⟩ := of_if H_81
            refine V_reg hN hn [] [(52, true), (58, true), (66, true), (74, false)] calls_nil 5 [0] [] ⟨[(0, .c (.val (.bool false)))], [], 5⟩ [(r_9.2.2.2 == (0 : Int)) = true, ((((List.length r_9.2.1) : Nat) : Int) == (3 : Int)) = true, (0 : Int) ≤ (0 : Int), (0 : Int) < (((List.length r_9.2.1) : Nat) : Int), ((List.getD r_9.2.1 0 ((0 : Int), ((0 : Int), ByteArray.empty))).2.1 == (1 : Int)) = true, (0 : Int) ≤ (2 : Int), (2 : Int) < (((List.length r_9.2.1) : Nat) : Int), ((List.getD r_9.2.1 2 ((0 : Int), ((0 : Int), ByteArray.empty))).1 == (1 : Int)) = false] (by kernel_rfl) rfl rfl (ap2 b_29 (ap2 b_30 (ap2 (by decide) (ap2 c_60.1 (ap2 b_31 (ap2 (by decide) (ap2 c_60.2 (ap1 b_32)))))))) (by kernel_rfl) (by kernel_rfl) ?_
            have H_122 := Option.some.inj (show some false = some r from H_121); subst H_122
            refine VL_ret ?_
            exact P_to [(0, .c (.val (.bool false)))] [] [] hn (by kernel_rfl) (by kernel_rfl) rfl rfl rfl (QF_retS (by kernel_rfl) (by kernel_rfl) rfl)
        · have H_79 := of_f H_76 b_31
          obtain ⟨c_61, H_123⟩ := of_if H_79
          refine V_reg hN hn [] [(52, true), (58, true), (66, false)] calls_nil 5 [0] [] ⟨[(0, .c (.val (.bool false)))], [], 5⟩ [(r_9.2.2.2 == (0 : Int)) = true, ((((List.length r_9.2.1) : Nat) : Int) == (3 : Int)) = true, (0 : Int) ≤ (0 : Int), (0 : Int) < (((List.length r_9.2.1) : Nat) : Int), ((List.getD r_9.2.1 0 ((0 : Int), ((0 : Int), ByteArray.empty))).2.1 == (1 : Int)) = false] (by kernel_rfl) rfl rfl (ap2 b_29 (ap2 b_30 (ap2 (by decide) (ap2 c_61 (ap1 b_31))))) (by kernel_rfl) (by kernel_rfl) ?_
          have H_124 := Option.some.inj (show some false = some r from H_123); subst H_124
          refine VL_ret ?_
          exact P_to [(0, .c (.val (.bool false)))] [] [] hn (by kernel_rfl) (by kernel_rfl) rfl rfl rfl (QF_retS (by kernel_rfl) (by kernel_rfl) rfl)
      · have H_77 := of_f H_74 b_30
        refine V_reg hN hn [] [(52, true), (58, false)] calls_nil 5 [0] [] ⟨[(0, .c (.val (.bool false)))], [], 5⟩ [(r_9.2.2.2 == (0 : Int)) = true, ((((List.length r_9.2.1) : Nat) : Int) == (3 : Int)) = false] (by kernel_rfl) rfl rfl (ap2 b_29 (ap1 b_30)) (by kernel_rfl) (by kernel_rfl) ?_
        have H_125 := Option.some.inj (show some false = some r from H_77); subst H_125
        refine VL_ret ?_
        exact P_to [(0, .c (.val (.bool false)))] [] [] hn (by kernel_rfl) (by kernel_rfl) rfl rfl rfl (QF_retS (by kernel_rfl) (by kernel_rfl) rfl)
    · have H_75 := of_f H_73 b_29
      refine V_reg hN hn [] [(52, false)] calls_nil 5 [0] [] ⟨[(0, .c (.val (.bool false)))], [], 5⟩ [(r_9.2.2.2 == (0 : Int)) = false] (by kernel_rfl) rfl rfl (ap1 b_29) (by kernel_rfl) (by kernel_rfl) ?_
      have H_126 := Option.some.inj (show some false = some r from H_75); subst H_126
      refine VL_ret ?_
      exact P_to [(0, .c (.val (.bool false)))] [] [] hn (by kernel_rfl) (by kernel_rfl) rfl rfl rfl (QF_retS (by kernel_rfl) (by kernel_rfl) rfl)

theorem palinodelaw12_few_spec (K : Nat) (d_1 : Int) (d_2 : (List (Int × (Int × ByteArray)))) (r : Bool) (H : palinodelaw12_few K d_1 d_2 = some r) : Spec Try.prog 9 0 [.agg [.val (.int .i64 d_1), .imm (.slice (.pair (.int .i64) (.pair (.int .i64) .str))) d_2]] [] (.c (.val (.bool r))) [] := by
  refine Spec_mk (fn := Try.f9) (c := (Try.f9.body).get!) Try.func9 (by kernel_rfl) rfl ?_
  intro C hN hn
  replace hN : C.N = 28 := hN
  unfold palinodelaw12_few at H
  refine V_run hN hn 5 0 [1, 3] [0] ⟨[(1, .c (.h 0)), (3, .c (.val (.int .i64 (0 : Int))))], [(0, .box [.val (.int .i64 d_1), .imm (.slice (.pair (.int .i64) (.pair (.int .i64) .str))) d_2])], 1⟩ [] (by kernel_rfl) rfl rfl ap0 ?_
  obtain ⟨q_21, H_22, H_23⟩ := of_bind H
  refine V_cut (Y := Unit) (R := (Bool ⊕ Unit)) q_21 (fun y => (Sum.inr y)) (fun y => [(1, .c (.h 0))]) (fun y => [(0, .box [.val (.int .i64 d_1), .imm (.slice (.pair (.int .i64) (.pair (.int .i64) .str))) d_2])]) ?_ ?_
  · skip
    refine VL_block ?_
    refine V_to [(1, .c (.h 0)), (3, .c (.val (.int .i64 (0 : Int))))] [(0, .box [.val (.int .i64 d_1), .imm (.slice (.pair (.int .i64) (.pair (.int .i64) .str))) d_2])] [(0, 0)] hn (by kernel_rfl) (by kernel_rfl) rfl rfl rfl ?_
    refine VL_loop (X := Int) (fun x => [(1, .c (.h 0)), (3, .c (.val (.int .i64 x)))]) (fun x => [(0, .box [.val (.int .i64 d_1), .imm (.slice (.pair (.int .i64) (.pair (.int .i64) .str))) d_2])]) (fun k x => palinodelaw12_few.l0 K d_2 k x = some q_21) K (0 : Int) H_22 (fun _ h => no_none h) ?_
    intro k_5 i_4 H_25
    have H_26 : palinodelaw12_few.l0 K d_2 (k_5 + 1) i_4 = some q_21 := H_25
    rw [palinodelaw12_few.l0] at H_26
    refine V_run hN hn 3 1 [1, 3, 8] [0] ⟨[(1, .c (.h 0)), (3, .c (.val (.int .i64 i_4))), (8, .c (.val (.bool (decide (i_4 < (((List.length d_2) : Nat) : Int))))))], [(0, .box [.val (.int .i64 d_1), .imm (.slice (.pair (.int .i64) (.pair (.int .i64) .str))) d_2])], 1⟩ [] (by kernel_rfl) rfl rfl ap0 ?_
    refine VL_cond ((decide (i_4 < (((List.length d_2) : Nat) : Int)))) (by kernel_rfl) ?_ ?_
    · intro b_7; have H_27 := of_t H_26 b_7
      refine V_run hN hn 2 1 [1, 3, 8] [0] ⟨[(1, .c (.h 0)), (3, .c (.val (.int .i64 i_4))), (8, .c (.val (.bool (decide (i_4 < (((List.length d_2) : Nat) : Int))))))], [(0, .box [.val (.int .i64 d_1), .imm (.slice (.pair (.int .i64) (.pair (.int .i64) .str))) d_2])], 1⟩ [] (by kernel_rfl) rfl rfl ap0 ?_
      refine VL_block ?_
      obtain ⟨c_9, H_29⟩ := of_if H_27
      refine V_run hN hn 2 1 [1, 3, 18] [0] ⟨[(1, .c (.h 0)), (3, .c (.val (.int .i64 i_4))), (18, .c (.val (.bool (decide ((((ByteArray.size (List.getD d_2 (Int.toNat i_4) ((0 : Int), ((0 : Int), ByteArray.empty))).2.2) : Nat) : Int) > (200 : Int))))))], [(0, .box [.val (.int .i64 d_1), .imm (.slice (.pair (.int .i64) (.pair (.int .i64) .str))) d_2])], 1⟩ [0 ≤ i_4, i_4 < (((List.length d_2) : Nat) : Int)] (by kernel_rfl) rfl rfl (ap2 c_9.1 (ap1 c_9.2)) ?_
      refine VL_cond ((decide ((((ByteArray.size (List.getD d_2 (Int.toNat i_4) ((0 : Int), ((0 : Int), ByteArray.empty))).2.2) : Nat) : Int) > (200 : Int)))) (by kernel_rfl) ?_ ?_
      · intro b_10; have H_30 := of_t H_29 b_10
        refine V_run hN hn 2 1 [2] [] ⟨[(2, .c (.val (.bool false)))], [], 1⟩ [] (by kernel_rfl) rfl rfl ap0 ?_
        have H_32 := Option.some.inj (show some (Sum.inl false) = some q_21 from H_30); subst H_32
        have H_33 := Option.some.inj (show some false = some r from H_23); subst H_33
        refine VL_ret ?_
        refine QB_ret ?_
        refine QL_ret ?_
        refine QB_ret ?_
        refine QP_ret ?_
        exact P_to [(2, .c (.val (.bool false)))] [] [] hn (by kernel_rfl) (by kernel_rfl) rfl rfl rfl (QF_retS (by kernel_rfl) (by kernel_rfl) rfl)
      · intro b_10; have H_31 := of_f H_29 b_10
        refine V_run hN hn 1 1 [1, 3, 18] [0] ⟨[(1, .c (.h 0)), (3, .c (.val (.int .i64 i_4))), (18, .c (.val (.bool (decide ((((ByteArray.size (List.getD d_2 (Int.toNat i_4) ((0 : Int), ((0 : Int), ByteArray.empty))).2.2) : Nat) : Int) > (200 : Int))))))], [(0, .box [.val (.int .i64 d_1), .imm (.slice (.pair (.int .i64) (.pair (.int .i64) .str))) d_2])], 1⟩ [] (by kernel_rfl) rfl rfl ap0 ?_
        refine VL_nil (QB_end ?_)
        refine V_run hN hn 1 1 [1, 3] [0] ⟨[(1, .c (.h 0)), (3, .c (.val (.int .i64 (IntKind.wrap .i64 (i_4 + (1 : Int))))))], [(0, .box [.val (.int .i64 d_1), .imm (.slice (.pair (.int .i64) (.pair (.int .i64) .str))) d_2])], 1⟩ [] (by kernel_rfl) rfl rfl ap0 ?_
        refine VL_nil ?_
        exact V_roundEnd (IntKind.wrap .i64 (i_4 + (1 : Int))) H_31 [(0, 0)] hn (by kernel_rfl) (by kernel_rfl) rfl rfl rfl
    · intro b_7; have H_28 := of_f H_26 b_7
      refine VL_exit ?_
      refine QL_exit ?_
      refine QB_here ?_
      have H_34 := Option.some.inj (show some (Sum.inr ()) = some q_21 from H_28); subst H_34
      refine VL_nil ?_
      exact QP_end () rfl [(0, 0)] hn (by kernel_rfl) (by kernel_rfl) rfl rfl rfl
  · intro y_24 hy; subst hy
    skip
    refine V_run hN hn 1 1 [1] [0] ⟨[(1, .c (.h 0))], [(0, .box [.val (.int .i64 d_1), .imm (.slice (.pair (.int .i64) (.pair (.int .i64) .str))) d_2])], 1⟩ [] (by kernel_rfl) rfl rfl ap0 ?_
    rcases Bool.eq_false_or_eq_true ((decide (d_1 ≤ (400 : Int)))) with b_15 | b_15
    · have H_35 := of_t H_23 b_15
      refine V_reg hN hn [] [(22, true)] calls_nil 1 [2] [] ⟨[(2, .c (.val (.bool (decide ((((List.length d_2) : Nat) : Int) ≤ (70 : Int))))))], [], 1⟩ [(decide (d_1 ≤ (400 : Int))) = true] (by kernel_rfl) rfl rfl (ap1 b_15) (by kernel_rfl) (by kernel_rfl) ?_
      have H_37 := Option.some.inj (show some (decide ((((List.length d_2) : Nat) : Int) ≤ (70 : Int))) = some r from H_35); subst H_37
      refine VL_ret ?_
      exact P_to [(2, .c (.val (.bool (decide ((((List.length d_2) : Nat) : Int) ≤ (70 : Int))))))] [] [] hn (by kernel_rfl) (by kernel_rfl) rfl rfl rfl (QF_retS (by kernel_rfl) (by kernel_rfl) rfl)
    · have H_36 := of_f H_23 b_15
      refine V_reg hN hn [] [(22, false)] calls_nil 1 [2] [] ⟨[(2, .c (.val (.bool false)))], [], 1⟩ [(decide (d_1 ≤ (400 : Int))) = false] (by kernel_rfl) rfl rfl (ap1 b_15) (by kernel_rfl) (by kernel_rfl) ?_
      have H_38 := Option.some.inj (show some false = some r from H_36); subst H_38
      refine VL_ret ?_
      exact P_to [(2, .c (.val (.bool false)))] [] [] hn (by kernel_rfl) (by kernel_rfl) rfl rfl rfl (QF_retS (by kernel_rfl) (by kernel_rfl) rfl)

theorem palinoderef1_Size_spec (K : Nat) (s_1 : ByteArray) (at_2 : Int) (r : Int) (H : palinoderef1_Size K s_1 at_2 = some r) : Spec Try.prog 59 0 [.c (.val (.string s_1)), .c (.val (.int .i64 at_2))] [] (.c (.val (.int .i64 r))) [] := by
  refine Spec_mk (fn := Try.f59) (c := (Try.f59.body).get!) Try.func59 (by kernel_rfl) rfl ?_
  intro C hN hn
  replace hN : C.N = 94 := hN
  unfold palinoderef1_Size at H
  refine V_run hN hn 4 0 [0, 1] [] ⟨[(0, .c (.val (.string s_1))), (1, .c (.val (.int .i64 at_2)))], [], 0⟩ [] (by kernel_rfl) rfl rfl ap0 ?_
  obtain ⟨q_77, H_78, H_79⟩ := of_bind H
  refine V_cut (Y := Bool) (R := Bool) q_77 (fun y => y) (fun y => [(0, .c (.val (.string s_1))), (1, .c (.val (.int .i64 at_2))), (18, .c (.val (.bool y)))]) (fun y => []) ?_ ?_
  · skip
    rcases Bool.eq_false_or_eq_true ((decide (at_2 < (0 : Int)))) with b_4 | b_4
    · have H_81 := of_t H_78 b_4
      refine V_reg hN hn [] [(13, true)] calls_nil 0 [0, 1, 18] [] ⟨[(0, .c (.val (.string s_1))), (1, .c (.val (.int .i64 at_2))), (18, .c (.val (.bool true)))], [], 0⟩ [(decide (at_2 < (0 : Int))) = true] (by kernel_rfl) rfl rfl (ap1 b_4) (by kernel_rfl) (by kernel_rfl) ?_
      have H_83 := Option.some.inj (show some true = some q_77 from H_81); subst H_83
      refine VL_nil ?_
      exact QP_end true rfl [] hn (by kernel_rfl) (by kernel_rfl) rfl rfl rfl
    · have H_82 := of_f H_78 b_4
      refine V_reg hN hn [] [(13, false)] calls_nil 0 [0, 1, 18] [] ⟨[(0, .c (.val (.string s_1))), (1, .c (.val (.int .i64 at_2))), (18, .c (.val (.bool (decide (at_2 ≥ (((ByteArray.size s_1) : Nat) : Int))))))], [], 0⟩ [(decide (at_2 < (0 : Int))) = false] (by kernel_rfl) rfl rfl (ap1 b_4) (by kernel_rfl) (by kernel_rfl) ?_
      have H_84 := Option.some.inj (show some (decide (at_2 ≥ (((ByteArray.size s_1) : Nat) : Int))) = some q_77 from H_82); subst H_84
      refine VL_nil ?_
      exact QP_end (decide (at_2 ≥ (((ByteArray.size s_1) : Nat) : Int))) rfl [] hn (by kernel_rfl) (by kernel_rfl) rfl rfl rfl
  · intro y_80 hy; subst hy
    skip
    skip
    refine VL_cond (y_80) (by kernel_rfl) ?_ ?_
    · intro b_8; have H_85 := of_t H_79 b_8
      refine V_run hN hn 2 0 [4] [] ⟨[(4, .c (.val (.int .i64 (0 : Int))))], [], 0⟩ [] (by kernel_rfl) rfl rfl ap0 ?_
      have H_87 := Option.some.inj (show some (0 : Int) = some r from H_85); subst H_87
      refine VL_ret ?_
      exact P_to [(4, .c (.val (.int .i64 (0 : Int))))] [] [] hn (by kernel_rfl) (by kernel_rfl) rfl rfl rfl (QF_retS (by kernel_rfl) (by kernel_rfl) rfl)
    · intro b_8; have H_86 := of_f H_79 b_8
      obtain ⟨c_10, H_88⟩ := of_if H_86
      refine V_run hN hn 6 0 [0, 1, 5] [] ⟨[(0, .c (.val (.string s_1))), (1, .c (.val (.int .i64 at_2))), (5, .c (.val (.int .i64 (IntKind.wrap .i64 (bt s_1 at_2)))))], [], 0⟩ [0 ≤ at_2, at_2 < (((ByteArray.size s_1) : Nat) : Int)] (by kernel_rfl) rfl rfl (ap2 c_10.1 (ap1 c_10.2)) ?_
      refine VL_block ?_
      refine V_run hN hn 2 0 [0, 1, 5, 23] [] ⟨[(0, .c (.val (.string s_1))), (1, .c (.val (.int .i64 at_2))), (5, .c (.val (.int .i64 (IntKind.wrap .i64 (bt s_1 at_2))))), (23, .c (.val (.bool (decide ((IntKind.wrap .i64 (bt s_1 at_2)) < (128 : Int))))))], [], 0⟩ [] (by kernel_rfl) rfl rfl ap0 ?_
      refine VL_cond ((decide ((IntKind.wrap .i64 (bt s_1 at_2)) < (128 : Int)))) (by kernel_rfl) ?_ ?_
      · intro b_12; have H_89 := of_t H_88 b_12
        refine V_run hN hn 2 0 [4] [] ⟨[(4, .c (.val (.int .i64 (1 : Int))))], [], 0⟩ [] (by kernel_rfl) rfl rfl ap0 ?_
        have H_91 := Option.some.inj (show some (1 : Int) = some r from H_89); subst H_91
        refine VL_ret ?_
        refine QB_ret ?_
        exact P_to [(4, .c (.val (.int .i64 (1 : Int))))] [] [] hn (by kernel_rfl) (by kernel_rfl) rfl rfl rfl (QF_retS (by kernel_rfl) (by kernel_rfl) rfl)
      · intro b_12; have H_90 := of_f H_88 b_12
        refine V_run hN hn 1 0 [0, 1, 5, 23] [] ⟨[(0, .c (.val (.string s_1))), (1, .c (.val (.int .i64 at_2))), (5, .c (.val (.int .i64 (IntKind.wrap .i64 (bt s_1 at_2))))), (23, .c (.val (.bool (decide ((IntKind.wrap .i64 (bt s_1 at_2)) < (128 : Int))))))], [], 0⟩ [] (by kernel_rfl) rfl rfl ap0 ?_
        obtain ⟨q_92, H_93, H_94⟩ := of_bind H_90
        refine V_cut (Y := Bool) (R := Bool) q_92 (fun y => y) (fun y => [(0, .c (.val (.string s_1))), (1, .c (.val (.int .i64 at_2))), (5, .c (.val (.int .i64 (IntKind.wrap .i64 (bt s_1 at_2))))), (26, .c (.val (.bool y)))]) (fun y => []) ?_ ?_
        · skip
          rcases Bool.eq_false_or_eq_true ((decide ((IntKind.wrap .i64 (bt s_1 at_2)) ≥ (192 : Int)))) with b_15 | b_15
          · have H_96 := of_t H_93 b_15
            refine V_reg hN hn [] [(29, true)] calls_nil 0 [0, 1, 5, 26] [] ⟨[(0, .c (.val (.string s_1))), (1, .c (.val (.int .i64 at_2))), (5, .c (.val (.int .i64 (IntKind.wrap .i64 (bt s_1 at_2))))), (26, .c (.val (.bool (decide ((IntKind.wrap .i64 (bt s_1 at_2)) < (224 : Int))))))], [], 0⟩ [(decide ((IntKind.wrap .i64 (bt s_1 at_2)) ≥ (192 : Int))) = true] (by kernel_rfl) rfl rfl (ap1 b_15) (by kernel_rfl) (by kernel_rfl) ?_
            have H_98 := Option.some.inj (show some (decide ((IntKind.wrap .i64 (bt s_1 at_2)) < (224 : Int))) = some q_92 from H_96); subst H_98
            refine VL_nil ?_
            exact QP_end (decide ((IntKind.wrap .i64 (bt s_1 at_2)) < (224 : Int))) rfl [] hn (by kernel_rfl) (by kernel_rfl) rfl rfl rfl
          · have H_97 := of_f H_93 b_15
            refine V_reg hN hn [] [(29, false)] calls_nil 0 [0, 1, 5, 26] [] ⟨[(0, .c (.val (.string s_1))), (1, .c (.val (.int .i64 at_2))), (5, .c (.val (.int .i64 (IntKind.wrap .i64 (bt s_1 at_2))))), (26, .c (.val (.bool false)))], [], 0⟩ [(decide ((IntKind.wrap .i64 (bt s_1 at_2)) ≥ (192 : Int))) = false] (by kernel_rfl) rfl rfl (ap1 b_15) (by kernel_rfl) (by kernel_rfl) ?_
            have H_99 := Option.some.inj (show some false = some q_92 from H_97); subst H_99
            refine VL_nil ?_
            exact QP_end false rfl [] hn (by kernel_rfl) (by kernel_rfl) rfl rfl rfl
        · intro y_95 hy; subst hy
          skip
          skip
          obtain ⟨q_100, H_101, H_102⟩ := of_bind H_94
          refine V_cut (Y := (Int × Int × Int)) (R := (Int ⊕ (Int × Int × Int))) q_100 (fun y => (Sum.inr y)) (fun y => [(0, .c (.val (.string s_1))), (1, .c (.val (.int .i64 at_2))), (6, .c (.val (.int .i64 y.1))), (7, .c (.val (.int .i64 y.2.1))), (8, .c (.val (.int .i64 y.2.2)))]) (fun y => []) ?_ ?_
          · skip
            refine VL_cond (y_95) (by kernel_rfl) ?_ ?_
            · intro b_19; have H_104 := of_t H_101 b_19
              refine V_run hN hn 1 0 [0, 1, 6, 7, 8] [] ⟨[(0, .c (.val (.string s_1))), (1, .c (.val (.int .i64 at_2))), (6, .c (.val (.int .i64 (2 : Int)))), (7, .c (.val (.int .i64 (IntKind.wrap .i64 (BitVec.toNat (BitVec.ofInt (IntKind.bits .i64) (IntKind.wrap .i64 (bt s_1 at_2)) &&& BitVec.ofInt (IntKind.bits .i64) (31 : Int))))))), (8, .c (.val (.int .i64 (128 : Int))))], [], 0⟩ [] (by kernel_rfl) rfl rfl ap0 ?_
              have H_106 := Option.some.inj (show some (Sum.inr ((2 : Int), (IntKind.wrap .i64 (BitVec.toNat (BitVec.ofInt (IntKind.bits .i64) (IntKind.wrap .i64 (bt s_1 at_2)) &&& BitVec.ofInt (IntKind.bits .i64) (31 : Int)))), (128 : Int))) = some q_100 from H_104); subst H_106
              refine VL_nil ?_
              exact QP_end ((2 : Int), (IntKind.wrap .i64 (BitVec.toNat (BitVec.ofInt (IntKind.bits .i64) (IntKind.wrap .i64 (bt s_1 at_2)) &&& BitVec.ofInt (IntKind.bits .i64) (31 : Int)))), (128 : Int)) rfl [] hn (by kernel_rfl) (by kernel_rfl) rfl rfl rfl
            · intro b_19; have H_105 := of_f H_101 b_19
              refine V_run hN hn 1 0 [0, 1, 5, 26] [] ⟨[(0, .c (.val (.string s_1))), (1, .c (.val (.int .i64 at_2))), (5, .c (.val (.int .i64 (IntKind.wrap .i64 (bt s_1 at_2))))), (26, .c (.val (.bool y_95)))], [], 0⟩ [] (by kernel_rfl) rfl rfl ap0 ?_
              obtain ⟨q_107, H_108, H_109⟩ := of_bind H_105
              refine V_cut (Y := Bool) (R := Bool) q_107 (fun y => y) (fun y => [(0, .c (.val (.string s_1))), (1, .c (.val (.int .i64 at_2))), (5, .c (.val (.int .i64 (IntKind.wrap .i64 (bt s_1 at_2))))), (35, .c (.val (.bool y)))]) (fun y => []) ?_ ?_
              · skip
                rcases Bool.eq_false_or_eq_true ((decide ((IntKind.wrap .i64 (bt s_1 at_2)) ≥ (224 : Int)))) with b_22 | b_22
                · have H_111 := of_t H_108 b_22
                  refine V_reg hN hn [] [(38, true)] calls_nil 0 [0, 1, 5, 35] [] ⟨[(0, .c (.val (.string s_1))), (1, .c (.val (.int .i64 at_2))), (5, .c (.val (.int .i64 (IntKind.wrap .i64 (bt s_1 at_2))))), (35, .c (.val (.bool (decide ((IntKind.wrap .i64 (bt s_1 at_2)) < (240 : Int))))))], [], 0⟩ [(decide ((IntKind.wrap .i64 (bt s_1 at_2)) ≥ (224 : Int))) = true] (by kernel_rfl) rfl rfl (ap1 b_22) (by kernel_rfl) (by kernel_rfl) ?_
                  have H_113 := Option.some.inj (show some (decide ((IntKind.wrap .i64 (bt s_1 at_2)) < (240 : Int))) = some q_107 from H_111); subst H_113
                  refine VL_nil ?_
                  exact QP_end (decide ((IntKind.wrap .i64 (bt s_1 at_2)) < (240 : Int))) rfl [] hn (by kernel_rfl) (by kernel_rfl) rfl rfl rfl
                · have H_112 := of_f H_108 b_22
                  refine V_reg hN hn [] [(38, false)] calls_nil 0 [0, 1, 5, 35] [] ⟨[(0, .c (.val (.string s_1))), (1, .c (.val (.int .i64 at_2))), (5, .c (.val (.int .i64 (IntKind.wrap .i64 (bt s_1 at_2))))), (35, .c (.val (.bool false)))], [], 0⟩ [(decide ((IntKind.wrap .i64 (bt s_1 at_2)) ≥ (224 : Int))) = false] (by kernel_rfl) rfl rfl (ap1 b_22) (by kernel_rfl) (by kernel_rfl) ?_
                  have H_114 := Option.some.inj (show some false = some q_107 from H_112); subst H_114
                  refine VL_nil ?_
                  exact QP_end false rfl [] hn (by kernel_rfl) (by kernel_rfl) rfl rfl rfl
              · intro y_110 hy; subst hy
                skip
                skip
                refine VL_cond (y_110) (by kernel_rfl) ?_ ?_
                · intro b_26; have H_115 := of_t H_109 b_26
                  refine V_run hN hn 1 0 [0, 1, 6, 7, 8] [] ⟨[(0, .c (.val (.string s_1))), (1, .c (.val (.int .i64 at_2))), (6, .c (.val (.int .i64 (3 : Int)))), (7, .c (.val (.int .i64 (IntKind.wrap .i64 (BitVec.toNat (BitVec.ofInt (IntKind.bits .i64) (IntKind.wrap .i64 (bt s_1 at_2)) &&& BitVec.ofInt (IntKind.bits .i64) (15 : Int))))))), (8, .c (.val (.int .i64 (2048 : Int))))], [], 0⟩ [] (by kernel_rfl) rfl rfl ap0 ?_
                  have H_117 := Option.some.inj (show some (Sum.inr ((3 : Int), (IntKind.wrap .i64 (BitVec.toNat (BitVec.ofInt (IntKind.bits .i64) (IntKind.wrap .i64 (bt s_1 at_2)) &&& BitVec.ofInt (IntKind.bits .i64) (15 : Int)))), (2048 : Int))) = some q_100 from H_115); subst H_117
                  refine VL_nil ?_
                  exact QP_end ((3 : Int), (IntKind.wrap .i64 (BitVec.toNat (BitVec.ofInt (IntKind.bits .i64) (IntKind.wrap .i64 (bt s_1 at_2)) &&& BitVec.ofInt (IntKind.bits .i64) (15 : Int)))), (2048 : Int)) rfl [] hn (by kernel_rfl) (by kernel_rfl) rfl rfl rfl
                · intro b_26; have H_116 := of_f H_109 b_26
                  refine V_run hN hn 1 0 [0, 1, 5, 35] [] ⟨[(0, .c (.val (.string s_1))), (1, .c (.val (.int .i64 at_2))), (5, .c (.val (.int .i64 (IntKind.wrap .i64 (bt s_1 at_2))))), (35, .c (.val (.bool y_110)))], [], 0⟩ [] (by kernel_rfl) rfl rfl ap0 ?_
                  obtain ⟨q_118, H_119, H_120⟩ := of_bind H_116
                  refine V_cut (Y := Bool) (R := Bool) q_118 (fun y => y) (fun y => [(0, .c (.val (.string s_1))), (1, .c (.val (.int .i64 at_2))), (5, .c (.val (.int .i64 (IntKind.wrap .i64 (bt s_1 at_2))))), (44, .c (.val (.bool y)))]) (fun y => []) ?_ ?_
                  · skip
                    rcases Bool.eq_false_or_eq_true ((decide ((IntKind.wrap .i64 (bt s_1 at_2)) ≥ (240 : Int)))) with b_29 | b_29
                    · have H_122 := of_t H_119 b_29
                      refine V_reg hN hn [] [(47, true)] calls_nil 0 [0, 1, 5, 44] [] ⟨[(0, .c (.val (.string s_1))), (1, .c (.val (.int .i64 at_2))), (5, .c (.val (.int .i64 (IntKind.wrap .i64 (bt s_1 at_2))))), (44, .c (.val (.bool (decide ((IntKind.wrap .i64 (bt s_1 at_2)) < (248 : Int))))))], [], 0⟩ [(decide ((IntKind.wrap .i64 (bt s_1 at_2)) ≥ (240 : Int))) = true] (by kernel_rfl) rfl rfl (ap1 b_29) (by kernel_rfl) (by kernel_rfl) ?_
                      have H_124 := Option.some.inj (show some (decide ((IntKind.wrap .i64 (bt s_1 at_2)) < (248 : Int))) = some q_118 from H_122); subst H_124
                      refine VL_nil ?_
                      exact QP_end (decide ((IntKind.wrap .i64 (bt s_1 at_2)) < (248 : Int))) rfl [] hn (by kernel_rfl) (by kernel_rfl) rfl rfl rfl
                    · have H_123 := of_f H_119 b_29
                      refine V_reg hN hn [] [(47, false)] calls_nil 0 [0, 1, 5, 44] [] ⟨[(0, .c (.val (.string s_1))), (1, .c (.val (.int .i64 at_2))), (5, .c (.val (.int .i64 (IntKind.wrap .i64 (bt s_1 at_2))))), (44, .c (.val (.bool false)))], [], 0⟩ [(decide ((IntKind.wrap .i64 (bt s_1 at_2)) ≥ (240 : Int))) = false] (by kernel_rfl) rfl rfl (ap1 b_29) (by kernel_rfl) (by kernel_rfl) ?_
                      have H_125 := Option.some.inj (show some false = some q_118 from H_123); subst H_125
                      refine VL_nil ?_
                      exact QP_end false rfl [] hn (by kernel_rfl) (by kernel_rfl) rfl rfl rfl
                  · intro y_121 hy; subst hy
                    skip
                    skip
                    refine VL_cond (y_121) (by kernel_rfl) ?_ ?_
                    · intro b_33; have H_126 := of_t H_120 b_33
                      refine V_run hN hn 1 0 [0, 1, 6, 7, 8] [] ⟨[(0, .c (.val (.string s_1))), (1, .c (.val (.int .i64 at_2))), (6, .c (.val (.int .i64 (4 : Int)))), (7, .c (.val (.int .i64 (IntKind.wrap .i64 (BitVec.toNat (BitVec.ofInt (IntKind.bits .i64) (IntKind.wrap .i64 (bt s_1 at_2)) &&& BitVec.ofInt (IntKind.bits .i64) (7 : Int))))))), (8, .c (.val (.int .i64 (65536 : Int))))], [], 0⟩ [] (by kernel_rfl) rfl rfl ap0 ?_
                      have H_128 := Option.some.inj (show some (Sum.inr ((4 : Int), (IntKind.wrap .i64 (BitVec.toNat (BitVec.ofInt (IntKind.bits .i64) (IntKind.wrap .i64 (bt s_1 at_2)) &&& BitVec.ofInt (IntKind.bits .i64) (7 : Int)))), (65536 : Int))) = some q_100 from H_126); subst H_128
                      refine VL_nil ?_
                      exact QP_end ((4 : Int), (IntKind.wrap .i64 (BitVec.toNat (BitVec.ofInt (IntKind.bits .i64) (IntKind.wrap .i64 (bt s_1 at_2)) &&& BitVec.ofInt (IntKind.bits .i64) (7 : Int)))), (65536 : Int)) rfl [] hn (by kernel_rfl) (by kernel_rfl) rfl rfl rfl
                    · intro b_33; have H_127 := of_f H_120 b_33
                      refine V_run hN hn 2 0 [4] [] ⟨[(4, .c (.val (.int .i64 (0 : Int))))], [], 0⟩ [] (by kernel_rfl) rfl rfl ap0 ?_
                      have H_129 := Option.some.inj (show some (Sum.inl (0 : Int)) = some q_100 from H_127); subst H_129
                      have H_130 := Option.some.inj (show some (0 : Int) = some r from H_102); subst H_130
                      refine VL_ret ?_
                      refine QP_ret ?_
                      refine QB_ret ?_
                      exact P_to [(4, .c (.val (.int .i64 (0 : Int))))] [] [] hn (by kernel_rfl) (by kernel_rfl) rfl rfl rfl (QF_retS (by kernel_rfl) (by kernel_rfl) rfl)
          · intro y_103 hy; subst hy
            obtain ⟨n_36, v_37, least_38⟩ := y_103
            refine VL_nil (QB_end ?_)
            refine V_run hN hn 3 0 [0, 1, 6, 7, 8, 58] [] ⟨[(0, .c (.val (.string s_1))), (1, .c (.val (.int .i64 at_2))), (6, .c (.val (.int .i64 n_36))), (7, .c (.val (.int .i64 v_37))), (8, .c (.val (.int .i64 least_38))), (58, .c (.val (.bool (decide ((IntKind.wrap .i64 ((((ByteArray.size s_1) : Nat) : Int) - at_2)) < n_36)))))], [], 0⟩ [] (by kernel_rfl) rfl rfl ap0 ?_
            refine VL_cond ((decide ((IntKind.wrap .i64 ((((ByteArray.size s_1) : Nat) : Int) - at_2)) < n_36))) (by kernel_rfl) ?_ ?_
            · intro b_40; have H_131 := of_t H_102 b_40
              refine V_run hN hn 2 0 [4] [] ⟨[(4, .c (.val (.int .i64 (0 : Int))))], [], 0⟩ [] (by kernel_rfl) rfl rfl ap0 ?_
              have H_133 := Option.some.inj (show some (0 : Int) = some r from H_131); subst H_133
              refine VL_ret ?_
              exact P_to [(4, .c (.val (.int .i64 (0 : Int))))] [] [] hn (by kernel_rfl) (by kernel_rfl) rfl rfl rfl (QF_retS (by kernel_rfl) (by kernel_rfl) rfl)
            · intro b_40; have H_132 := of_f H_102 b_40
              refine V_run hN hn 4 0 [0, 1, 6, 7, 8, 9] [] ⟨[(0, .c (.val (.string s_1))), (1, .c (.val (.int .i64 at_2))), (6, .c (.val (.int .i64 n_36))), (7, .c (.val (.int .i64 v_37))), (8, .c (.val (.int .i64 least_38))), (9, .c (.val (.int .i64 (1 : Int))))], [], 0⟩ [] (by kernel_rfl) rfl rfl ap0 ?_
              obtain ⟨q_134, H_135, H_136⟩ := of_bind H_132
              refine V_cut (Y := Int) (R := (Int ⊕ Int)) q_134 (fun y => (Sum.inr y)) (fun y => [(6, .c (.val (.int .i64 n_36))), (7, .c (.val (.int .i64 y))), (8, .c (.val (.int .i64 least_38)))]) (fun y => []) ?_ ?_
              · skip
                refine VL_block ?_
                refine V_to [(0, .c (.val (.string s_1))), (1, .c (.val (.int .i64 at_2))), (6, .c (.val (.int .i64 n_36))), (7, .c (.val (.int .i64 v_37))), (8, .c (.val (.int .i64 least_38))), (9, .c (.val (.int .i64 (1 : Int))))] [] [] hn (by kernel_rfl) (by kernel_rfl) rfl rfl rfl ?_
                refine VL_loop (X := (Int × Int)) (fun x => [(0, .c (.val (.string s_1))), (1, .c (.val (.int .i64 at_2))), (6, .c (.val (.int .i64 n_36))), (7, .c (.val (.int .i64 x.1))), (8, .c (.val (.int .i64 least_38))), (9, .c (.val (.int .i64 x.2)))]) (fun x => []) (fun k x => palinoderef1_Size.l0 K n_36 at_2 s_1 k x.1 x.2 = some q_134) K (v_37, (1 : Int)) H_135 (fun _ h => no_none h) ?_
                intro k_45 x_45 H_138
                obtain ⟨v_43, i_44⟩ := x_45
                have H_139 : palinoderef1_Size.l0 K n_36 at_2 s_1 (k_45 + 1) v_43 i_44 = some q_134 := H_138
                rw [palinoderef1_Size.l0] at H_139
                refine V_run hN hn 3 0 [0, 1, 6, 7, 8, 9, 61] [] ⟨[(0, .c (.val (.string s_1))), (1, .c (.val (.int .i64 at_2))), (6, .c (.val (.int .i64 n_36))), (7, .c (.val (.int .i64 v_43))), (8, .c (.val (.int .i64 least_38))), (9, .c (.val (.int .i64 i_44))), (61, .c (.val (.bool (decide (i_44 < n_36)))))], [], 0⟩ [] (by kernel_rfl) rfl rfl ap0 ?_
                refine VL_cond ((decide (i_44 < n_36))) (by kernel_rfl) ?_ ?_
                · intro b_47; have H_140 := of_t H_139 b_47
                  refine V_run hN hn 2 0 [0, 1, 6, 7, 8, 9, 61] [] ⟨[(0, .c (.val (.string s_1))), (1, .c (.val (.int .i64 at_2))), (6, .c (.val (.int .i64 n_36))), (7, .c (.val (.int .i64 v_43))), (8, .c (.val (.int .i64 least_38))), (9, .c (.val (.int .i64 i_44))), (61, .c (.val (.bool (decide (i_44 < n_36)))))], [], 0⟩ [] (by kernel_rfl) rfl rfl ap0 ?_
                  refine VL_block ?_
                  obtain ⟨c_49, H_142⟩ := of_if H_140
                  refine V_run hN hn 5 0 [0, 1, 6, 7, 8, 9, 10, 72] [] ⟨[(0, .c (.val (.string s_1))), (1, .c (.val (.int .i64 at_2))), (6, .c (.val (.int .i64 n_36))), (7, .c (.val (.int .i64 v_43))), (8, .c (.val (.int .i64 least_38))), (9, .c (.val (.int .i64 i_44))), (10, .c (.val (.int .i64 (IntKind.wrap .i64 (bt s_1 (IntKind.wrap .i64 (at_2 + i_44))))))), (72, .c (.val (.bool ((Int.fdiv (IntKind.wrap .i64 (bt s_1 (IntKind.wrap .i64 (at_2 + i_44)))) (64 : Int)) != (2 : Int)))))], [], 0⟩ [0 ≤ (IntKind.wrap .i64 (at_2 + i_44)), (IntKind.wrap .i64 (at_2 + i_44)) < (((ByteArray.size s_1) : Nat) : Int), (0 : Int) ≤ (6 : Int)] (by kernel_rfl) rfl rfl (ap2 c_49.1 (ap2 c_49.2 (ap1 (by decide)))) ?_
                  refine VL_cond (((Int.fdiv (IntKind.wrap .i64 (bt s_1 (IntKind.wrap .i64 (at_2 + i_44)))) (64 : Int)) != (2 : Int))) (by kernel_rfl) ?_ ?_
                  · intro b_50; have H_143 := of_t H_142 b_50
                    refine V_run hN hn 2 0 [4] [] ⟨[(4, .c (.val (.int .i64 (0 : Int))))], [], 0⟩ [] (by kernel_rfl) rfl rfl ap0 ?_
                    have H_145 := Option.some.inj (show some (Sum.inl (0 : Int)) = some q_134 from H_143); subst H_145
                    have H_146 := Option.some.inj (show some (0 : Int) = some r from H_136); subst H_146
                    refine VL_ret ?_
                    refine QB_ret ?_
                    refine QL_ret ?_
                    refine QB_ret ?_
                    refine QP_ret ?_
                    exact P_to [(4, .c (.val (.int .i64 (0 : Int))))] [] [] hn (by kernel_rfl) (by kernel_rfl) rfl rfl rfl (QF_retS (by kernel_rfl) (by kernel_rfl) rfl)
                  · intro b_50; have H_144 := of_f H_142 b_50
                    refine V_run hN hn 2 0 [0, 1, 6, 7, 8, 9] [] ⟨[(0, .c (.val (.string s_1))), (1, .c (.val (.int .i64 at_2))), (6, .c (.val (.int .i64 n_36))), (7, .c (.val (.int .i64 (IntKind.wrap .i64 (BitVec.toNat (BitVec.ofInt (IntKind.bits .i64) (IntKind.wrap .i64 (v_43 * (64 : Int))) ||| BitVec.ofInt (IntKind.bits .i64) (IntKind.wrap .i64 (BitVec.toNat (BitVec.ofInt (IntKind.bits .i64) (IntKind.wrap .i64 (bt s_1 (IntKind.wrap .i64 (at_2 + i_44)))) &&& BitVec.ofInt (IntKind.bits .i64) (63 : Int)))))))))), (8, .c (.val (.int .i64 least_38))), (9, .c (.val (.int .i64 i_44)))], [], 0⟩ [(0 : Int) ≤ (6 : Int)] (by kernel_rfl) rfl rfl (ap1 (by decide)) ?_
                    refine VL_nil (QB_end ?_)
                    refine V_run hN hn 1 0 [0, 1, 6, 7, 8, 9] [] ⟨[(0, .c (.val (.string s_1))), (1, .c (.val (.int .i64 at_2))), (6, .c (.val (.int .i64 n_36))), (7, .c (.val (.int .i64 (IntKind.wrap .i64 (BitVec.toNat (BitVec.ofInt (IntKind.bits .i64) (IntKind.wrap .i64 (v_43 * (64 : Int))) ||| BitVec.ofInt (IntKind.bits .i64) (IntKind.wrap .i64 (BitVec.toNat (BitVec.ofInt (IntKind.bits .i64) (IntKind.wrap .i64 (bt s_1 (IntKind.wrap .i64 (at_2 + i_44)))) &&& BitVec.ofInt (IntKind.bits .i64) (63 : Int)))))))))), (8, .c (.val (.int .i64 least_38))), (9, .c (.val (.int .i64 (IntKind.wrap .i64 (i_44 + (1 : Int))))))], [], 0⟩ [] (by kernel_rfl) rfl rfl ap0 ?_
                    refine VL_nil ?_
                    exact V_roundEnd ((IntKind.wrap .i64 (BitVec.toNat (BitVec.ofInt (IntKind.bits .i64) (IntKind.wrap .i64 (v_43 * (64 : Int))) ||| BitVec.ofInt (IntKind.bits .i64) (IntKind.wrap .i64 (BitVec.toNat (BitVec.ofInt (IntKind.bits .i64) (IntKind.wrap .i64 (bt s_1 (IntKind.wrap .i64 (at_2 + i_44)))) &&& BitVec.ofInt (IntKind.bits .i64) (63 : Int))))))), (IntKind.wrap .i64 (i_44 + (1 : Int)))) H_144 [] hn (by kernel_rfl) (by kernel_rfl) rfl rfl rfl
                · intro b_47; have H_141 := of_f H_139 b_47
                  refine VL_exit ?_
                  refine QL_exit ?_
                  refine QB_here ?_
                  have H_147 := Option.some.inj (show some (Sum.inr v_43) = some q_134 from H_141); subst H_147
                  refine VL_nil ?_
                  exact QP_end v_43 rfl [] hn (by kernel_rfl) (by kernel_rfl) rfl rfl rfl
              · intro y_137 hy; subst hy
                skip
                skip
                refine V_run hN hn 2 0 [6, 7, 8] [] ⟨[(6, .c (.val (.int .i64 n_36))), (7, .c (.val (.int .i64 y_137))), (8, .c (.val (.int .i64 least_38)))], [], 0⟩ [] (by kernel_rfl) rfl rfl ap0 ?_
                obtain ⟨q_148, H_149, H_150⟩ := of_bind H_136
                refine V_cut (Y := Bool) (R := Bool) q_148 (fun y => y) (fun y => [(6, .c (.val (.int .i64 n_36))), (92, .c (.val (.bool y)))]) (fun y => []) ?_ ?_
                · skip
                  rcases Bool.eq_false_or_eq_true ((decide (y_137 < least_38))) with b_56 | b_56
                  · have H_152 := of_t H_149 b_56
                    refine V_reg hN hn [] [(81, true)] calls_nil 0 [6, 92] [] ⟨[(6, .c (.val (.int .i64 n_36))), (92, .c (.val (.bool true)))], [], 0⟩ [(decide (y_137 < least_38)) = true] (by kernel_rfl) rfl rfl (ap1 b_56) (by kernel_rfl) (by kernel_rfl) ?_
                    have H_154 := Option.some.inj (show some true = some q_148 from H_152); subst H_154
                    refine VL_nil ?_
                    exact QP_end true rfl [] hn (by kernel_rfl) (by kernel_rfl) rfl rfl rfl
                  · have H_153 := of_f H_149 b_56
                    rcases Bool.eq_false_or_eq_true ((decide (y_137 > (1114111 : Int)))) with b_58 | b_58
                    · have H_155 := of_t H_153 b_58
                      refine V_reg hN hn [] [(81, false), (85, true)] calls_nil 0 [6, 92] [] ⟨[(6, .c (.val (.int .i64 n_36))), (92, .c (.val (.bool true)))], [], 0⟩ [(decide (y_137 < least_38)) = false, (decide (y_137 > (1114111 : Int))) = true] (by kernel_rfl) rfl rfl (ap2 b_56 (ap1 b_58)) (by kernel_rfl) (by kernel_rfl) ?_
                      have H_157 := Option.some.inj (show some true = some q_148 from H_155); subst H_157
                      refine VL_nil ?_
                      exact QP_end true rfl [] hn (by kernel_rfl) (by kernel_rfl) rfl rfl rfl
                    · have H_156 := of_f H_153 b_58
                      rcases Bool.eq_false_or_eq_true ((decide (y_137 ≥ (55296 : Int)))) with b_60 | b_60
                      · have H_158 := of_t H_156 b_60
                        refine V_reg hN hn [] [(81, false), (85, false), (88, true)] calls_nil 0 [6, 92] [] ⟨[(6, .c (.val (.int .i64 n_36))), (92, .c (.val (.bool (decide (y_137 < (57344 : Int))))))], [], 0⟩ [(decide (y_137 < least_38)) = false, (decide (y_137 > (1114111 : Int))) = false, (decide (y_137 ≥ (55296 : Int))) = true] (by kernel_rfl) rfl rfl (ap2 b_56 (ap2 b_58 (ap1 b_60))) (by kernel_rfl) (by kernel_rfl) ?_
                        have H_160 := Option.some.inj (show some (decide (y_137 < (57344 : Int))) = some q_148 from H_158); subst H_160
                        refine VL_nil ?_
                        exact QP_end (decide (y_137 < (57344 : Int))) rfl [] hn (by kernel_rfl) (by kernel_rfl) rfl rfl rfl
                      · have H_159 := of_f H_156 b_60
                        refine V_reg hN hn [] [(81, false), (85, false), (88, false)] calls_nil 0 [6, 92] [] ⟨[(6, .c (.val (.int .i64 n_36))), (92, .c (.val (.bool false)))], [], 0⟩ [(decide (y_137 < least_38)) = false, (decide (y_137 > (1114111 : Int))) = false, (decide (y_137 ≥ (55296 : Int))) = false] (by kernel_rfl) rfl rfl (ap2 b_56 (ap2 b_58 (ap1 b_60))) (by kernel_rfl) (by kernel_rfl) ?_
                        have H_161 := Option.some.inj (show some false = some q_148 from H_159); subst H_161
                        refine VL_nil ?_
                        exact QP_end false rfl [] hn (by kernel_rfl) (by kernel_rfl) rfl rfl rfl
                · intro y_151 hy; subst hy
                  skip
                  skip
                  refine VL_cond (y_151) (by kernel_rfl) ?_ ?_
                  · intro b_64; have H_162 := of_t H_150 b_64
                    refine V_run hN hn 2 0 [4] [] ⟨[(4, .c (.val (.int .i64 (0 : Int))))], [], 0⟩ [] (by kernel_rfl) rfl rfl ap0 ?_
                    have H_164 := Option.some.inj (show some (0 : Int) = some r from H_162); subst H_164
                    refine VL_ret ?_
                    exact P_to [(4, .c (.val (.int .i64 (0 : Int))))] [] [] hn (by kernel_rfl) (by kernel_rfl) rfl rfl rfl (QF_retS (by kernel_rfl) (by kernel_rfl) rfl)
                  · intro b_64; have H_163 := of_f H_150 b_64
                    refine V_run hN hn 3 0 [4] [] ⟨[(4, .c (.val (.int .i64 n_36)))], [], 0⟩ [] (by kernel_rfl) rfl rfl ap0 ?_
                    have H_165 := Option.some.inj (show some n_36 = some r from H_163); subst H_165
                    refine VL_ret ?_
                    exact P_to [(4, .c (.val (.int .i64 n_36)))] [] [] hn (by kernel_rfl) (by kernel_rfl) rfl rfl rfl (QF_retS (by kernel_rfl) (by kernel_rfl) rfl)

theorem palinoderef1_Valid_spec (K : Nat) (s_1 : ByteArray) (r : Bool) (H : palinoderef1_Valid K s_1 = some r) : Spec Try.prog 46 0 [.c (.val (.string s_1))] [] (.c (.val (.bool r))) [] := by
  refine Spec_mk (fn := Try.f46) (c := (Try.f46.body).get!) Try.func46 (by kernel_rfl) rfl ?_
  intro C hN hn
  replace hN : C.N = 17 := hN
  unfold palinoderef1_Valid at H
  refine V_run hN hn 5 0 [0, 3] [] ⟨[(0, .c (.val (.string s_1))), (3, .c (.val (.int .i64 (0 : Int))))], [], 0⟩ [] (by kernel_rfl) rfl rfl ap0 ?_
  refine VL_block ?_
  refine V_to [(0, .c (.val (.string s_1))), (3, .c (.val (.int .i64 (0 : Int))))] [] [] hn (by kernel_rfl) (by kernel_rfl) rfl rfl rfl ?_
  refine VL_loop (X := Int) (fun x => [(0, .c (.val (.string s_1))), (3, .c (.val (.int .i64 x)))]) (fun x => []) (fun k x => palinoderef1_Valid.l0 K s_1 k x = some r) K (0 : Int) H (fun _ h => no_none h) ?_
  intro k_4 at_3 H_18
  have H_19 : palinoderef1_Valid.l0 K s_1 (k_4 + 1) at_3 = some r := H_18
  rw [palinoderef1_Valid.l0] at H_19
  refine V_run hN hn 3 0 [0, 3, 8] [] ⟨[(0, .c (.val (.string s_1))), (3, .c (.val (.int .i64 at_3))), (8, .c (.val (.bool (decide (at_3 < (((ByteArray.size s_1) : Nat) : Int))))))], [], 0⟩ [] (by kernel_rfl) rfl rfl ap0 ?_
  refine VL_cond ((decide (at_3 < (((ByteArray.size s_1) : Nat) : Int)))) (by kernel_rfl) ?_ ?_
  · intro b_6; have H_20 := of_t H_19 b_6
    refine V_run hN hn 1 0 [0, 3, 8] [] ⟨[(0, .c (.val (.string s_1))), (3, .c (.val (.int .i64 at_3))), (8, .c (.val (.bool (decide (at_3 < (((ByteArray.size s_1) : Nat) : Int))))))], [], 0⟩ [] (by kernel_rfl) rfl rfl ap0 ?_
    refine VL_block ?_
    refine V_run hN hn 1 0 [0, 3, 8] [] ⟨[(0, .c (.val (.string s_1))), (3, .c (.val (.int .i64 at_3))), (8, .c (.val (.bool (decide (at_3 < (((ByteArray.size s_1) : Nat) : Int))))))], [], 0⟩ [] (by kernel_rfl) rfl rfl ap0 ?_
    obtain ⟨r_9, h_10, H_22⟩ := of_bind H_20
    refine V_reg hN hn [(2, ⟨59, 0, [.c (.val (.string s_1)), .c (.val (.int .i64 at_3))], [], .c (.val (.int .i64 r_9)), [], [], 0⟩)] [] (calls_cons (palinoderef1_Size_spec K s_1 at_3 r_9 h_10) (by kernel_rfl) calls_nil) 0 [0, 3, 4] [] ⟨[(0, .c (.val (.string s_1))), (3, .c (.val (.int .i64 at_3))), (4, .c (.val (.int .i64 r_9)))], [], 0⟩ [] (by kernel_rfl) rfl rfl ap0 (by kernel_rfl) (by kernel_rfl) ?_
    refine V_run hN hn 3 0 [0, 3, 4, 13] [] ⟨[(0, .c (.val (.string s_1))), (3, .c (.val (.int .i64 at_3))), (4, .c (.val (.int .i64 r_9))), (13, .c (.val (.bool (r_9 == (0 : Int)))))], [], 0⟩ [] (by kernel_rfl) rfl rfl ap0 ?_
    refine VL_cond ((r_9 == (0 : Int))) (by kernel_rfl) ?_ ?_
    · intro b_13; have H_23 := of_t H_22 b_13
      refine V_run hN hn 2 0 [2] [] ⟨[(2, .c (.val (.bool false)))], [], 0⟩ [] (by kernel_rfl) rfl rfl ap0 ?_
      have H_25 := Option.some.inj (show some false = some r from H_23); subst H_25
      refine VL_ret ?_
      refine QB_ret ?_
      refine QL_ret ?_
      refine QB_ret ?_
      exact P_to [(2, .c (.val (.bool false)))] [] [] hn (by kernel_rfl) (by kernel_rfl) rfl rfl rfl (QF_retS (by kernel_rfl) (by kernel_rfl) rfl)
    · intro b_13; have H_24 := of_f H_22 b_13
      refine V_run hN hn 2 0 [0, 3] [] ⟨[(0, .c (.val (.string s_1))), (3, .c (.val (.int .i64 (IntKind.wrap .i64 (at_3 + r_9)))))], [], 0⟩ [] (by kernel_rfl) rfl rfl ap0 ?_
      refine VL_nil (QB_end ?_)
      refine VL_nil ?_
      exact V_roundEnd (IntKind.wrap .i64 (at_3 + r_9)) H_24 [] hn (by kernel_rfl) (by kernel_rfl) rfl rfl rfl
  · intro b_6; have H_21 := of_f H_19 b_6
    refine VL_exit ?_
    refine QL_exit ?_
    refine QB_here ?_
    refine V_run hN hn 2 0 [2] [] ⟨[(2, .c (.val (.bool true)))], [], 0⟩ [] (by kernel_rfl) rfl rfl ap0 ?_
    have H_26 := Option.some.inj (show some true = some r from H_21); subst H_26
    refine VL_ret ?_
    exact P_to [(2, .c (.val (.bool true)))] [] [] hn (by kernel_rfl) (by kernel_rfl) rfl rfl rfl (QF_retS (by kernel_rfl) (by kernel_rfl) rfl)

theorem palinoderef11_Is_spec (K : Nat) (d_1 : Int) (d_2 : (List (Int × (Int × ByteArray)))) (r : Bool) (H : palinoderef11_Is K d_1 d_2 = some r) : Spec Try.prog 13 0 [.agg [.val (.int .i64 d_1), .imm (.slice (.pair (.int .i64) (.pair (.int .i64) .str))) d_2]] [] (.c (.val (.bool r))) [] := by
  refine Spec_mk (fn := Try.f13) (c := (Try.f13.body).get!) Try.func13 (by kernel_rfl) rfl ?_
  intro C hN hn
  replace hN : C.N = 122 := hN
  unfold palinoderef11_Is at H
  refine V_run hN hn 4 0 [1] [0] ⟨[(1, .c (.h 0))], [(0, .box [.val (.int .i64 d_1), .imm (.slice (.pair (.int .i64) (.pair (.int .i64) .str))) d_2])], 1⟩ [] (by kernel_rfl) rfl rfl ap0 ?_
  obtain ⟨q_80, H_81, H_82⟩ := of_bind H
  refine V_cut (Y := Bool) (R := Bool) q_80 (fun y => y) (fun y => [(1, .c (.h 0)), (21, .c (.val (.bool y)))]) (fun y => [(0, .box [.val (.int .i64 d_1), .imm (.slice (.pair (.int .i64) (.pair (.int .i64) .str))) d_2])]) ?_ ?_
  · skip
    rcases Bool.eq_false_or_eq_true ((decide (d_1 < (0 : Int)))) with b_4 | b_4
    · have H_84 := of_t H_81 b_4
      refine V_reg hN hn [] [(11, true)] calls_nil 1 [1, 21] [0] ⟨[(1, .c (.h 0)), (21, .c (.val (.bool true)))], [(0, .box [.val (.int .i64 d_1), .imm (.slice (.pair (.int .i64) (.pair (.int .i64) .str))) d_2])], 1⟩ [(decide (d_1 < (0 : Int))) = true] (by kernel_rfl) rfl rfl (ap1 b_4) (by kernel_rfl) (by kernel_rfl) ?_
      have H_86 := Option.some.inj (show some true = some q_80 from H_84); subst H_86
      refine VL_nil ?_
      exact QP_end true rfl [(0, 0)] hn (by kernel_rfl) (by kernel_rfl) rfl rfl rfl
    · have H_85 := of_f H_81 b_4
      rcases Bool.eq_false_or_eq_true ((decide (d_1 > (20000 : Int)))) with b_6 | b_6
      · have H_87 := of_t H_85 b_6
        refine V_reg hN hn [] [(11, false), (16, true)] calls_nil 1 [1, 21] [0] ⟨[(1, .c (.h 0)), (21, .c (.val (.bool true)))], [(0, .box [.val (.int .i64 d_1), .imm (.slice (.pair (.int .i64) (.pair (.int .i64) .str))) d_2])], 1⟩ [(decide (d_1 < (0 : Int))) = false, (decide (d_1 > (20000 : Int))) = true] (by kernel_rfl) rfl rfl (ap2 b_4 (ap1 b_6)) (by kernel_rfl) (by kernel_rfl) ?_
        have H_89 := Option.some.inj (show some true = some q_80 from H_87); subst H_89
        refine VL_nil ?_
        exact QP_end true rfl [(0, 0)] hn (by kernel_rfl) (by kernel_rfl) rfl rfl rfl
      · have H_88 := of_f H_85 b_6
        refine V_reg hN hn [] [(11, false), (16, false)] calls_nil 1 [1, 21] [0] ⟨[(1, .c (.h 0)), (21, .c (.val (.bool (decide ((((List.length d_2) : Nat) : Int) > (60 : Int))))))], [(0, .box [.val (.int .i64 d_1), .imm (.slice (.pair (.int .i64) (.pair (.int .i64) .str))) d_2])], 1⟩ [(decide (d_1 < (0 : Int))) = false, (decide (d_1 > (20000 : Int))) = false] (by kernel_rfl) rfl rfl (ap2 b_4 (ap1 b_6)) (by kernel_rfl) (by kernel_rfl) ?_
        have H_90 := Option.some.inj (show some (decide ((((List.length d_2) : Nat) : Int) > (60 : Int))) = some q_80 from H_88); subst H_90
        refine VL_nil ?_
        exact QP_end (decide ((((List.length d_2) : Nat) : Int) > (60 : Int))) rfl [(0, 0)] hn (by kernel_rfl) (by kernel_rfl) rfl rfl rfl
  · intro y_83 hy; subst hy
    skip
    skip
    refine VL_cond (y_83) (by kernel_rfl) ?_ ?_
    · intro b_10; have H_91 := of_t H_82 b_10
      refine V_run hN hn 2 1 [2] [] ⟨[(2, .c (.val (.bool false)))], [], 1⟩ [] (by kernel_rfl) rfl rfl ap0 ?_
      have H_93 := Option.some.inj (show some false = some r from H_91); subst H_93
      refine VL_ret ?_
      exact P_to [(2, .c (.val (.bool false)))] [] [] hn (by kernel_rfl) (by kernel_rfl) rfl rfl rfl (QF_retS (by kernel_rfl) (by kernel_rfl) rfl)
    · intro b_10; have H_92 := of_f H_82 b_10
      refine V_run hN hn 6 1 [1, 3, 4, 5, 6] [0] ⟨[(1, .c (.h 0)), (3, .c (.val (.int .i64 (0 : Int)))), (4, .c (.val (.bool true))), (5, .c (.val (.int .i64 (0 : Int)))), (6, .c (.val (.int .i64 (0 : Int))))], [(0, .box [.val (.int .i64 d_1), .imm (.slice (.pair (.int .i64) (.pair (.int .i64) .str))) d_2])], 1⟩ [] (by kernel_rfl) rfl rfl ap0 ?_
      refine VL_block ?_
      refine V_to [(1, .c (.h 0)), (3, .c (.val (.int .i64 (0 : Int)))), (4, .c (.val (.bool true))), (5, .c (.val (.int .i64 (0 : Int)))), (6, .c (.val (.int .i64 (0 : Int))))] [(0, .box [.val (.int .i64 d_1), .imm (.slice (.pair (.int .i64) (.pair (.int .i64) .str))) d_2])] [(0, 0)] hn (by kernel_rfl) (by kernel_rfl) rfl rfl rfl ?_
      refine VL_loop (X := (Int × Bool × Int × Int)) (fun x => [(1, .c (.h 0)), (3, .c (.val (.int .i64 x.1))), (4, .c (.val (.bool x.2.1))), (5, .c (.val (.int .i64 x.2.2.1))), (6, .c (.val (.int .i64 x.2.2.2)))]) (fun x => [(0, .box [.val (.int .i64 d_1), .imm (.slice (.pair (.int .i64) (.pair (.int .i64) .str))) d_2])]) (fun k x => palinoderef11_Is.l0 K d_2 d_1 k x.1 x.2.1 x.2.2.1 x.2.2.2 = some r) K ((0 : Int), true, (0 : Int), (0 : Int)) H_92 (fun _ h => no_none h) ?_
      intro k_17 x_17 H_94
      obtain ⟨last_13, text_14, size_15, i_16⟩ := x_17
      have H_95 : palinoderef11_Is.l0 K d_2 d_1 (k_17 + 1) last_13 text_14 size_15 i_16 = some r := H_94
      rw [palinoderef11_Is.l0] at H_95
      refine V_run hN hn 3 1 [1, 3, 4, 5, 6, 26] [0] ⟨[(1, .c (.h 0)), (3, .c (.val (.int .i64 last_13))), (4, .c (.val (.bool text_14))), (5, .c (.val (.int .i64 size_15))), (6, .c (.val (.int .i64 i_16))), (26, .c (.val (.bool (decide (i_16 < (((List.length d_2) : Nat) : Int))))))], [(0, .box [.val (.int .i64 d_1), .imm (.slice (.pair (.int .i64) (.pair (.int .i64) .str))) d_2])], 1⟩ [] (by kernel_rfl) rfl rfl ap0 ?_
      refine VL_cond ((decide (i_16 < (((List.length d_2) : Nat) : Int)))) (by kernel_rfl) ?_ ?_
      · intro b_19; have H_96 := of_t H_95 b_19
        refine V_run hN hn 2 1 [1, 3, 4, 5, 6, 26] [0] ⟨[(1, .c (.h 0)), (3, .c (.val (.int .i64 last_13))), (4, .c (.val (.bool text_14))), (5, .c (.val (.int .i64 size_15))), (6, .c (.val (.int .i64 i_16))), (26, .c (.val (.bool (decide (i_16 < (((List.length d_2) : Nat) : Int))))))], [(0, .box [.val (.int .i64 d_1), .imm (.slice (.pair (.int .i64) (.pair (.int .i64) .str))) d_2])], 1⟩ [] (by kernel_rfl) rfl rfl ap0 ?_
        refine VL_block ?_
        obtain ⟨c_21, H_98⟩ := of_if H_96
        refine V_run hN hn 5 1 [1, 3, 4, 5, 6, 7, 36] [0, 1] ⟨[(1, .c (.h 0)), (3, .c (.val (.int .i64 last_13))), (4, .c (.val (.bool text_14))), (5, .c (.val (.int .i64 size_15))), (6, .c (.val (.int .i64 i_16))), (7, .c (.h 1)), (36, .c (.val (.bool (!(ByteArray.toList (List.getD d_2 (Int.toNat i_16) ((0 : Int), ((0 : Int), ByteArray.empty))).2.2 == ByteArray.toList (ByteArray.mk #[]))))))], [(0, .box [.val (.int .i64 d_1), .imm (.slice (.pair (.int .i64) (.pair (.int .i64) .str))) d_2]), (1, .box [.val (.int .i64 (List.getD d_2 (Int.toNat i_16) ((0 : Int), ((0 : Int), ByteArray.empty))).1), .val (.int .i64 (List.getD d_2 (Int.toNat i_16) ((0 : Int), ((0 : Int), ByteArray.empty))).2.1), .val (.string (List.getD d_2 (Int.toNat i_16) ((0 : Int), ((0 : Int), ByteArray.empty))).2.2)])], 2⟩ [0 ≤ i_16, i_16 < (((List.length d_2) : Nat) : Int)] (by kernel_rfl) rfl rfl (ap2 c_21.1 (ap1 c_21.2)) ?_
        refine VL_cond ((!(ByteArray.toList (List.getD d_2 (Int.toNat i_16) ((0 : Int), ((0 : Int), ByteArray.empty))).2.2 == ByteArray.toList (ByteArray.mk #[])))) (by kernel_rfl) ?_ ?_
        · intro b_22; have H_99 := of_t H_98 b_22
          refine V_run hN hn 2 2 [1, 3, 4, 5, 6, 7, 36] [0, 1] ⟨[(1, .c (.h 0)), (3, .c (.val (.int .i64 last_13))), (4, .c (.val (.bool text_14))), (5, .c (.val (.int .i64 size_15))), (6, .c (.val (.int .i64 i_16))), (7, .c (.h 1)), (36, .c (.val (.bool (!(ByteArray.toList (List.getD d_2 (Int.toNat i_16) ((0 : Int), ((0 : Int), ByteArray.empty))).2.2 == ByteArray.toList (ByteArray.mk #[]))))))], [(0, .box [.val (.int .i64 d_1), .imm (.slice (.pair (.int .i64) (.pair (.int .i64) .str))) d_2]), (1, .box [.val (.int .i64 (List.getD d_2 (Int.toNat i_16) ((0 : Int), ((0 : Int), ByteArray.empty))).1), .val (.int .i64 (List.getD d_2 (Int.toNat i_16) ((0 : Int), ((0 : Int), ByteArray.empty))).2.1), .val (.string (List.getD d_2 (Int.toNat i_16) ((0 : Int), ((0 : Int), ByteArray.empty))).2.2)])], 2⟩ [] (by kernel_rfl) rfl rfl ap0 ?_
          obtain ⟨q_101, H_102, H_103⟩ := of_bind H_99
          refine V_cut (Y := Bool) (R := Bool) q_101 (fun y => y) (fun y => [(1, .c (.h 0)), (3, .c (.val (.int .i64 last_13))), (5, .c (.val (.int .i64 size_15))), (6, .c (.val (.int .i64 i_16))), (7, .c (.h 1)), (65, .c (.val (.bool y)))]) (fun y => [(0, .box [.val (.int .i64 d_1), .imm (.slice (.pair (.int .i64) (.pair (.int .i64) .str))) d_2]), (1, .box [.val (.int .i64 (List.getD d_2 (Int.toNat i_16) ((0 : Int), ((0 : Int), ByteArray.empty))).1), .val (.int .i64 (List.getD d_2 (Int.toNat i_16) ((0 : Int), ((0 : Int), ByteArray.empty))).2.1), .val (.string (List.getD d_2 (Int.toNat i_16) ((0 : Int), ((0 : Int), ByteArray.empty))).2.2)])]) ?_ ?_
          · skip
            rcases Bool.eq_false_or_eq_true (((List.getD d_2 (Int.toNat i_16) ((0 : Int), ((0 : Int), ByteArray.empty))).1 != (0 : Int))) with b_24 | b_24
            · have H_105 := of_t H_102 b_24
              refine V_reg hN hn [] [(40, true)] calls_nil 2 [1, 3, 5, 6, 7, 65] [0, 1] ⟨[(1, .c (.h 0)), (3, .c (.val (.int .i64 last_13))), (5, .c (.val (.int .i64 size_15))), (6, .c (.val (.int .i64 i_16))), (7, .c (.h 1)), (65, .c (.val (.bool true)))], [(0, .box [.val (.int .i64 d_1), .imm (.slice (.pair (.int .i64) (.pair (.int .i64) .str))) d_2]), (1, .box [.val (.int .i64 (List.getD d_2 (Int.toNat i_16) ((0 : Int), ((0 : Int), ByteArray.empty))).1), .val (.int .i64 (List.getD d_2 (Int.toNat i_16) ((0 : Int), ((0 : Int), ByteArray.empty))).2.1), .val (.string (List.getD d_2 (Int.toNat i_16) ((0 : Int), ((0 : Int), ByteArray.empty))).2.2)])], 2⟩ [((List.getD d_2 (Int.toNat i_16) ((0 : Int), ((0 : Int), ByteArray.empty))).1 != (0 : Int)) = true] (by kernel_rfl) rfl rfl (ap1 b_24) (by kernel_rfl) (by kernel_rfl) ?_
              have H_107 := Option.some.inj (show some true = some q_101 from H_105); subst H_107
              refine VL_nil ?_
              exact QP_end true rfl [(0, 0), (1, 1)] hn (by kernel_rfl) (by kernel_rfl) rfl rfl rfl
            · have H_106 := of_f H_102 b_24
              rcases Bool.eq_false_or_eq_true (((List.getD d_2 (Int.toNat i_16) ((0 : Int), ((0 : Int), ByteArray.empty))).2.1 != (0 : Int))) with b_26 | b_26
              · have H_108 := of_t H_106 b_26
                refine V_reg hN hn [] [(40, false), (45, true)] calls_nil 2 [1, 3, 5, 6, 7, 65] [0, 1] ⟨[(1, .c (.h 0)), (3, .c (.val (.int .i64 last_13))), (5, .c (.val (.int .i64 size_15))), (6, .c (.val (.int .i64 i_16))), (7, .c (.h 1)), (65, .c (.val (.bool true)))], [(0, .box [.val (.int .i64 d_1), .imm (.slice (.pair (.int .i64) (.pair (.int .i64) .str))) d_2]), (1, .box [.val (.int .i64 (List.getD d_2 (Int.toNat i_16) ((0 : Int), ((0 : Int), ByteArray.empty))).1), .val (.int .i64 (List.getD d_2 (Int.toNat i_16) ((0 : Int), ((0 : Int), ByteArray.empty))).2.1), .val (.string (List.getD d_2 (Int.toNat i_16) ((0 : Int), ((0 : Int), ByteArray.empty))).2.2)])], 2⟩ [((List.getD d_2 (Int.toNat i_16) ((0 : Int), ((0 : Int), ByteArray.empty))).1 != (0 : Int)) = false, ((List.getD d_2 (Int.toNat i_16) ((0 : Int), ((0 : Int), ByteArray.empty))).2.1 != (0 : Int)) = true] (by kernel_rfl) rfl rfl (ap2 b_24 (ap1 b_26)) (by kernel_rfl) (by kernel_rfl) ?_
                have H_110 := Option.some.inj (show some true = some q_101 from H_108); subst H_110
                refine VL_nil ?_
                exact QP_end true rfl [(0, 0), (1, 1)] hn (by kernel_rfl) (by kernel_rfl) rfl rfl rfl
              · have H_109 := of_f H_106 b_26
                rcases Bool.eq_false_or_eq_true ((decide (i_16 > (0 : Int)))) with b_28 | b_28
                · have H_111 := of_t H_109 b_28
                  rcases Bool.eq_false_or_eq_true (text_14) with b_29 | b_29
                  · have H_113 := of_t H_111 b_29
                    refine V_reg hN hn [] [(40, false), (45, false), (48, true), (52, true)] calls_nil 2 [1, 3, 5, 6, 7, 65] [0, 1] ⟨[(1, .c (.h 0)), (3, .c (.val (.int .i64 last_13))), (5, .c (.val (.int .i64 size_15))), (6, .c (.val (.int .i64 i_16))), (7, .c (.h 1)), (65, .c (.val (.bool true)))], [(0, .box [.val (.int .i64 d_1), .imm (.slice (.pair (.int .i64) (.pair (.int .i64) .str))) d_2]), (1, .box [.val (.int .i64 (List.getD d_2 (Int.toNat i_16) ((0 : Int), ((0 : Int), ByteArray.empty))).1), .val (.int .i64 (List.getD d_2 (Int.toNat i_16) ((0 : Int), ((0 : Int), ByteArray.empty))).2.1), .val (.string (List.getD d_2 (Int.toNat i_16) ((0 : Int), ((0 : Int), ByteArray.empty))).2.2)])], 2⟩ [((List.getD d_2 (Int.toNat i_16) ((0 : Int), ((0 : Int), ByteArray.empty))).1 != (0 : Int)) = false, ((List.getD d_2 (Int.toNat i_16) ((0 : Int), ((0 : Int), ByteArray.empty))).2.1 != (0 : Int)) = false, (decide (i_16 > (0 : Int))) = true, text_14 = true] (by kernel_rfl) rfl rfl (ap2 b_24 (ap2 b_26 (ap2 b_28 (ap1 b_29)))) (by kernel_rfl) (by kernel_rfl) ?_
                    have H_115 := Option.some.inj (show some true = some q_101 from H_113); subst H_115
                    refine VL_nil ?_
                    exact QP_end true rfl [(0, 0), (1, 1)] hn (by kernel_rfl) (by kernel_rfl) rfl rfl rfl
                  · have H_114 := of_f H_111 b_29
                    rcases Bool.eq_false_or_eq_true ((decide ((((ByteArray.size (List.getD d_2 (Int.toNat i_16) ((0 : Int), ((0 : Int), ByteArray.empty))).2.2) : Nat) : Int) > (IntKind.wrap .i64 ((20000 : Int) - size_15))))) with b_31 | b_31
                    · have H_116 := of_t H_114 b_31
                      refine V_reg hN hn [] [(40, false), (45, false), (48, true), (52, false), (60, true)] calls_nil 2 [1, 3, 5, 6, 7, 65] [0, 1] ⟨[(1, .c (.h 0)), (3, .c (.val (.int .i64 last_13))), (5, .c (.val (.int .i64 size_15))), (6, .c (.val (.int .i64 i_16))), (7, .c (.h 1)), (65, .c (.val (.bool true)))], [(0, .box [.val (.int .i64 d_1), .imm (.slice (.pair (.int .i64) (.pair (.int .i64) .str))) d_2]), (1, .box [.val (.int .i64 (List.getD d_2 (Int.toNat i_16) ((0 : Int), ((0 : Int), ByteArray.empty))).1), .val (.int .i64 (List.getD d_2 (Int.toNat i_16) ((0 : Int), ((0 : Int), ByteArray.empty))).2.1), .val (.string (List.getD d_2 (Int.toNat i_16) ((0 : Int), ((0 : Int), ByteArray.empty))).2.2)])], 2⟩ [((List.getD d_2 (Int.toNat i_16) ((0 : Int), ((0 : Int), ByteArray.empty))).1 != (0 : Int)) = false, ((List.getD d_2 (Int.toNat i_16) ((0 : Int), ((0 : Int), ByteArray.empty))).2.1 != (0 : Int)) = false, (decide (i_16 > (0 : Int))) = true, text_14 = false, (decide ((((ByteArray.size (List.getD d_2 (Int.toNat i_16) ((0 : Int), ((0 : Int), ByteArray.empty))).2.2) : Nat) : Int) > (IntKind.wrap .i64 ((20000 : Int) - size_15)))) = true] (by kernel_rfl) rfl rfl (ap2 b_24 (ap2 b_26 (ap2 b_28 (ap2 b_29 (ap1 b_31))))) (by kernel_rfl) (by kernel_rfl) ?_
                      have H_118 := Option.some.inj (show some true = some q_101 from H_116); subst H_118
                      refine VL_nil ?_
                      exact QP_end true rfl [(0, 0), (1, 1)] hn (by kernel_rfl) (by kernel_rfl) rfl rfl rfl
                    · have H_117 := of_f H_114 b_31
                      obtain ⟨r_33, h_34, H_119⟩ := of_bind H_117
                      refine V_reg hN hn [(26, ⟨46, 0, [.c (.val (.string (List.getD d_2 (Int.toNat i_16) ((0 : Int), ((0 : Int), ByteArray.empty))).2.2))], [], .c (.val (.bool r_33)), [], [], 2⟩)] [(40, false), (45, false), (48, true), (52, false), (60, false)] (calls_cons (palinoderef1_Valid_spec K (List.getD d_2 (Int.toNat i_16) ((0 : Int), ((0 : Int), ByteArray.empty))).2.2 r_33 h_34) (by kernel_rfl) calls_nil) 2 [1, 3, 5, 6, 7, 65] [0, 1] ⟨[(1, .c (.h 0)), (3, .c (.val (.int .i64 last_13))), (5, .c (.val (.int .i64 size_15))), (6, .c (.val (.int .i64 i_16))), (7, .c (.h 1)), (65, .c (.val (.bool (!r_33))))], [(0, .box [.val (.int .i64 d_1), .imm (.slice (.pair (.int .i64) (.pair (.int .i64) .str))) d_2]), (1, .box [.val (.int .i64 (List.getD d_2 (Int.toNat i_16) ((0 : Int), ((0 : Int), ByteArray.empty))).1), .val (.int .i64 (List.getD d_2 (Int.toNat i_16) ((0 : Int), ((0 : Int), ByteArray.empty))).2.1), .val (.string (List.getD d_2 (Int.toNat i_16) ((0 : Int), ((0 : Int), ByteArray.empty))).2.2)])], 2⟩ [((List.getD d_2 (Int.toNat i_16) ((0 : Int), ((0 : Int), ByteArray.empty))).1 != (0 : Int)) = false, ((List.getD d_2 (Int.toNat i_16) ((0 : Int), ((0 : Int), ByteArray.empty))).2.1 != (0 : Int)) = false, (decide (i_16 > (0 : Int))) = true, text_14 = false, (decide ((((ByteArray.size (List.getD d_2 (Int.toNat i_16) ((0 : Int), ((0 : Int), ByteArray.empty))).2.2) : Nat) : Int) > (IntKind.wrap .i64 ((20000 : Int) - size_15)))) = false] (by kernel_rfl) rfl rfl (ap2 b_24 (ap2 b_26 (ap2 b_28 (ap2 b_29 (ap1 b_31))))) (by kernel_rfl) (by kernel_rfl) ?_
                      have H_120 := Option.some.inj (show some (!r_33) = some q_101 from H_119); subst H_120
                      refine VL_nil ?_
                      exact QP_end (!r_33) rfl [(0, 0), (1, 1)] hn (by kernel_rfl) (by kernel_rfl) rfl rfl rfl
                · have H_112 := of_f H_109 b_28
                  rcases Bool.eq_false_or_eq_true ((decide ((((ByteArray.size (List.getD d_2 (Int.toNat i_16) ((0 : Int), ((0 : Int), ByteArray.empty))).2.2) : Nat) : Int) > (IntKind.wrap .i64 ((20000 : Int) - size_15))))) with b_36 | b_36
                  · have H_121 := of_t H_112 b_36
                    refine V_reg hN hn [] [(40, false), (45, false), (48, false), (60, true)] calls_nil 2 [1, 3, 5, 6, 7, 65] [0, 1] ⟨[(1, .c (.h 0)), (3, .c (.val (.int .i64 last_13))), (5, .c (.val (.int .i64 size_15))), (6, .c (.val (.int .i64 i_16))), (7, .c (.h 1)), (65, .c (.val (.bool true)))], [(0, .box [.val (.int .i64 d_1), .imm (.slice (.pair (.int .i64) (.pair (.int .i64) .str))) d_2]), (1, .box [.val (.int .i64 (List.getD d_2 (Int.toNat i_16) ((0 : Int), ((0 : Int), ByteArray.empty))).1), .val (.int .i64 (List.getD d_2 (Int.toNat i_16) ((0 : Int), ((0 : Int), ByteArray.empty))).2.1), .val (.string (List.getD d_2 (Int.toNat i_16) ((0 : Int), ((0 : Int), ByteArray.empty))).2.2)])], 2⟩ [((List.getD d_2 (Int.toNat i_16) ((0 : Int), ((0 : Int), ByteArray.empty))).1 != (0 : Int)) = false, ((List.getD d_2 (Int.toNat i_16) ((0 : Int), ((0 : Int), ByteArray.empty))).2.1 != (0 : Int)) = false, (decide (i_16 > (0 : Int))) = false, (decide ((((ByteArray.size (List.getD d_2 (Int.toNat i_16) ((0 : Int), ((0 : Int), ByteArray.empty))).2.2) : Nat) : Int) > (IntKind.wrap .i64 ((20000 : Int) - size_15)))) = true] (by kernel_rfl) rfl rfl (ap2 b_24 (ap2 b_26 (ap2 b_28 (ap1 b_36)))) (by kernel_rfl) (by kernel_rfl) ?_
                    have H_123 := Option.some.inj (show some true = some q_101 from H_121); subst H_123
                    refine VL_nil ?_
                    exact QP_end true rfl [(0, 0), (1, 1)] hn (by kernel_rfl) (by kernel_rfl) rfl rfl rfl
                  · have H_122 := of_f H_112 b_36
                    obtain ⟨r_38, h_39, H_124⟩ := of_bind H_122
                    refine V_reg hN hn [(26, ⟨46, 0, [.c (.val (.string (List.getD d_2 (Int.toNat i_16) ((0 : Int), ((0 : Int), ByteArray.empty))).2.2))], [], .c (.val (.bool r_38)), [], [], 2⟩)] [(40, false), (45, false), (48, false), (60, false)] (calls_cons (palinoderef1_Valid_spec K (List.getD d_2 (Int.toNat i_16) ((0 : Int), ((0 : Int), ByteArray.empty))).2.2 r_38 h_39) (by kernel_rfl) calls_nil) 2 [1, 3, 5, 6, 7, 65] [0, 1] ⟨[(1, .c (.h 0)), (3, .c (.val (.int .i64 last_13))), (5, .c (.val (.int .i64 size_15))), (6, .c (.val (.int .i64 i_16))), (7, .c (.h 1)), (65, .c (.val (.bool (!r_38))))], [(0, .box [.val (.int .i64 d_1), .imm (.slice (.pair (.int .i64) (.pair (.int .i64) .str))) d_2]), (1, .box [.val (.int .i64 (List.getD d_2 (Int.toNat i_16) ((0 : Int), ((0 : Int), ByteArray.empty))).1), .val (.int .i64 (List.getD d_2 (Int.toNat i_16) ((0 : Int), ((0 : Int), ByteArray.empty))).2.1), .val (.string (List.getD d_2 (Int.toNat i_16) ((0 : Int), ((0 : Int), ByteArray.empty))).2.2)])], 2⟩ [((List.getD d_2 (Int.toNat i_16) ((0 : Int), ((0 : Int), ByteArray.empty))).1 != (0 : Int)) = false, ((List.getD d_2 (Int.toNat i_16) ((0 : Int), ((0 : Int), ByteArray.empty))).2.1 != (0 : Int)) = false, (decide (i_16 > (0 : Int))) = false, (decide ((((ByteArray.size (List.getD d_2 (Int.toNat i_16) ((0 : Int), ((0 : Int), ByteArray.empty))).2.2) : Nat) : Int) > (IntKind.wrap .i64 ((20000 : Int) - size_15)))) = false] (by kernel_rfl) rfl rfl (ap2 b_24 (ap2 b_26 (ap2 b_28 (ap1 b_36)))) (by kernel_rfl) (by kernel_rfl) ?_
                    have H_125 := Option.some.inj (show some (!r_38) = some q_101 from H_124); subst H_125
                    refine VL_nil ?_
                    exact QP_end (!r_38) rfl [(0, 0), (1, 1)] hn (by kernel_rfl) (by kernel_rfl) rfl rfl rfl
          · intro y_104 hy; subst hy
            skip
            skip
            refine VL_cond (y_104) (by kernel_rfl) ?_ ?_
            · intro b_42; have H_126 := of_t H_103 b_42
              refine V_run hN hn 2 2 [2] [] ⟨[(2, .c (.val (.bool false)))], [], 2⟩ [] (by kernel_rfl) rfl rfl ap0 ?_
              have H_128 := Option.some.inj (show some false = some r from H_126); subst H_128
              refine VL_ret ?_
              refine QB_ret ?_
              refine QL_ret ?_
              refine QB_ret ?_
              exact P_to [(2, .c (.val (.bool false)))] [] [] hn (by kernel_rfl) (by kernel_rfl) rfl rfl rfl (QF_retS (by kernel_rfl) (by kernel_rfl) rfl)
            · intro b_42; have H_127 := of_f H_103 b_42
              refine V_run hN hn 5 2 [1, 3, 4, 5, 6] [0] ⟨[(1, .c (.h 0)), (3, .c (.val (.int .i64 last_13))), (4, .c (.val (.bool true))), (5, .c (.val (.int .i64 (IntKind.wrap .i64 (size_15 + (((ByteArray.size (List.getD d_2 (Int.toNat i_16) ((0 : Int), ((0 : Int), ByteArray.empty))).2.2) : Nat) : Int)))))), (6, .c (.val (.int .i64 i_16)))], [(0, .box [.val (.int .i64 d_1), .imm (.slice (.pair (.int .i64) (.pair (.int .i64) .str))) d_2])], 2⟩ [] (by kernel_rfl) rfl rfl ap0 ?_
              refine VL_exit ?_
              refine QB_here ?_
              refine V_run hN hn 1 2 [1, 3, 4, 5, 6] [0] ⟨[(1, .c (.h 0)), (3, .c (.val (.int .i64 last_13))), (4, .c (.val (.bool true))), (5, .c (.val (.int .i64 (IntKind.wrap .i64 (size_15 + (((ByteArray.size (List.getD d_2 (Int.toNat i_16) ((0 : Int), ((0 : Int), ByteArray.empty))).2.2) : Nat) : Int)))))), (6, .c (.val (.int .i64 (IntKind.wrap .i64 (i_16 + (1 : Int))))))], [(0, .box [.val (.int .i64 d_1), .imm (.slice (.pair (.int .i64) (.pair (.int .i64) .str))) d_2])], 2⟩ [] (by kernel_rfl) rfl rfl ap0 ?_
              refine VL_nil ?_
              exact V_roundEnd (last_13, true, (IntKind.wrap .i64 (size_15 + (((ByteArray.size (List.getD d_2 (Int.toNat i_16) ((0 : Int), ((0 : Int), ByteArray.empty))).2.2) : Nat) : Int))), (IntKind.wrap .i64 (i_16 + (1 : Int)))) H_127 [(0, 0)] hn (by kernel_rfl) (by kernel_rfl) rfl rfl rfl
        · intro b_22; have H_100 := of_f H_98 b_22
          refine V_run hN hn 3 2 [1, 3, 4, 5, 6, 7, 36] [0, 1] ⟨[(1, .c (.h 0)), (3, .c (.val (.int .i64 last_13))), (4, .c (.val (.bool text_14))), (5, .c (.val (.int .i64 size_15))), (6, .c (.val (.int .i64 i_16))), (7, .c (.h 1)), (36, .c (.val (.bool (!(ByteArray.toList (List.getD d_2 (Int.toNat i_16) ((0 : Int), ((0 : Int), ByteArray.empty))).2.2 == ByteArray.toList (ByteArray.mk #[]))))))], [(0, .box [.val (.int .i64 d_1), .imm (.slice (.pair (.int .i64) (.pair (.int .i64) .str))) d_2]), (1, .box [.val (.int .i64 (List.getD d_2 (Int.toNat i_16) ((0 : Int), ((0 : Int), ByteArray.empty))).1), .val (.int .i64 (List.getD d_2 (Int.toNat i_16) ((0 : Int), ((0 : Int), ByteArray.empty))).2.1), .val (.string (List.getD d_2 (Int.toNat i_16) ((0 : Int), ((0 : Int), ByteArray.empty))).2.2)])], 2⟩ [] (by kernel_rfl) rfl rfl ap0 ?_
          obtain ⟨q_129, H_130, H_131⟩ := of_bind H_100
          refine V_cut (Y := Bool) (R := Bool) q_129 (fun y => y) (fun y => [(1, .c (.h 0)), (5, .c (.val (.int .i64 size_15))), (6, .c (.val (.int .i64 i_16))), (7, .c (.h 1)), (112, .c (.val (.bool y)))]) (fun y => [(0, .box [.val (.int .i64 d_1), .imm (.slice (.pair (.int .i64) (.pair (.int .i64) .str))) d_2]), (1, .box [.val (.int .i64 (List.getD d_2 (Int.toNat i_16) ((0 : Int), ((0 : Int), ByteArray.empty))).1), .val (.int .i64 (List.getD d_2 (Int.toNat i_16) ((0 : Int), ((0 : Int), ByteArray.empty))).2.1), .val (.string (List.getD d_2 (Int.toNat i_16) ((0 : Int), ((0 : Int), ByteArray.empty))).2.2)])]) ?_ ?_
          · skip
            rcases Bool.eq_false_or_eq_true ((decide ((List.getD d_2 (Int.toNat i_16) ((0 : Int), ((0 : Int), ByteArray.empty))).1 < last_13))) with b_47 | b_47
            · have H_133 := of_t H_130 b_47
              refine V_reg hN hn [] [(75, true)] calls_nil 2 [1, 5, 6, 7, 112] [0, 1] ⟨[(1, .c (.h 0)), (5, .c (.val (.int .i64 size_15))), (6, .c (.val (.int .i64 i_16))), (7, .c (.h 1)), (112, .c (.val (.bool true)))], [(0, .box [.val (.int .i64 d_1), .imm (.slice (.pair (.int .i64) (.pair (.int .i64) .str))) d_2]), (1, .box [.val (.int .i64 (List.getD d_2 (Int.toNat i_16) ((0 : Int), ((0 : Int), ByteArray.empty))).1), .val (.int .i64 (List.getD d_2 (Int.toNat i_16) ((0 : Int), ((0 : Int), ByteArray.empty))).2.1), .val (.string (List.getD d_2 (Int.toNat i_16) ((0 : Int), ((0 : Int), ByteArray.empty))).2.2)])], 2⟩ [(decide ((List.getD d_2 (Int.toNat i_16) ((0 : Int), ((0 : Int), ByteArray.empty))).1 < last_13)) = true] (by kernel_rfl) rfl rfl (ap1 b_47) (by kernel_rfl) (by kernel_rfl) ?_
              have H_135 := Option.some.inj (show some true = some q_129 from H_133); subst H_135
              refine VL_nil ?_
              exact QP_end true rfl [(0, 0), (1, 1)] hn (by kernel_rfl) (by kernel_rfl) rfl rfl rfl
            · have H_134 := of_f H_130 b_47
              rcases Bool.eq_false_or_eq_true ((decide (i_16 > (0 : Int)))) with b_49 | b_49
              · have H_136 := of_t H_134 b_49
                rcases Bool.eq_false_or_eq_true ((!text_14)) with b_50 | b_50
                · have H_138 := of_t H_136 b_50
                  rcases Bool.eq_false_or_eq_true (((List.getD d_2 (Int.toNat i_16) ((0 : Int), ((0 : Int), ByteArray.empty))).1 == last_13)) with b_51 | b_51
                  · have H_140 := of_t H_138 b_51
                    refine V_reg hN hn [] [(75, false), (78, true), (82, true), (89, true)] calls_nil 2 [1, 5, 6, 7, 112] [0, 1] ⟨[(1, .c (.h 0)), (5, .c (.val (.int .i64 size_15))), (6, .c (.val (.int .i64 i_16))), (7, .c (.h 1)), (112, .c (.val (.bool true)))], [(0, .box [.val (.int .i64 d_1), .imm (.slice (.pair (.int .i64) (.pair (.int .i64) .str))) d_2]), (1, .box [.val (.int .i64 (List.getD d_2 (Int.toNat i_16) ((0 : Int), ((0 : Int), ByteArray.empty))).1), .val (.int .i64 (List.getD d_2 (Int.toNat i_16) ((0 : Int), ((0 : Int), ByteArray.empty))).2.1), .val (.string (List.getD d_2 (Int.toNat i_16) ((0 : Int), ((0 : Int), ByteArray.empty))).2.2)])], 2⟩ [(decide ((List.getD d_2 (Int.toNat i_16) ((0 : Int), ((0 : Int), ByteArray.empty))).1 < last_13)) = false, (decide (i_16 > (0 : Int))) = true, (!text_14) = true, ((List.getD d_2 (Int.toNat i_16) ((0 : Int), ((0 : Int), ByteArray.empty))).1 == last_13) = true] (by kernel_rfl) rfl rfl (ap2 b_47 (ap2 b_49 (ap2 b_50 (ap1 b_51)))) (by kernel_rfl) (by kernel_rfl) ?_
                    have H_142 := Option.some.inj (show some true = some q_129 from H_140); subst H_142
                    refine VL_nil ?_
                    exact QP_end true rfl [(0, 0), (1, 1)] hn (by kernel_rfl) (by kernel_rfl) rfl rfl rfl
                  · have H_141 := of_f H_138 b_51
                    rcases Bool.eq_false_or_eq_true ((decide ((List.getD d_2 (Int.toNat i_16) ((0 : Int), ((0 : Int), ByteArray.empty))).2.1 ≤ (List.getD d_2 (Int.toNat i_16) ((0 : Int), ((0 : Int), ByteArray.empty))).1))) with b_53 | b_53
                    · have H_143 := of_t H_141 b_53
                      refine V_reg hN hn [] [(75, false), (78, true), (82, true), (89, false), (96, true)] calls_nil 2 [1, 5, 6, 7, 112] [0, 1] ⟨[(1, .c (.h 0)), (5, .c (.val (.int .i64 size_15))), (6, .c (.val (.int .i64 i_16))), (7, .c (.h 1)), (112, .c (.val (.bool true)))], [(0, .box [.val (.int .i64 d_1), .imm (.slice (.pair (.int .i64) (.pair (.int .i64) .str))) d_2]), (1, .box [.val (.int .i64 (List.getD d_2 (Int.toNat i_16) ((0 : Int), ((0 : Int), ByteArray.empty))).1), .val (.int .i64 (List.getD d_2 (Int.toNat i_16) ((0 : Int), ((0 : Int), ByteArray.empty))).2.1), .val (.string (List.getD d_2 (Int.toNat i_16) ((0 : Int), ((0 : Int), ByteArray.empty))).2.2)])], 2⟩ [(decide ((List.getD d_2 (Int.toNat i_16) ((0 : Int), ((0 : Int), ByteArray.empty))).1 < last_13)) = false, (decide (i_16 > (0 : Int))) = true, (!text_14) = true, ((List.getD d_2 (Int.toNat i_16) ((0 : Int), ((0 : Int), ByteArray.empty))).1 == last_13) = false, (decide ((List.getD d_2 (Int.toNat i_16) ((0 : Int), ((0 : Int), ByteArray.empty))).2.1 ≤ (List.getD d_2 (Int.toNat i_16) ((0 : Int), ((0 : Int), ByteArray.empty))).1)) = true] (by kernel_rfl) rfl rfl (ap2 b_47 (ap2 b_49 (ap2 b_50 (ap2 b_51 (ap1 b_53))))) (by kernel_rfl) (by kernel_rfl) ?_
                      have H_145 := Option.some.inj (show some true = some q_129 from H_143); subst H_145
                      refine VL_nil ?_
                      exact QP_end true rfl [(0, 0), (1, 1)] hn (by kernel_rfl) (by kernel_rfl) rfl rfl rfl
                    · have H_144 := of_f H_141 b_53
                      rcases Bool.eq_false_or_eq_true ((decide ((List.getD d_2 (Int.toNat i_16) ((0 : Int), ((0 : Int), ByteArray.empty))).2.1 > d_1))) with b_55 | b_55
                      · have H_146 := of_t H_144 b_55
                        refine V_reg hN hn [] [(75, false), (78, true), (82, true), (89, false), (96, false), (103, true)] calls_nil 2 [1, 5, 6, 7, 112] [0, 1] ⟨[(1, .c (.h 0)), (5, .c (.val (.int .i64 size_15))), (6, .c (.val (.int .i64 i_16))), (7, .c (.h 1)), (112, .c (.val (.bool true)))], [(0, .box [.val (.int .i64 d_1), .imm (.slice (.pair (.int .i64) (.pair (.int .i64) .str))) d_2]), (1, .box [.val (.int .i64 (List.getD d_2 (Int.toNat i_16) ((0 : Int), ((0 : Int), ByteArray.empty))).1), .val (.int .i64 (List.getD d_2 (Int.toNat i_16) ((0 : Int), ((0 : Int), ByteArray.empty))).2.1), .val (.string (List.getD d_2 (Int.toNat i_16) ((0 : Int), ((0 : Int), ByteArray.empty))).2.2)])], 2⟩ [(decide ((List.getD d_2 (Int.toNat i_16) ((0 : Int), ((0 : Int), ByteArray.empty))).1 < last_13)) = false, (decide (i_16 > (0 : Int))) = true, (!text_14) = true, ((List.getD d_2 (Int.toNat i_16) ((0 : Int), ((0 : Int), ByteArray.empty))).1 == last_13) = false, (decide ((List.getD d_2 (Int.toNat i_16) ((0 : Int), ((0 : Int), ByteArray.empty))).2.1 ≤ (List.getD d_2 (Int.toNat i_16) ((0 : Int), ((0 : Int), ByteArray.empty))).1)) = false, (decide ((List.getD d_2 (Int.toNat i_16) ((0 : Int), ((0 : Int), ByteArray.empty))).2.1 > d_1)) = true] (by kernel_rfl) rfl rfl (ap2 b_47 (ap2 b_49 (ap2 b_50 (ap2 b_51 (ap2 b_53 (ap1 b_55)))))) (by kernel_rfl) (by kernel_rfl) ?_
                        have H_148 := Option.some.inj (show some true = some q_129 from H_146); subst H_148
                        refine VL_nil ?_
                        exact QP_end true rfl [(0, 0), (1, 1)] hn (by kernel_rfl) (by kernel_rfl) rfl rfl rfl
                      · have H_147 := of_f H_144 b_55
                        refine V_reg hN hn [] [(75, false), (78, true), (82, true), (89, false), (96, false), (103, false)] calls_nil 2 [1, 5, 6, 7, 112] [0, 1] ⟨[(1, .c (.h 0)), (5, .c (.val (.int .i64 size_15))), (6, .c (.val (.int .i64 i_16))), (7, .c (.h 1)), (112, .c (.val (.bool (decide ((IntKind.wrap .i64 ((List.getD d_2 (Int.toNat i_16) ((0 : Int), ((0 : Int), ByteArray.empty))).2.1 - (List.getD d_2 (Int.toNat i_16) ((0 : Int), ((0 : Int), ByteArray.empty))).1)) > (IntKind.wrap .i64 ((20000 : Int) - size_15)))))))], [(0, .box [.val (.int .i64 d_1), .imm (.slice (.pair (.int .i64) (.pair (.int .i64) .str))) d_2]), (1, .box [.val (.int .i64 (List.getD d_2 (Int.toNat i_16) ((0 : Int), ((0 : Int), ByteArray.empty))).1), .val (.int .i64 (List.getD d_2 (Int.toNat i_16) ((0 : Int), ((0 : Int), ByteArray.empty))).2.1), .val (.string (List.getD d_2 (Int.toNat i_16) ((0 : Int), ((0 : Int), ByteArray.empty))).2.2)])], 2⟩ [(decide ((List.getD d_2 (Int.toNat i_16) ((0 : Int), ((0 : Int), ByteArray.empty))).1 < last_13)) = false, (decide (i_16 > (0 : Int))) = true, (!text_14) = true, ((List.getD d_2 (Int.toNat i_16) ((0 : Int), ((0 : Int), ByteArray.empty))).1 == last_13) = false, (decide ((List.getD d_2 (Int.toNat i_16) ((0 : Int), ((0 : Int), ByteArray.empty))).2.1 ≤ (List.getD d_2 (Int.toNat i_16) ((0 : Int), ((0 : Int), ByteArray.empty))).1)) = false, (decide ((List.getD d_2 (Int.toNat i_16) ((0 : Int), ((0 : Int), ByteArray.empty))).2.1 > d_1)) = false] (by kernel_rfl) rfl rfl (ap2 b_47 (ap2 b_49 (ap2 b_50 (ap2 b_51 (ap2 b_53 (ap1 b_55)))))) (by kernel_rfl) (by kernel_rfl) ?_
                        have H_149 := Option.some.inj (show some (decide ((IntKind.wrap .i64 ((List.getD d_2 (Int.toNat i_16) ((0 : Int), ((0 : Int), ByteArray.empty))).2.1 - (List.getD d_2 (Int.toNat i_16) ((0 : Int), ((0 : Int), ByteArray.empty))).1)) > (IntKind.wrap .i64 ((20000 : Int) - size_15)))) = some q_129 from H_147); subst H_149
                        refine VL_nil ?_
                        exact QP_end (decide ((IntKind.wrap .i64 ((List.getD d_2 (Int.toNat i_16) ((0 : Int), ((0 : Int), ByteArray.empty))).2.1 - (List.getD d_2 (Int.toNat i_16) ((0 : Int), ((0 : Int), ByteArray.empty))).1)) > (IntKind.wrap .i64 ((20000 : Int) - size_15)))) rfl [(0, 0), (1, 1)] hn (by kernel_rfl) (by kernel_rfl) rfl rfl rfl
                · have H_139 := of_f H_136 b_50
                  rcases Bool.eq_false_or_eq_true ((decide ((List.getD d_2 (Int.toNat i_16) ((0 : Int), ((0 : Int), ByteArray.empty))).2.1 ≤ (List.getD d_2 (Int.toNat i_16) ((0 : Int), ((0 : Int), ByteArray.empty))).1))) with b_58 | b_58
                  · have H_150 := of_t H_139 b_58
                    refine V_reg hN hn [] [(75, false), (78, true), (82, false), (96, true)] calls_nil 2 [1, 5, 6, 7, 112] [0, 1] ⟨[(1, .c (.h 0)), (5, .c (.val (.int .i64 size_15))), (6, .c (.val (.int .i64 i_16))), (7, .c (.h 1)), (112, .c (.val (.bool true)))], [(0, .box [.val (.int .i64 d_1), .imm (.slice (.pair (.int .i64) (.pair (.int .i64) .str))) d_2]), (1, .box [.val (.int .i64 (List.getD d_2 (Int.toNat i_16) ((0 : Int), ((0 : Int), ByteArray.empty))).1), .val (.int .i64 (List.getD d_2 (Int.toNat i_16) ((0 : Int), ((0 : Int), ByteArray.empty))).2.1), .val (.string (List.getD d_2 (Int.toNat i_16) ((0 : Int), ((0 : Int), ByteArray.empty))).2.2)])], 2⟩ [(decide ((List.getD d_2 (Int.toNat i_16) ((0 : Int), ((0 : Int), ByteArray.empty))).1 < last_13)) = false, (decide (i_16 > (0 : Int))) = true, (!text_14) = false, (decide ((List.getD d_2 (Int.toNat i_16) ((0 : Int), ((0 : Int), ByteArray.empty))).2.1 ≤ (List.getD d_2 (Int.toNat i_16) ((0 : Int), ((0 : Int), ByteArray.empty))).1)) = true] (by kernel_rfl) rfl rfl (ap2 b_47 (ap2 b_49 (ap2 b_50 (ap1 b_58)))) (by kernel_rfl) (by kernel_rfl) ?_
                    have H_152 := Option.some.inj (show some true = some q_129 from H_150); subst H_152
                    refine VL_nil ?_
                    exact QP_end true rfl [(0, 0), (1, 1)] hn (by kernel_rfl) (by kernel_rfl) rfl rfl rfl
                  · have H_151 := of_f H_139 b_58
                    rcases Bool.eq_false_or_eq_true ((decide ((List.getD d_2 (Int.toNat i_16) ((0 : Int), ((0 : Int), ByteArray.empty))).2.1 > d_1))) with b_60 | b_60
                    · have H_153 := of_t H_151 b_60
                      refine V_reg hN hn [] [(75, false), (78, true), (82, false), (96, false), (103, true)] calls_nil 2 [1, 5, 6, 7, 112] [0, 1] ⟨[(1, .c (.h 0)), (5, .c (.val (.int .i64 size_15))), (6, .c (.val (.int .i64 i_16))), (7, .c (.h 1)), (112, .c (.val (.bool true)))], [(0, .box [.val (.int .i64 d_1), .imm (.slice (.pair (.int .i64) (.pair (.int .i64) .str))) d_2]), (1, .box [.val (.int .i64 (List.getD d_2 (Int.toNat i_16) ((0 : Int), ((0 : Int), ByteArray.empty))).1), .val (.int .i64 (List.getD d_2 (Int.toNat i_16) ((0 : Int), ((0 : Int), ByteArray.empty))).2.1), .val (.string (List.getD d_2 (Int.toNat i_16) ((0 : Int), ((0 : Int), ByteArray.empty))).2.2)])], 2⟩ [(decide ((List.getD d_2 (Int.toNat i_16) ((0 : Int), ((0 : Int), ByteArray.empty))).1 < last_13)) = false, (decide (i_16 > (0 : Int))) = true, (!text_14) = false, (decide ((List.getD d_2 (Int.toNat i_16) ((0 : Int), ((0 : Int), ByteArray.empty))).2.1 ≤ (List.getD d_2 (Int.toNat i_16) ((0 : Int), ((0 : Int), ByteArray.empty))).1)) = false, (decide ((List.getD d_2 (Int.toNat i_16) ((0 : Int), ((0 : Int), ByteArray.empty))).2.1 > d_1)) = true] (by kernel_rfl) rfl rfl (ap2 b_47 (ap2 b_49 (ap2 b_50 (ap2 b_58 (ap1 b_60))))) (by kernel_rfl) (by kernel_rfl) ?_
                      have H_155 := Option.some.inj (show some true = some q_129 from H_153); subst H_155
                      refine VL_nil ?_
                      exact QP_end true rfl [(0, 0), (1, 1)] hn (by kernel_rfl) (by kernel_rfl) rfl rfl rfl
                    · have H_154 := of_f H_151 b_60
                      refine V_reg hN hn [] [(75, false), (78, true), (82, false), (96, false), (103, false)] calls_nil 2 [1, 5, 6, 7, 112] [0, 1] ⟨[(1, .c (.h 0)), (5, .c (.val (.int .i64 size_15))), (6, .c (.val (.int .i64 i_16))), (7, .c (.h 1)), (112, .c (.val (.bool (decide ((IntKind.wrap .i64 ((List.getD d_2 (Int.toNat i_16) ((0 : Int), ((0 : Int), ByteArray.empty))).2.1 - (List.getD d_2 (Int.toNat i_16) ((0 : Int), ((0 : Int), ByteArray.empty))).1)) > (IntKind.wrap .i64 ((20000 : Int) - size_15)))))))], [(0, .box [.val (.int .i64 d_1), .imm (.slice (.pair (.int .i64) (.pair (.int .i64) .str))) d_2]), (1, .box [.val (.int .i64 (List.getD d_2 (Int.toNat i_16) ((0 : Int), ((0 : Int), ByteArray.empty))).1), .val (.int .i64 (List.getD d_2 (Int.toNat i_16) ((0 : Int), ((0 : Int), ByteArray.empty))).2.1), .val (.string (List.getD d_2 (Int.toNat i_16) ((0 : Int), ((0 : Int), ByteArray.empty))).2.2)])], 2⟩ [(decide ((List.getD d_2 (Int.toNat i_16) ((0 : Int), ((0 : Int), ByteArray.empty))).1 < last_13)) = false, (decide (i_16 > (0 : Int))) = true, (!text_14) = false, (decide ((List.getD d_2 (Int.toNat i_16) ((0 : Int), ((0 : Int), ByteArray.empty))).2.1 ≤ (List.getD d_2 (Int.toNat i_16) ((0 : Int), ((0 : Int), ByteArray.empty))).1)) = false, (decide ((List.getD d_2 (Int.toNat i_16) ((0 : Int), ((0 : Int), ByteArray.empty))).2.1 > d_1)) = false] (by kernel_rfl) rfl rfl (ap2 b_47 (ap2 b_49 (ap2 b_50 (ap2 b_58 (ap1 b_60))))) (by kernel_rfl) (by kernel_rfl) ?_
                      have H_156 := Option.some.inj (show some (decide ((IntKind.wrap .i64 ((List.getD d_2 (Int.toNat i_16) ((0 : Int), ((0 : Int), ByteArray.empty))).2.1 - (List.getD d_2 (Int.toNat i_16) ((0 : Int), ((0 : Int), ByteArray.empty))).1)) > (IntKind.wrap .i64 ((20000 : Int) - size_15)))) = some q_129 from H_154); subst H_156
                      refine VL_nil ?_
                      exact QP_end (decide ((IntKind.wrap .i64 ((List.getD d_2 (Int.toNat i_16) ((0 : Int), ((0 : Int), ByteArray.empty))).2.1 - (List.getD d_2 (Int.toNat i_16) ((0 : Int), ((0 : Int), ByteArray.empty))).1)) > (IntKind.wrap .i64 ((20000 : Int) - size_15)))) rfl [(0, 0), (1, 1)] hn (by kernel_rfl) (by kernel_rfl) rfl rfl rfl
              · have H_137 := of_f H_134 b_49
                rcases Bool.eq_false_or_eq_true ((decide ((List.getD d_2 (Int.toNat i_16) ((0 : Int), ((0 : Int), ByteArray.empty))).2.1 ≤ (List.getD d_2 (Int.toNat i_16) ((0 : Int), ((0 : Int), ByteArray.empty))).1))) with b_63 | b_63
                · have H_157 := of_t H_137 b_63
                  refine V_reg hN hn [] [(75, false), (78, false), (96, true)] calls_nil 2 [1, 5, 6, 7, 112] [0, 1] ⟨[(1, .c (.h 0)), (5, .c (.val (.int .i64 size_15))), (6, .c (.val (.int .i64 i_16))), (7, .c (.h 1)), (112, .c (.val (.bool true)))], [(0, .box [.val (.int .i64 d_1), .imm (.slice (.pair (.int .i64) (.pair (.int .i64) .str))) d_2]), (1, .box [.val (.int .i64 (List.getD d_2 (Int.toNat i_16) ((0 : Int), ((0 : Int), ByteArray.empty))).1), .val (.int .i64 (List.getD d_2 (Int.toNat i_16) ((0 : Int), ((0 : Int), ByteArray.empty))).2.1), .val (.string (List.getD d_2 (Int.toNat i_16) ((0 : Int), ((0 : Int), ByteArray.empty))).2.2)])], 2⟩ [(decide ((List.getD d_2 (Int.toNat i_16) ((0 : Int), ((0 : Int), ByteArray.empty))).1 < last_13)) = false, (decide (i_16 > (0 : Int))) = false, (decide ((List.getD d_2 (Int.toNat i_16) ((0 : Int), ((0 : Int), ByteArray.empty))).2.1 ≤ (List.getD d_2 (Int.toNat i_16) ((0 : Int), ((0 : Int), ByteArray.empty))).1)) = true] (by kernel_rfl) rfl rfl (ap2 b_47 (ap2 b_49 (ap1 b_63))) (by kernel_rfl) (by kernel_rfl) ?_
                  have H_159 := Option.some.inj (show some true = some q_129 from H_157); subst H_159
                  refine VL_nil ?_
                  exact QP_end true rfl [(0, 0), (1, 1)] hn (by kernel_rfl) (by kernel_rfl) rfl rfl rfl
                · have H_158 := of_f H_137 b_63
                  rcases Bool.eq_false_or_eq_true ((decide ((List.getD d_2 (Int.toNat i_16) ((0 : Int), ((0 : Int), ByteArray.empty))).2.1 > d_1))) with b_65 | b_65
                  · have H_160 := of_t H_158 b_65
                    refine V_reg hN hn [] [(75, false), (78, false), (96, false), (103, true)] calls_nil 2 [1, 5, 6, 7, 112] [0, 1] ⟨[(1, .c (.h 0)), (5, .c (.val (.int .i64 size_15))), (6, .c (.val (.int .i64 i_16))), (7, .c (.h 1)), (112, .c (.val (.bool true)))], [(0, .box [.val (.int .i64 d_1), .imm (.slice (.pair (.int .i64) (.pair (.int .i64) .str))) d_2]), (1, .box [.val (.int .i64 (List.getD d_2 (Int.toNat i_16) ((0 : Int), ((0 : Int), ByteArray.empty))).1), .val (.int .i64 (List.getD d_2 (Int.toNat i_16) ((0 : Int), ((0 : Int), ByteArray.empty))).2.1), .val (.string (List.getD d_2 (Int.toNat i_16) ((0 : Int), ((0 : Int), ByteArray.empty))).2.2)])], 2⟩ [(decide ((List.getD d_2 (Int.toNat i_16) ((0 : Int), ((0 : Int), ByteArray.empty))).1 < last_13)) = false, (decide (i_16 > (0 : Int))) = false, (decide ((List.getD d_2 (Int.toNat i_16) ((0 : Int), ((0 : Int), ByteArray.empty))).2.1 ≤ (List.getD d_2 (Int.toNat i_16) ((0 : Int), ((0 : Int), ByteArray.empty))).1)) = false, (decide ((List.getD d_2 (Int.toNat i_16) ((0 : Int), ((0 : Int), ByteArray.empty))).2.1 > d_1)) = true] (by kernel_rfl) rfl rfl (ap2 b_47 (ap2 b_49 (ap2 b_63 (ap1 b_65)))) (by kernel_rfl) (by kernel_rfl) ?_
                    have H_162 := Option.some.inj (show some true = some q_129 from H_160); subst H_162
                    refine VL_nil ?_
                    exact QP_end true rfl [(0, 0), (1, 1)] hn (by kernel_rfl) (by kernel_rfl) rfl rfl rfl
                  · have H_161 := of_f H_158 b_65
                    refine V_reg hN hn [] [(75, false), (78, false), (96, false), (103, false)] calls_nil 2 [1, 5, 6, 7, 112] [0, 1] ⟨[(1, .c (.h 0)), (5, .c (.val (.int .i64 size_15))), (6, .c (.val (.int .i64 i_16))), (7, .c (.h 1)), (112, .c (.val (.bool (decide ((IntKind.wrap .i64 ((List.getD d_2 (Int.toNat i_16) ((0 : Int), ((0 : Int), ByteArray.empty))).2.1 - (List.getD d_2 (Int.toNat i_16) ((0 : Int), ((0 : Int), ByteArray.empty))).1)) > (IntKind.wrap .i64 ((20000 : Int) - size_15)))))))], [(0, .box [.val (.int .i64 d_1), .imm (.slice (.pair (.int .i64) (.pair (.int .i64) .str))) d_2]), (1, .box [.val (.int .i64 (List.getD d_2 (Int.toNat i_16) ((0 : Int), ((0 : Int), ByteArray.empty))).1), .val (.int .i64 (List.getD d_2 (Int.toNat i_16) ((0 : Int), ((0 : Int), ByteArray.empty))).2.1), .val (.string (List.getD d_2 (Int.toNat i_16) ((0 : Int), ((0 : Int), ByteArray.empty))).2.2)])], 2⟩ [(decide ((List.getD d_2 (Int.toNat i_16) ((0 : Int), ((0 : Int), ByteArray.empty))).1 < last_13)) = false, (decide (i_16 > (0 : Int))) = false, (decide ((List.getD d_2 (Int.toNat i_16) ((0 : Int), ((0 : Int), ByteArray.empty))).2.1 ≤ (List.getD d_2 (Int.toNat i_16) ((0 : Int), ((0 : Int), ByteArray.empty))).1)) = false, (decide ((List.getD d_2 (Int.toNat i_16) ((0 : Int), ((0 : Int), ByteArray.empty))).2.1 > d_1)) = false] (by kernel_rfl) rfl rfl (ap2 b_47 (ap2 b_49 (ap2 b_63 (ap1 b_65)))) (by kernel_rfl) (by kernel_rfl) ?_
                    have H_163 := Option.some.inj (show some (decide ((IntKind.wrap .i64 ((List.getD d_2 (Int.toNat i_16) ((0 : Int), ((0 : Int), ByteArray.empty))).2.1 - (List.getD d_2 (Int.toNat i_16) ((0 : Int), ((0 : Int), ByteArray.empty))).1)) > (IntKind.wrap .i64 ((20000 : Int) - size_15)))) = some q_129 from H_161); subst H_163
                    refine VL_nil ?_
                    exact QP_end (decide ((IntKind.wrap .i64 ((List.getD d_2 (Int.toNat i_16) ((0 : Int), ((0 : Int), ByteArray.empty))).2.1 - (List.getD d_2 (Int.toNat i_16) ((0 : Int), ((0 : Int), ByteArray.empty))).1)) > (IntKind.wrap .i64 ((20000 : Int) - size_15)))) rfl [(0, 0), (1, 1)] hn (by kernel_rfl) (by kernel_rfl) rfl rfl rfl
          · intro y_132 hy; subst hy
            skip
            skip
            refine VL_cond (y_132) (by kernel_rfl) ?_ ?_
            · intro b_69; have H_164 := of_t H_131 b_69
              refine V_run hN hn 2 2 [2] [] ⟨[(2, .c (.val (.bool false)))], [], 2⟩ [] (by kernel_rfl) rfl rfl ap0 ?_
              have H_166 := Option.some.inj (show some false = some r from H_164); subst H_166
              refine VL_ret ?_
              refine QB_ret ?_
              refine QL_ret ?_
              refine QB_ret ?_
              exact P_to [(2, .c (.val (.bool false)))] [] [] hn (by kernel_rfl) (by kernel_rfl) rfl rfl rfl (QF_retS (by kernel_rfl) (by kernel_rfl) rfl)
            · intro b_69; have H_165 := of_f H_131 b_69
              refine V_run hN hn 4 2 [1, 3, 4, 5, 6] [0] ⟨[(1, .c (.h 0)), (3, .c (.val (.int .i64 (List.getD d_2 (Int.toNat i_16) ((0 : Int), ((0 : Int), ByteArray.empty))).2.1))), (4, .c (.val (.bool false))), (5, .c (.val (.int .i64 (IntKind.wrap .i64 ((IntKind.wrap .i64 (size_15 + (List.getD d_2 (Int.toNat i_16) ((0 : Int), ((0 : Int), ByteArray.empty))).2.1)) - (List.getD d_2 (Int.toNat i_16) ((0 : Int), ((0 : Int), ByteArray.empty))).1))))), (6, .c (.val (.int .i64 i_16)))], [(0, .box [.val (.int .i64 d_1), .imm (.slice (.pair (.int .i64) (.pair (.int .i64) .str))) d_2])], 2⟩ [] (by kernel_rfl) rfl rfl ap0 ?_
              refine VL_nil (QB_end ?_)
              refine V_run hN hn 1 2 [1, 3, 4, 5, 6] [0] ⟨[(1, .c (.h 0)), (3, .c (.val (.int .i64 (List.getD d_2 (Int.toNat i_16) ((0 : Int), ((0 : Int), ByteArray.empty))).2.1))), (4, .c (.val (.bool false))), (5, .c (.val (.int .i64 (IntKind.wrap .i64 ((IntKind.wrap .i64 (size_15 + (List.getD d_2 (Int.toNat i_16) ((0 : Int), ((0 : Int), ByteArray.empty))).2.1)) - (List.getD d_2 (Int.toNat i_16) ((0 : Int), ((0 : Int), ByteArray.empty))).1))))), (6, .c (.val (.int .i64 (IntKind.wrap .i64 (i_16 + (1 : Int))))))], [(0, .box [.val (.int .i64 d_1), .imm (.slice (.pair (.int .i64) (.pair (.int .i64) .str))) d_2])], 2⟩ [] (by kernel_rfl) rfl rfl ap0 ?_
              refine VL_nil ?_
              exact V_roundEnd ((List.getD d_2 (Int.toNat i_16) ((0 : Int), ((0 : Int), ByteArray.empty))).2.1, false, (IntKind.wrap .i64 ((IntKind.wrap .i64 (size_15 + (List.getD d_2 (Int.toNat i_16) ((0 : Int), ((0 : Int), ByteArray.empty))).2.1)) - (List.getD d_2 (Int.toNat i_16) ((0 : Int), ((0 : Int), ByteArray.empty))).1)), (IntKind.wrap .i64 (i_16 + (1 : Int)))) H_165 [(0, 0)] hn (by kernel_rfl) (by kernel_rfl) rfl rfl rfl
      · intro b_19; have H_97 := of_f H_95 b_19
        refine VL_exit ?_
        refine QL_exit ?_
        refine QB_here ?_
        refine V_run hN hn 2 1 [2] [] ⟨[(2, .c (.val (.bool true)))], [], 1⟩ [] (by kernel_rfl) rfl rfl ap0 ?_
        have H_167 := Option.some.inj (show some true = some r from H_97); subst H_167
        refine VL_ret ?_
        exact P_to [(2, .c (.val (.bool true)))] [] [] hn (by kernel_rfl) (by kernel_rfl) rfl rfl rfl (QF_retS (by kernel_rfl) (by kernel_rfl) rfl)

theorem palinoderef11_Cells_spec (K : Nat) (d_1 : Int) (d_2 : (List (Int × (Int × ByteArray)))) (r : (List (Int × Int))) (H : palinoderef11_Cells K d_1 d_2 = some r) : Spec Try.prog 14 0 [.agg [.val (.int .i64 d_1), .imm (.slice (.pair (.int .i64) (.pair (.int .i64) .str))) d_2]] [] (.c (.h 9)) [(9, .row (.pair (.int .i64) (.int .u8)) r)] := by
  refine Spec_mk (fn := Try.f14) (c := (Try.f14.body).get!) Try.func14 (by kernel_rfl) rfl ?_
  intro C hN hn
  replace hN : C.N = 49 := hN
  unfold palinoderef11_Cells at H
  refine V_run hN hn 7 0 [1, 3, 4] [0] ⟨[(1, .c (.h 0)), (3, .c (.val (.slice none 0 0))), (4, .c (.val (.int .i64 (0 : Int))))], [(0, .box [.val (.int .i64 d_1), .imm (.slice (.pair (.int .i64) (.pair (.int .i64) .str))) d_2])], 1⟩ [] (by kernel_rfl) rfl rfl ap0 ?_
  refine VL_block ?_
  refine V_ghost [.nilSlot 3 (.pair (.int .i64) (.int .u8))] 1 hn [1, 3, 4] [0, 1] ⟨[(1, .c (.h 0)), (3, .c (.h 1)), (4, .c (.val (.int .i64 (0 : Int))))], [(0, .box [.val (.int .i64 d_1), .imm (.slice (.pair (.int .i64) (.pair (.int .i64) .str))) d_2]), (1, .row (.pair (.int .i64) (.int .u8)) ([] : List (Int × Int)))], 2⟩ (by kernel_rfl) rfl rfl ?_
  refine V_to [(1, .c (.h 0)), (3, .c (.h 9)), (4, .c (.val (.int .i64 (0 : Int))))] [(0, .box [.val (.int .i64 d_1), .imm (.slice (.pair (.int .i64) (.pair (.int .i64) .str))) d_2]), (9, .row (.pair (.int .i64) (.int .u8)) ([] : List (Int × Int)))] [(0, 0), (9, 1)] hn (by kernel_rfl) (by kernel_rfl) rfl rfl rfl ?_
  refine VL_loop (X := ((List (Int × Int)) × Int)) (fun x => [(1, .c (.h 0)), (3, .c (.h 9)), (4, .c (.val (.int .i64 x.2)))]) (fun x => [(0, .box [.val (.int .i64 d_1), .imm (.slice (.pair (.int .i64) (.pair (.int .i64) .str))) d_2]), (9, .row (.pair (.int .i64) (.int .u8)) x.1)]) (fun k x => palinoderef11_Cells.l0 K d_2 k x.1 x.2 = some r) K (([] : List (Int × Int)), (0 : Int)) H (fun _ h => no_none h) ?_
  intro k_44 x_44 H_87
  obtain ⟨out_43, i_4⟩ := x_44
  have H_88 : palinoderef11_Cells.l0 K d_2 (k_44 + 1) out_43 i_4 = some r := H_87
  rw [palinoderef11_Cells.l0] at H_88
  refine V_run hN hn 3 10 [1, 3, 4, 12] [0, 9] ⟨[(1, .c (.h 0)), (3, .c (.h 9)), (4, .c (.val (.int .i64 i_4))), (12, .c (.val (.bool (decide (i_4 < (((List.length d_2) : Nat) : Int))))))], [(0, .box [.val (.int .i64 d_1), .imm (.slice (.pair (.int .i64) (.pair (.int .i64) .str))) d_2]), (9, .row (.pair (.int .i64) (.int .u8)) out_43)], 10⟩ [] (by kernel_rfl) rfl rfl ap0 ?_
  refine VL_cond ((decide (i_4 < (((List.length d_2) : Nat) : Int)))) (by kernel_rfl) ?_ ?_
  · intro b_46; have H_89 := of_t H_88 b_46
    refine V_run hN hn 2 10 [1, 3, 4, 12] [0, 9] ⟨[(1, .c (.h 0)), (3, .c (.h 9)), (4, .c (.val (.int .i64 i_4))), (12, .c (.val (.bool (decide (i_4 < (((List.length d_2) : Nat) : Int))))))], [(0, .box [.val (.int .i64 d_1), .imm (.slice (.pair (.int .i64) (.pair (.int .i64) .str))) d_2]), (9, .row (.pair (.int .i64) (.int .u8)) out_43)], 10⟩ [] (by kernel_rfl) rfl rfl ap0 ?_
    obtain ⟨q_91, H_92, H_93⟩ := of_bind H_89
    refine V_cut (Y := (List (Int × Int))) (R := (List (Int × Int))) q_91 (fun y => y) (fun y => [(1, .c (.h 0)), (3, .c (.h 16)), (4, .c (.val (.int .i64 i_4)))]) (fun y => [(0, .box [.val (.int .i64 d_1), .imm (.slice (.pair (.int .i64) (.pair (.int .i64) .str))) d_2]), (16, .row (.pair (.int .i64) (.int .u8)) y)]) ?_ ?_
    · skip
      refine VL_block ?_
      obtain ⟨c_48, H_95⟩ := of_if H_92
      refine V_run hN hn 5 10 [1, 3, 4, 5, 6] [0, 9, 10] ⟨[(1, .c (.h 0)), (3, .c (.h 9)), (4, .c (.val (.int .i64 i_4))), (5, .c (.h 10)), (6, .c (.val (.int .i64 (0 : Int))))], [(0, .box [.val (.int .i64 d_1), .imm (.slice (.pair (.int .i64) (.pair (.int .i64) .str))) d_2]), (9, .row (.pair (.int .i64) (.int .u8)) out_43), (10, .box [.val (.int .i64 (List.getD d_2 (Int.toNat i_4) ((0 : Int), ((0 : Int), ByteArray.empty))).1), .val (.int .i64 (List.getD d_2 (Int.toNat i_4) ((0 : Int), ((0 : Int), ByteArray.empty))).2.1), .val (.string (List.getD d_2 (Int.toNat i_4) ((0 : Int), ((0 : Int), ByteArray.empty))).2.2)])], 11⟩ [0 ≤ i_4, i_4 < (((List.length d_2) : Nat) : Int)] (by kernel_rfl) rfl rfl (ap2 c_48.1 (ap1 c_48.2)) ?_
      obtain ⟨q_96, H_97, H_98⟩ := of_bind H_95
      refine V_cut (Y := (List (Int × Int))) (R := (List (Int × Int))) q_96 (fun y => y) (fun y => [(1, .c (.h 0)), (3, .c (.h 13)), (4, .c (.val (.int .i64 i_4))), (5, .c (.h 10))]) (fun y => [(0, .box [.val (.int .i64 d_1), .imm (.slice (.pair (.int .i64) (.pair (.int .i64) .str))) d_2]), (10, .box [.val (.int .i64 (List.getD d_2 (Int.toNat i_4) ((0 : Int), ((0 : Int), ByteArray.empty))).1), .val (.int .i64 (List.getD d_2 (Int.toNat i_4) ((0 : Int), ((0 : Int), ByteArray.empty))).2.1), .val (.string (List.getD d_2 (Int.toNat i_4) ((0 : Int), ((0 : Int), ByteArray.empty))).2.2)]), (13, .row (.pair (.int .i64) (.int .u8)) y)]) ?_ ?_
      · skip
        refine VL_block ?_
        refine V_to [(1, .c (.h 0)), (3, .c (.h 13)), (4, .c (.val (.int .i64 i_4))), (5, .c (.h 10)), (6, .c (.val (.int .i64 (0 : Int))))] [(0, .box [.val (.int .i64 d_1), .imm (.slice (.pair (.int .i64) (.pair (.int .i64) .str))) d_2]), (10, .box [.val (.int .i64 (List.getD d_2 (Int.toNat i_4) ((0 : Int), ((0 : Int), ByteArray.empty))).1), .val (.int .i64 (List.getD d_2 (Int.toNat i_4) ((0 : Int), ((0 : Int), ByteArray.empty))).2.1), .val (.string (List.getD d_2 (Int.toNat i_4) ((0 : Int), ((0 : Int), ByteArray.empty))).2.2)]), (13, .row (.pair (.int .i64) (.int .u8)) out_43)] [(0, 0), (10, 10), (13, 9)] hn (by kernel_rfl) (by kernel_rfl) rfl rfl rfl ?_
        refine VL_loop (X := ((List (Int × Int)) × Int)) (fun x => [(1, .c (.h 0)), (3, .c (.h 13)), (4, .c (.val (.int .i64 i_4))), (5, .c (.h 10)), (6, .c (.val (.int .i64 x.2)))]) (fun x => [(0, .box [.val (.int .i64 d_1), .imm (.slice (.pair (.int .i64) (.pair (.int .i64) .str))) d_2]), (10, .box [.val (.int .i64 (List.getD d_2 (Int.toNat i_4) ((0 : Int), ((0 : Int), ByteArray.empty))).1), .val (.int .i64 (List.getD d_2 (Int.toNat i_4) ((0 : Int), ((0 : Int), ByteArray.empty))).2.1), .val (.string (List.getD d_2 (Int.toNat i_4) ((0 : Int), ((0 : Int), ByteArray.empty))).2.2)]), (13, .row (.pair (.int .i64) (.int .u8)) x.1)]) (fun k x => palinoderef11_Cells.l1 K d_2 i_4 k x.1 x.2 = some q_96) K (out_43, (0 : Int)) H_97 (fun _ h => no_none h) ?_
        intro k_57 x_57 H_100
        obtain ⟨out_56, k_49⟩ := x_57
        have H_101 : palinoderef11_Cells.l1 K d_2 i_4 (k_57 + 1) out_56 k_49 = some q_96 := H_100
        rw [palinoderef11_Cells.l1] at H_101
        refine V_run hN hn 3 14 [1, 3, 4, 5, 6, 24] [0, 10, 13] ⟨[(1, .c (.h 0)), (3, .c (.h 13)), (4, .c (.val (.int .i64 i_4))), (5, .c (.h 10)), (6, .c (.val (.int .i64 k_49))), (24, .c (.val (.bool (decide (k_49 < (((ByteArray.size (List.getD d_2 (Int.toNat i_4) ((0 : Int), ((0 : Int), ByteArray.empty))).2.2) : Nat) : Int))))))], [(0, .box [.val (.int .i64 d_1), .imm (.slice (.pair (.int .i64) (.pair (.int .i64) .str))) d_2]), (10, .box [.val (.int .i64 (List.getD d_2 (Int.toNat i_4) ((0 : Int), ((0 : Int), ByteArray.empty))).1), .val (.int .i64 (List.getD d_2 (Int.toNat i_4) ((0 : Int), ((0 : Int), ByteArray.empty))).2.1), .val (.string (List.getD d_2 (Int.toNat i_4) ((0 : Int), ((0 : Int), ByteArray.empty))).2.2)]), (13, .row (.pair (.int .i64) (.int .u8)) out_56)], 14⟩ [] (by kernel_rfl) rfl rfl ap0 ?_
        refine VL_cond ((decide (k_49 < (((ByteArray.size (List.getD d_2 (Int.toNat i_4) ((0 : Int), ((0 : Int), ByteArray.empty))).2.2) : Nat) : Int)))) (by kernel_rfl) ?_ ?_
        · intro b_59; have H_102 := of_t H_101 b_59
          refine V_run hN hn 2 14 [1, 3, 4, 5, 6, 24] [0, 10, 13] ⟨[(1, .c (.h 0)), (3, .c (.h 13)), (4, .c (.val (.int .i64 i_4))), (5, .c (.h 10)), (6, .c (.val (.int .i64 k_49))), (24, .c (.val (.bool (decide (k_49 < (((ByteArray.size (List.getD d_2 (Int.toNat i_4) ((0 : Int), ((0 : Int), ByteArray.empty))).2.2) : Nat) : Int))))))], [(0, .box [.val (.int .i64 d_1), .imm (.slice (.pair (.int .i64) (.pair (.int .i64) .str))) d_2]), (10, .box [.val (.int .i64 (List.getD d_2 (Int.toNat i_4) ((0 : Int), ((0 : Int), ByteArray.empty))).1), .val (.int .i64 (List.getD d_2 (Int.toNat i_4) ((0 : Int), ((0 : Int), ByteArray.empty))).2.1), .val (.string (List.getD d_2 (Int.toNat i_4) ((0 : Int), ((0 : Int), ByteArray.empty))).2.2)]), (13, .row (.pair (.int .i64) (.int .u8)) out_56)], 14⟩ [] (by kernel_rfl) rfl rfl ap0 ?_
          refine VL_block ?_
          obtain ⟨c_61, H_104⟩ := of_if H_102
          refine V_run hN hn 1 14 [1, 3, 4, 5, 6] [0, 10, 15] ⟨[(1, .c (.h 0)), (3, .c (.h 15)), (4, .c (.val (.int .i64 i_4))), (5, .c (.h 10)), (6, .c (.val (.int .i64 k_49)))], [(0, .box [.val (.int .i64 d_1), .imm (.slice (.pair (.int .i64) (.pair (.int .i64) .str))) d_2]), (10, .box [.val (.int .i64 (List.getD d_2 (Int.toNat i_4) ((0 : Int), ((0 : Int), ByteArray.empty))).1), .val (.int .i64 (List.getD d_2 (Int.toNat i_4) ((0 : Int), ((0 : Int), ByteArray.empty))).2.1), .val (.string (List.getD d_2 (Int.toNat i_4) ((0 : Int), ((0 : Int), ByteArray.empty))).2.2)]), (15, .row (.pair (.int .i64) (.int .u8)) (out_56 ++ ([((-1 : Int), (bt (List.getD d_2 (Int.toNat i_4) ((0 : Int), ((0 : Int), ByteArray.empty))).2.2 k_49))] : List (Int × Int))))], 16⟩ [0 ≤ k_49, k_49 < (((ByteArray.size (List.getD d_2 (Int.toNat i_4) ((0 : Int), ((0 : Int), ByteArray.empty))).2.2) : Nat) : Int), (List.length out_56 + List.length ([((-1 : Int), (bt (List.getD d_2 (Int.toNat i_4) ((0 : Int), ((0 : Int), ByteArray.empty))).2.2 k_49))] : List (Int × Int))) * 16 ≤ 140737488355328] (by kernel_rfl) rfl rfl (ap2 c_61.1 (ap2 c_61.2.1 (ap1 c_61.2.2))) ?_
          refine VL_nil (QB_end ?_)
          refine V_run hN hn 1 16 [1, 3, 4, 5, 6] [0, 10, 15] ⟨[(1, .c (.h 0)), (3, .c (.h 15)), (4, .c (.val (.int .i64 i_4))), (5, .c (.h 10)), (6, .c (.val (.int .i64 (IntKind.wrap .i64 (k_49 + (1 : Int))))))], [(0, .box [.val (.int .i64 d_1), .imm (.slice (.pair (.int .i64) (.pair (.int .i64) .str))) d_2]), (10, .box [.val (.int .i64 (List.getD d_2 (Int.toNat i_4) ((0 : Int), ((0 : Int), ByteArray.empty))).1), .val (.int .i64 (List.getD d_2 (Int.toNat i_4) ((0 : Int), ((0 : Int), ByteArray.empty))).2.1), .val (.string (List.getD d_2 (Int.toNat i_4) ((0 : Int), ((0 : Int), ByteArray.empty))).2.2)]), (15, .row (.pair (.int .i64) (.int .u8)) (out_56 ++ ([((-1 : Int), (bt (List.getD d_2 (Int.toNat i_4) ((0 : Int), ((0 : Int), ByteArray.empty))).2.2 k_49))] : List (Int × Int))))], 16⟩ [] (by kernel_rfl) rfl rfl ap0 ?_
          refine VL_nil ?_
          exact V_roundEnd ((out_56 ++ ([((-1 : Int), (bt (List.getD d_2 (Int.toNat i_4) ((0 : Int), ((0 : Int), ByteArray.empty))).2.2 k_49))] : List (Int × Int))), (IntKind.wrap .i64 (k_49 + (1 : Int)))) H_104 [(0, 0), (10, 10), (13, 15)] hn (by kernel_rfl) (by kernel_rfl) rfl rfl rfl
        · intro b_59; have H_103 := of_f H_101 b_59
          refine VL_exit ?_
          refine QL_exit ?_
          refine QB_here ?_
          have H_105 := Option.some.inj (show some out_56 = some q_96 from H_103); subst H_105
          refine VL_nil ?_
          exact QP_end out_56 rfl [(0, 0), (10, 10), (13, 13)] hn (by kernel_rfl) (by kernel_rfl) rfl rfl rfl
      · intro y_99 hy; subst hy
        skip
        skip
        refine V_run hN hn 2 14 [1, 3, 4, 5, 7] [0, 10, 13] ⟨[(1, .c (.h 0)), (3, .c (.h 13)), (4, .c (.val (.int .i64 i_4))), (5, .c (.h 10)), (7, .c (.val (.int .i64 (List.getD d_2 (Int.toNat i_4) ((0 : Int), ((0 : Int), ByteArray.empty))).1)))], [(0, .box [.val (.int .i64 d_1), .imm (.slice (.pair (.int .i64) (.pair (.int .i64) .str))) d_2]), (10, .box [.val (.int .i64 (List.getD d_2 (Int.toNat i_4) ((0 : Int), ((0 : Int), ByteArray.empty))).1), .val (.int .i64 (List.getD d_2 (Int.toNat i_4) ((0 : Int), ((0 : Int), ByteArray.empty))).2.1), .val (.string (List.getD d_2 (Int.toNat i_4) ((0 : Int), ((0 : Int), ByteArray.empty))).2.2)]), (13, .row (.pair (.int .i64) (.int .u8)) y_99)], 14⟩ [] (by kernel_rfl) rfl rfl ap0 ?_
        refine VL_block ?_
        refine V_to [(1, .c (.h 0)), (3, .c (.h 16)), (4, .c (.val (.int .i64 i_4))), (5, .c (.h 10)), (7, .c (.val (.int .i64 (List.getD d_2 (Int.toNat i_4) ((0 : Int), ((0 : Int), ByteArray.empty))).1)))] [(0, .box [.val (.int .i64 d_1), .imm (.slice (.pair (.int .i64) (.pair (.int .i64) .str))) d_2]), (10, .box [.val (.int .i64 (List.getD d_2 (Int.toNat i_4) ((0 : Int), ((0 : Int), ByteArray.empty))).1), .val (.int .i64 (List.getD d_2 (Int.toNat i_4) ((0 : Int), ((0 : Int), ByteArray.empty))).2.1), .val (.string (List.getD d_2 (Int.toNat i_4) ((0 : Int), ((0 : Int), ByteArray.empty))).2.2)]), (16, .row (.pair (.int .i64) (.int .u8)) y_99)] [(0, 0), (10, 10), (16, 13)] hn (by kernel_rfl) (by kernel_rfl) rfl rfl rfl ?_
        refine VL_loop (X := ((List (Int × Int)) × Int)) (fun x => [(1, .c (.h 0)), (3, .c (.h 16)), (4, .c (.val (.int .i64 i_4))), (5, .c (.h 10)), (7, .c (.val (.int .i64 x.2)))]) (fun x => [(0, .box [.val (.int .i64 d_1), .imm (.slice (.pair (.int .i64) (.pair (.int .i64) .str))) d_2]), (10, .box [.val (.int .i64 (List.getD d_2 (Int.toNat i_4) ((0 : Int), ((0 : Int), ByteArray.empty))).1), .val (.int .i64 (List.getD d_2 (Int.toNat i_4) ((0 : Int), ((0 : Int), ByteArray.empty))).2.1), .val (.string (List.getD d_2 (Int.toNat i_4) ((0 : Int), ((0 : Int), ByteArray.empty))).2.2)]), (16, .row (.pair (.int .i64) (.int .u8)) x.1)]) (fun k x => palinoderef11_Cells.l2 K d_2 i_4 k x.1 x.2 = some q_91) K (y_99, (List.getD d_2 (Int.toNat i_4) ((0 : Int), ((0 : Int), ByteArray.empty))).1) H_98 (fun _ h => no_none h) ?_
        intro k_73 x_73 H_106
        obtain ⟨out_72, k_65⟩ := x_73
        have H_107 : palinoderef11_Cells.l2 K d_2 i_4 (k_73 + 1) out_72 k_65 = some q_91 := H_106
        rw [palinoderef11_Cells.l2] at H_107
        refine V_run hN hn 3 17 [1, 3, 4, 5, 7, 40] [0, 10, 16] ⟨[(1, .c (.h 0)), (3, .c (.h 16)), (4, .c (.val (.int .i64 i_4))), (5, .c (.h 10)), (7, .c (.val (.int .i64 k_65))), (40, .c (.val (.bool (decide (k_65 < (List.getD d_2 (Int.toNat i_4) ((0 : Int), ((0 : Int), ByteArray.empty))).2.1)))))], [(0, .box [.val (.int .i64 d_1), .imm (.slice (.pair (.int .i64) (.pair (.int .i64) .str))) d_2]), (10, .box [.val (.int .i64 (List.getD d_2 (Int.toNat i_4) ((0 : Int), ((0 : Int), ByteArray.empty))).1), .val (.int .i64 (List.getD d_2 (Int.toNat i_4) ((0 : Int), ((0 : Int), ByteArray.empty))).2.1), .val (.string (List.getD d_2 (Int.toNat i_4) ((0 : Int), ((0 : Int), ByteArray.empty))).2.2)]), (16, .row (.pair (.int .i64) (.int .u8)) out_72)], 17⟩ [] (by kernel_rfl) rfl rfl ap0 ?_
        refine VL_cond ((decide (k_65 < (List.getD d_2 (Int.toNat i_4) ((0 : Int), ((0 : Int), ByteArray.empty))).2.1))) (by kernel_rfl) ?_ ?_
        · intro b_75; have H_108 := of_t H_107 b_75
          refine V_run hN hn 2 17 [1, 3, 4, 5, 7, 40] [0, 10, 16] ⟨[(1, .c (.h 0)), (3, .c (.h 16)), (4, .c (.val (.int .i64 i_4))), (5, .c (.h 10)), (7, .c (.val (.int .i64 k_65))), (40, .c (.val (.bool (decide (k_65 < (List.getD d_2 (Int.toNat i_4) ((0 : Int), ((0 : Int), ByteArray.empty))).2.1)))))], [(0, .box [.val (.int .i64 d_1), .imm (.slice (.pair (.int .i64) (.pair (.int .i64) .str))) d_2]), (10, .box [.val (.int .i64 (List.getD d_2 (Int.toNat i_4) ((0 : Int), ((0 : Int), ByteArray.empty))).1), .val (.int .i64 (List.getD d_2 (Int.toNat i_4) ((0 : Int), ((0 : Int), ByteArray.empty))).2.1), .val (.string (List.getD d_2 (Int.toNat i_4) ((0 : Int), ((0 : Int), ByteArray.empty))).2.2)]), (16, .row (.pair (.int .i64) (.int .u8)) out_72)], 17⟩ [] (by kernel_rfl) rfl rfl ap0 ?_
          refine VL_block ?_
          obtain ⟨c_77, H_110⟩ := of_if H_108
          refine V_run hN hn 1 17 [1, 3, 4, 5, 7] [0, 10, 18] ⟨[(1, .c (.h 0)), (3, .c (.h 18)), (4, .c (.val (.int .i64 i_4))), (5, .c (.h 10)), (7, .c (.val (.int .i64 k_65)))], [(0, .box [.val (.int .i64 d_1), .imm (.slice (.pair (.int .i64) (.pair (.int .i64) .str))) d_2]), (10, .box [.val (.int .i64 (List.getD d_2 (Int.toNat i_4) ((0 : Int), ((0 : Int), ByteArray.empty))).1), .val (.int .i64 (List.getD d_2 (Int.toNat i_4) ((0 : Int), ((0 : Int), ByteArray.empty))).2.1), .val (.string (List.getD d_2 (Int.toNat i_4) ((0 : Int), ((0 : Int), ByteArray.empty))).2.2)]), (18, .row (.pair (.int .i64) (.int .u8)) (out_72 ++ ([(k_65, (0 : Int))] : List (Int × Int))))], 19⟩ [(List.length out_72 + List.length ([(k_65, (0 : Int))] : List (Int × Int))) * 16 ≤ 140737488355328] (by kernel_rfl) rfl rfl (ap1 c_77) ?_
          refine VL_nil (QB_end ?_)
          refine V_run hN hn 1 19 [1, 3, 4, 5, 7] [0, 10, 18] ⟨[(1, .c (.h 0)), (3, .c (.h 18)), (4, .c (.val (.int .i64 i_4))), (5, .c (.h 10)), (7, .c (.val (.int .i64 (IntKind.wrap .i64 (k_65 + (1 : Int))))))], [(0, .box [.val (.int .i64 d_1), .imm (.slice (.pair (.int .i64) (.pair (.int .i64) .str))) d_2]), (10, .box [.val (.int .i64 (List.getD d_2 (Int.toNat i_4) ((0 : Int), ((0 : Int), ByteArray.empty))).1), .val (.int .i64 (List.getD d_2 (Int.toNat i_4) ((0 : Int), ((0 : Int), ByteArray.empty))).2.1), .val (.string (List.getD d_2 (Int.toNat i_4) ((0 : Int), ((0 : Int), ByteArray.empty))).2.2)]), (18, .row (.pair (.int .i64) (.int .u8)) (out_72 ++ ([(k_65, (0 : Int))] : List (Int × Int))))], 19⟩ [] (by kernel_rfl) rfl rfl ap0 ?_
          refine VL_nil ?_
          exact V_roundEnd ((out_72 ++ ([(k_65, (0 : Int))] : List (Int × Int))), (IntKind.wrap .i64 (k_65 + (1 : Int)))) H_110 [(0, 0), (10, 10), (16, 18)] hn (by kernel_rfl) (by kernel_rfl) rfl rfl rfl
        · intro b_75; have H_109 := of_f H_107 b_75
          refine VL_exit ?_
          refine QL_exit ?_
          refine QB_here ?_
          refine VL_nil (QB_end ?_)
          have H_111 := Option.some.inj (show some out_72 = some q_91 from H_109); subst H_111
          refine VL_nil ?_
          exact QP_end out_72 rfl [(0, 0), (16, 16)] hn (by kernel_rfl) (by kernel_rfl) rfl rfl rfl
    · intro y_94 hy; subst hy
      skip
      skip
      refine V_run hN hn 1 17 [1, 3, 4] [0, 16] ⟨[(1, .c (.h 0)), (3, .c (.h 16)), (4, .c (.val (.int .i64 (IntKind.wrap .i64 (i_4 + (1 : Int))))))], [(0, .box [.val (.int .i64 d_1), .imm (.slice (.pair (.int .i64) (.pair (.int .i64) .str))) d_2]), (16, .row (.pair (.int .i64) (.int .u8)) y_94)], 17⟩ [] (by kernel_rfl) rfl rfl ap0 ?_
      refine VL_nil ?_
      exact V_roundEnd (y_94, (IntKind.wrap .i64 (i_4 + (1 : Int)))) H_93 [(0, 0), (9, 16)] hn (by kernel_rfl) (by kernel_rfl) rfl rfl rfl
  · intro b_46; have H_90 := of_f H_88 b_46
    refine VL_exit ?_
    refine QL_exit ?_
    refine QB_here ?_
    refine V_run hN hn 2 10 [2] [9] ⟨[(2, .c (.h 9))], [(9, .row (.pair (.int .i64) (.int .u8)) out_43)], 10⟩ [] (by kernel_rfl) rfl rfl ap0 ?_
    have H_112 := Option.some.inj (show some out_43 = some r from H_90); subst H_112
    refine VL_ret ?_
    exact P_to [(2, .c (.h 9))] [(9, .row (.pair (.int .i64) (.int .u8)) out_43)] [(9, 9)] hn (by kernel_rfl) (by kernel_rfl) rfl rfl rfl (QF_retS (by kernel_rfl) (by kernel_rfl) rfl)

theorem palinoderef11_Told_gr_spec (K : Nat) (base_1 : Int) (l_2 : (List (Int × Int))) (r : (Int × (List (Int × (Int × ByteArray))) × Int)) (H : palinoderef11_Told_gr K base_1 l_2 = some r) : Spec Try.prog 16 1 [.c (.val (.int .i64 base_1)), .c (.h 0)] [(0, .row (.pair (.int .i64) (.int .u8)) l_2)] (.tup [(true, [.val (.int .i64 r.1), .h 12]), (false, [.val (.int .i64 r.2.2)])]) [(0, .row (.pair (.int .i64) (.int .u8)) l_2), (12, .row (.pair (.int .i64) (.pair (.int .i64) .str)) r.2.1)] := by
  refine Spec_mk (fn := Try.f16) (c := (Try.f16.body).get!) Try.func16 (by kernel_rfl) rfl ?_
  intro C hN hn
  replace hN : C.N = 123 := hN
  unfold palinoderef11_Told_gr at H
  refine V_run hN hn 7 1 [1, 4, 6, 7] [0, 1, 2] ⟨[(1, .c (.h 0)), (4, .c (.h 1)), (6, .c (.h 2)), (7, .c (.val (.int .i64 (0 : Int))))], [(0, .row (.pair (.int .i64) (.int .u8)) l_2), (1, .box [.val (.int .i64 (0 : Int)), .val (.slice none 0 0)]), (2, .box [.val (.int .i64 base_1), .val (.slice none 0 0)])], 3⟩ [] (by kernel_rfl) rfl rfl ap0 ?_
  obtain ⟨q_133, H_134, H_135⟩ := of_bind H
  refine V_cut (Y := (List (Int × (Int × ByteArray)))) (R := (List (Int × (Int × ByteArray)))) q_133 (fun y => y) (fun y => [(4, .c (.h 1)), (6, .c (.h 2))]) (fun y => [(0, .row (.pair (.int .i64) (.int .u8)) l_2), (1, .box [.val (.int .i64 (0 : Int)), .val (.slice none 0 0)]), (2, .box [.val (.int .i64 base_1), .h 10]), (10, .row (.pair (.int .i64) (.pair (.int .i64) .str)) y)]) ?_ ?_
  · skip
    refine VL_block ?_
    refine V_ghost [.nilCell 2 1 (.pair (.int .i64) (.pair (.int .i64) .str))] 3 hn [1, 4, 6, 7] [0, 1, 2, 3] ⟨[(1, .c (.h 0)), (4, .c (.h 1)), (6, .c (.h 2)), (7, .c (.val (.int .i64 (0 : Int))))], [(0, .row (.pair (.int .i64) (.int .u8)) l_2), (1, .box [.val (.int .i64 (0 : Int)), .val (.slice none 0 0)]), (2, .box [.val (.int .i64 base_1), .h 3]), (3, .row (.pair (.int .i64) (.pair (.int .i64) .str)) ([] : List (Int × (Int × ByteArray))))], 4⟩ (by kernel_rfl) rfl rfl ?_
    refine V_to [(1, .c (.h 0)), (4, .c (.h 1)), (6, .c (.h 2)), (7, .c (.val (.int .i64 (0 : Int))))] [(0, .row (.pair (.int .i64) (.int .u8)) l_2), (1, .box [.val (.int .i64 (0 : Int)), .val (.slice none 0 0)]), (2, .box [.val (.int .i64 base_1), .h 10]), (10, .row (.pair (.int .i64) (.pair (.int .i64) .str)) ([] : List (Int × (Int × ByteArray))))] [(1, 1), (2, 2), (10, 3)] hn (by kernel_rfl) (by kernel_rfl) rfl rfl rfl ?_
    refine VL_loop (X := ((List (Int × (Int × ByteArray))) × Int)) (fun x => [(1, .c (.h 0)), (4, .c (.h 1)), (6, .c (.h 2)), (7, .c (.val (.int .i64 x.2)))]) (fun x => [(0, .row (.pair (.int .i64) (.int .u8)) l_2), (1, .box [.val (.int .i64 (0 : Int)), .val (.slice none 0 0)]), (2, .box [.val (.int .i64 base_1), .h 10]), (10, .row (.pair (.int .i64) (.pair (.int .i64) .str)) x.1)]) (fun k x => palinoderef11_Told_gr.l0 K l_2 k x.1 x.2 = some q_133) K (([] : List (Int × (Int × ByteArray))), (0 : Int)) H_134 (fun _ h => no_none h) ?_
    intro k_52 x_52 H_137
    obtain ⟨x_51, i_4⟩ := x_52
    have H_138 : palinoderef11_Told_gr.l0 K l_2 (k_52 + 1) x_51 i_4 = some q_133 := H_137
    rw [palinoderef11_Told_gr.l0] at H_138
    refine V_run hN hn 3 11 [1, 4, 6, 7, 16] [0, 1, 2, 10] ⟨[(1, .c (.h 0)), (4, .c (.h 1)), (6, .c (.h 2)), (7, .c (.val (.int .i64 i_4))), (16, .c (.val (.bool (decide (i_4 < (((List.length l_2) : Nat) : Int))))))], [(0, .row (.pair (.int .i64) (.int .u8)) l_2), (1, .box [.val (.int .i64 (0 : Int)), .val (.slice none 0 0)]), (2, .box [.val (.int .i64 base_1), .h 10]), (10, .row (.pair (.int .i64) (.pair (.int .i64) .str)) x_51)], 11⟩ [] (by kernel_rfl) rfl rfl ap0 ?_
    refine VL_cond ((decide (i_4 < (((List.length l_2) : Nat) : Int)))) (by kernel_rfl) ?_ ?_
    · intro b_54; have H_139 := of_t H_138 b_54
      refine V_run hN hn 1 11 [1, 4, 6, 7, 16] [0, 1, 2, 10] ⟨[(1, .c (.h 0)), (4, .c (.h 1)), (6, .c (.h 2)), (7, .c (.val (.int .i64 i_4))), (16, .c (.val (.bool (decide (i_4 < (((List.length l_2) : Nat) : Int))))))], [(0, .row (.pair (.int .i64) (.int .u8)) l_2), (1, .box [.val (.int .i64 (0 : Int)), .val (.slice none 0 0)]), (2, .box [.val (.int .i64 base_1), .h 10]), (10, .row (.pair (.int .i64) (.pair (.int .i64) .str)) x_51)], 11⟩ [] (by kernel_rfl) rfl rfl ap0 ?_
      obtain ⟨q_141, H_142, H_143⟩ := of_bind H_139
      refine V_cut (Y := ((List (Int × (Int × ByteArray))) × Int)) (R := ((List (Int × (Int × ByteArray))) × Int)) q_141 (fun y => y) (fun y => [(1, .c (.h 0)), (4, .c (.h 1)), (6, .c (.h 2)), (7, .c (.val (.int .i64 y.2)))]) (fun y => [(0, .row (.pair (.int .i64) (.int .u8)) l_2), (1, .box [.val (.int .i64 (0 : Int)), .val (.slice none 0 0)]), (2, .box [.val (.int .i64 base_1), .h 17]), (17, .row (.pair (.int .i64) (.pair (.int .i64) .str)) y.1)]) ?_ ?_
      · skip
        refine VL_block ?_
        obtain ⟨c_56, H_145⟩ := of_if H_142
        refine V_run hN hn 5 11 [1, 4, 6, 7, 8, 24] [0, 1, 2, 10] ⟨[(1, .c (.h 0)), (4, .c (.h 1)), (6, .c (.h 2)), (7, .c (.val (.int .i64 i_4))), (8, .c (.val (.int .i64 (IntKind.wrap .i64 (i_4 + (1 : Int)))))), (24, .c (.val (.bool (decide ((List.getD l_2 (Int.toNat i_4) ((0 : Int), (0 : Int))).1 < (0 : Int))))))], [(0, .row (.pair (.int .i64) (.int .u8)) l_2), (1, .box [.val (.int .i64 (0 : Int)), .val (.slice none 0 0)]), (2, .box [.val (.int .i64 base_1), .h 10]), (10, .row (.pair (.int .i64) (.pair (.int .i64) .str)) x_51)], 11⟩ [0 ≤ i_4, i_4 < (((List.length l_2) : Nat) : Int)] (by kernel_rfl) rfl rfl (ap2 c_56.1 (ap1 c_56.2)) ?_
        refine VL_cond ((decide ((List.getD l_2 (Int.toNat i_4) ((0 : Int), (0 : Int))).1 < (0 : Int)))) (by kernel_rfl) ?_ ?_
        · intro b_57; have H_146 := of_t H_145 b_57
          refine V_run hN hn 3 11 [1, 4, 6, 8, 9] [0, 1, 2, 10, 11] ⟨[(1, .c (.h 0)), (4, .c (.h 1)), (6, .c (.h 2)), (8, .c (.val (.int .i64 (IntKind.wrap .i64 (i_4 + (1 : Int)))))), (9, .c (.h 11))], [(0, .row (.pair (.int .i64) (.int .u8)) l_2), (1, .box [.val (.int .i64 (0 : Int)), .val (.slice none 0 0)]), (2, .box [.val (.int .i64 base_1), .h 10]), (10, .row (.pair (.int .i64) (.pair (.int .i64) .str)) x_51), (11, .row (.int .u8) ([(List.getD l_2 (Int.toNat i_4) ((0 : Int), (0 : Int))).2] : List Int))], 12⟩ [0 ≤ i_4, i_4 < (((List.length l_2) : Nat) : Int)] (by kernel_rfl) rfl rfl (ap2 c_56.1 (ap1 c_56.2)) ?_
          obtain ⟨q_148, H_149, H_150⟩ := of_bind H_146
          refine V_cut (Y := (Int × (List Int))) (R := (Int × (List Int))) q_148 (fun y => y) (fun y => [(1, .c (.h 0)), (4, .c (.h 1)), (6, .c (.h 2)), (8, .c (.val (.int .i64 y.1))), (9, .c (.h 14))]) (fun y => [(0, .row (.pair (.int .i64) (.int .u8)) l_2), (1, .box [.val (.int .i64 (0 : Int)), .val (.slice none 0 0)]), (2, .box [.val (.int .i64 base_1), .h 10]), (10, .row (.pair (.int .i64) (.pair (.int .i64) .str)) x_51), (14, .row (.int .u8) y.2)]) ?_ ?_
          · skip
            refine VL_block ?_
            refine V_to [(1, .c (.h 0)), (4, .c (.h 1)), (6, .c (.h 2)), (8, .c (.val (.int .i64 (IntKind.wrap .i64 (i_4 + (1 : Int)))))), (9, .c (.h 14))] [(0, .row (.pair (.int .i64) (.int .u8)) l_2), (1, .box [.val (.int .i64 (0 : Int)), .val (.slice none 0 0)]), (2, .box [.val (.int .i64 base_1), .h 10]), (10, .row (.pair (.int .i64) (.pair (.int .i64) .str)) x_51), (14, .row (.int .u8) ([(List.getD l_2 (Int.toNat i_4) ((0 : Int), (0 : Int))).2] : List Int))] [(1, 1), (2, 2), (10, 10), (14, 11)] hn (by kernel_rfl) (by kernel_rfl) rfl rfl rfl ?_
            refine VL_loop (X := (Int × (List Int))) (fun x => [(1, .c (.h 0)), (4, .c (.h 1)), (6, .c (.h 2)), (8, .c (.val (.int .i64 x.1))), (9, .c (.h 14))]) (fun x => [(0, .row (.pair (.int .i64) (.int .u8)) l_2), (1, .box [.val (.int .i64 (0 : Int)), .val (.slice none 0 0)]), (2, .box [.val (.int .i64 base_1), .h 10]), (10, .row (.pair (.int .i64) (.pair (.int .i64) .str)) x_51), (14, .row (.int .u8) x.2)]) (fun k x => palinoderef11_Told_gr.l1 K l_2 k x.1 x.2 = some q_148) K ((IntKind.wrap .i64 (i_4 + (1 : Int))), ([(List.getD l_2 (Int.toNat i_4) ((0 : Int), (0 : Int))).2] : List Int)) H_149 (fun _ h => no_none h) ?_
            intro k_70 x_70 H_152
            obtain ⟨k_59, t_69⟩ := x_70
            have H_153 : palinoderef11_Told_gr.l1 K l_2 (k_70 + 1) k_59 t_69 = some q_148 := H_152
            rw [palinoderef11_Told_gr.l1] at H_153
            refine V_run hN hn 2 15 [1, 4, 6, 8, 9] [0, 1, 2, 10, 14] ⟨[(1, .c (.h 0)), (4, .c (.h 1)), (6, .c (.h 2)), (8, .c (.val (.int .i64 k_59))), (9, .c (.h 14))], [(0, .row (.pair (.int .i64) (.int .u8)) l_2), (1, .box [.val (.int .i64 (0 : Int)), .val (.slice none 0 0)]), (2, .box [.val (.int .i64 base_1), .h 10]), (10, .row (.pair (.int .i64) (.pair (.int .i64) .str)) x_51), (14, .row (.int .u8) t_69)], 15⟩ [] (by kernel_rfl) rfl rfl ap0 ?_
            obtain ⟨q_154, H_155, H_156⟩ := of_bind H_153
            refine V_cut (Y := Bool) (R := Bool) q_154 (fun y => y) (fun y => [(1, .c (.h 0)), (4, .c (.h 1)), (6, .c (.h 2)), (8, .c (.val (.int .i64 k_59))), (9, .c (.h 14)), (42, .c (.val (.bool y)))]) (fun y => [(0, .row (.pair (.int .i64) (.int .u8)) l_2), (1, .box [.val (.int .i64 (0 : Int)), .val (.slice none 0 0)]), (2, .box [.val (.int .i64 base_1), .h 10]), (10, .row (.pair (.int .i64) (.pair (.int .i64) .str)) x_51), (14, .row (.int .u8) t_69)]) ?_ ?_
            · skip
              rcases Bool.eq_false_or_eq_true ((decide (k_59 < (((List.length l_2) : Nat) : Int)))) with b_72 | b_72
              · have H_158 := of_t H_155 b_72
                obtain ⟨c_73, H_160⟩ := of_if H_158
                refine V_reg hN hn [] [(35, true)] calls_nil 15 [1, 4, 6, 8, 9, 42] [0, 1, 2, 10, 14] ⟨[(1, .c (.h 0)), (4, .c (.h 1)), (6, .c (.h 2)), (8, .c (.val (.int .i64 k_59))), (9, .c (.h 14)), (42, .c (.val (.bool (decide ((List.getD l_2 (Int.toNat k_59) ((0 : Int), (0 : Int))).1 < (0 : Int))))))], [(0, .row (.pair (.int .i64) (.int .u8)) l_2), (1, .box [.val (.int .i64 (0 : Int)), .val (.slice none 0 0)]), (2, .box [.val (.int .i64 base_1), .h 10]), (10, .row (.pair (.int .i64) (.pair (.int .i64) .str)) x_51), (14, .row (.int .u8) t_69)], 15⟩ [(decide (k_59 < (((List.length l_2) : Nat) : Int))) = true, 0 ≤ k_59, k_59 < (((List.length l_2) : Nat) : Int)] (by kernel_rfl) rfl rfl (ap2 b_72 (ap2 c_73.1 (ap1 c_73.2))) (by kernel_rfl) (by kernel_rfl) ?_
                have H_161 := Option.some.inj (show some (decide ((List.getD l_2 (Int.toNat k_59) ((0 : Int), (0 : Int))).1 < (0 : Int))) = some q_154 from H_160); subst H_161
                refine VL_nil ?_
                exact QP_end (decide ((List.getD l_2 (Int.toNat k_59) ((0 : Int), (0 : Int))).1 < (0 : Int))) rfl [(1, 1), (2, 2), (10, 10), (14, 14)] hn (by kernel_rfl) (by kernel_rfl) rfl rfl rfl
              · have H_159 := of_f H_155 b_72
                refine V_reg hN hn [] [(35, false)] calls_nil 15 [1, 4, 6, 8, 9, 42] [0, 1, 2, 10, 14] ⟨[(1, .c (.h 0)), (4, .c (.h 1)), (6, .c (.h 2)), (8, .c (.val (.int .i64 k_59))), (9, .c (.h 14)), (42, .c (.val (.bool false)))], [(0, .row (.pair (.int .i64) (.int .u8)) l_2), (1, .box [.val (.int .i64 (0 : Int)), .val (.slice none 0 0)]), (2, .box [.val (.int .i64 base_1), .h 10]), (10, .row (.pair (.int .i64) (.pair (.int .i64) .str)) x_51), (14, .row (.int .u8) t_69)], 15⟩ [(decide (k_59 < (((List.length l_2) : Nat) : Int))) = false] (by kernel_rfl) rfl rfl (ap1 b_72) (by kernel_rfl) (by kernel_rfl) ?_
                have H_162 := Option.some.inj (show some false = some q_154 from H_159); subst H_162
                refine VL_nil ?_
                exact QP_end false rfl [(1, 1), (2, 2), (10, 10), (14, 14)] hn (by kernel_rfl) (by kernel_rfl) rfl rfl rfl
            · intro y_157 hy; subst hy
              skip
              skip
              refine VL_cond (y_157) (by kernel_rfl) ?_ ?_
              · intro b_76; have H_163 := of_t H_156 b_76
                refine V_run hN hn 1 15 [1, 4, 6, 8, 9, 42] [0, 1, 2, 10, 14] ⟨[(1, .c (.h 0)), (4, .c (.h 1)), (6, .c (.h 2)), (8, .c (.val (.int .i64 k_59))), (9, .c (.h 14)), (42, .c (.val (.bool y_157)))], [(0, .row (.pair (.int .i64) (.int .u8)) l_2), (1, .box [.val (.int .i64 (0 : Int)), .val (.slice none 0 0)]), (2, .box [.val (.int .i64 base_1), .h 10]), (10, .row (.pair (.int .i64) (.pair (.int .i64) .str)) x_51), (14, .row (.int .u8) t_69)], 15⟩ [] (by kernel_rfl) rfl rfl ap0 ?_
                refine VL_block ?_
                obtain ⟨c_78, H_165⟩ := of_if H_163
                refine V_run hN hn 3 15 [1, 4, 6, 8, 9] [0, 1, 2, 10, 16] ⟨[(1, .c (.h 0)), (4, .c (.h 1)), (6, .c (.h 2)), (8, .c (.val (.int .i64 (IntKind.wrap .i64 (k_59 + (1 : Int)))))), (9, .c (.h 16))], [(0, .row (.pair (.int .i64) (.int .u8)) l_2), (1, .box [.val (.int .i64 (0 : Int)), .val (.slice none 0 0)]), (2, .box [.val (.int .i64 base_1), .h 10]), (10, .row (.pair (.int .i64) (.pair (.int .i64) .str)) x_51), (16, .row (.int .u8) (t_69 ++ ([(List.getD l_2 (Int.toNat k_59) ((0 : Int), (0 : Int))).2] : List Int)))], 17⟩ [0 ≤ k_59, k_59 < (((List.length l_2) : Nat) : Int), (List.length t_69 + List.length ([(List.getD l_2 (Int.toNat k_59) ((0 : Int), (0 : Int))).2] : List Int)) * 1 ≤ 140737488355328] (by kernel_rfl) rfl rfl (ap2 c_78.1 (ap2 c_78.2.1 (ap1 c_78.2.2))) ?_
                refine VL_nil (QB_end ?_)
                refine VL_nil ?_
                exact V_roundEnd ((IntKind.wrap .i64 (k_59 + (1 : Int))), (t_69 ++ ([(List.getD l_2 (Int.toNat k_59) ((0 : Int), (0 : Int))).2] : List Int))) H_165 [(1, 1), (2, 2), (10, 10), (14, 16)] hn (by kernel_rfl) (by kernel_rfl) rfl rfl rfl
              · intro b_76; have H_164 := of_f H_156 b_76
                refine VL_exit ?_
                refine QL_exit ?_
                refine QB_here ?_
                have H_166 := Option.some.inj (show some (k_59, t_69) = some q_148 from H_164); subst H_166
                refine VL_nil ?_
                exact QP_end (k_59, t_69) rfl [(1, 1), (2, 2), (10, 10), (14, 14)] hn (by kernel_rfl) (by kernel_rfl) rfl rfl rfl
          · intro y_151 hy; subst hy
            obtain ⟨k_79, t_80⟩ := y_151
            obtain ⟨c_81, H_167⟩ := of_if H_150
            refine V_run hN hn 2 15 [1, 4, 6, 7] [0, 1, 2, 16] ⟨[(1, .c (.h 0)), (4, .c (.h 1)), (6, .c (.h 2)), (7, .c (.val (.int .i64 k_79)))], [(0, .row (.pair (.int .i64) (.int .u8)) l_2), (1, .box [.val (.int .i64 (0 : Int)), .val (.slice none 0 0)]), (2, .box [.val (.int .i64 base_1), .h 16]), (16, .row (.pair (.int .i64) (.pair (.int .i64) .str)) (x_51 ++ ([((0 : Int), ((0 : Int), (ofBytes t_80)))] : List (Int × (Int × ByteArray)))))], 17⟩ [(List.length x_51 + List.length ([((0 : Int), ((0 : Int), (ofBytes t_80)))] : List (Int × (Int × ByteArray)))) * 32 ≤ 140737488355328] (by kernel_rfl) rfl rfl (ap1 c_81) ?_
            refine VL_nil (QB_end ?_)
            have H_168 := Option.some.inj (show some ((x_51 ++ ([((0 : Int), ((0 : Int), (ofBytes t_80)))] : List (Int × (Int × ByteArray)))), k_79) = some q_141 from H_167); subst H_168
            refine VL_nil ?_
            exact QP_end ((x_51 ++ ([((0 : Int), ((0 : Int), (ofBytes t_80)))] : List (Int × (Int × ByteArray)))), k_79) rfl [(1, 1), (2, 2), (17, 16)] hn (by kernel_rfl) (by kernel_rfl) rfl rfl rfl
        · intro b_57; have H_147 := of_f H_145 b_57
          refine V_run hN hn 1 11 [1, 4, 6, 7, 8, 24] [0, 1, 2, 10] ⟨[(1, .c (.h 0)), (4, .c (.h 1)), (6, .c (.h 2)), (7, .c (.val (.int .i64 i_4))), (8, .c (.val (.int .i64 (IntKind.wrap .i64 (i_4 + (1 : Int)))))), (24, .c (.val (.bool (decide ((List.getD l_2 (Int.toNat i_4) ((0 : Int), (0 : Int))).1 < (0 : Int))))))], [(0, .row (.pair (.int .i64) (.int .u8)) l_2), (1, .box [.val (.int .i64 (0 : Int)), .val (.slice none 0 0)]), (2, .box [.val (.int .i64 base_1), .h 10]), (10, .row (.pair (.int .i64) (.pair (.int .i64) .str)) x_51)], 11⟩ [] (by kernel_rfl) rfl rfl ap0 ?_
          obtain ⟨q_169, H_170, H_171⟩ := of_bind H_147
          refine V_cut (Y := Int) (R := Int) q_169 (fun y => y) (fun y => [(1, .c (.h 0)), (4, .c (.h 1)), (6, .c (.h 2)), (7, .c (.val (.int .i64 i_4))), (8, .c (.val (.int .i64 y)))]) (fun y => [(0, .row (.pair (.int .i64) (.int .u8)) l_2), (1, .box [.val (.int .i64 (0 : Int)), .val (.slice none 0 0)]), (2, .box [.val (.int .i64 base_1), .h 10]), (10, .row (.pair (.int .i64) (.pair (.int .i64) .str)) x_51)]) ?_ ?_
          · skip
            refine VL_block ?_
            refine V_to [(1, .c (.h 0)), (4, .c (.h 1)), (6, .c (.h 2)), (7, .c (.val (.int .i64 i_4))), (8, .c (.val (.int .i64 (IntKind.wrap .i64 (i_4 + (1 : Int))))))] [(0, .row (.pair (.int .i64) (.int .u8)) l_2), (1, .box [.val (.int .i64 (0 : Int)), .val (.slice none 0 0)]), (2, .box [.val (.int .i64 base_1), .h 10]), (10, .row (.pair (.int .i64) (.pair (.int .i64) .str)) x_51)] [(1, 1), (2, 2), (10, 10)] hn (by kernel_rfl) (by kernel_rfl) rfl rfl rfl ?_
            refine VL_loop (X := Int) (fun x => [(1, .c (.h 0)), (4, .c (.h 1)), (6, .c (.h 2)), (7, .c (.val (.int .i64 i_4))), (8, .c (.val (.int .i64 x)))]) (fun x => [(0, .row (.pair (.int .i64) (.int .u8)) l_2), (1, .box [.val (.int .i64 (0 : Int)), .val (.slice none 0 0)]), (2, .box [.val (.int .i64 base_1), .h 10]), (10, .row (.pair (.int .i64) (.pair (.int .i64) .str)) x_51)]) (fun k x => palinoderef11_Told_gr.l2 K l_2 k x = some q_169) K (IntKind.wrap .i64 (i_4 + (1 : Int))) H_170 (fun _ h => no_none h) ?_
            intro k_84 k_83 H_173
            have H_174 : palinoderef11_Told_gr.l2 K l_2 (k_84 + 1) k_83 = some q_169 := H_173
            rw [palinoderef11_Told_gr.l2] at H_174
            refine V_run hN hn 2 11 [1, 4, 6, 7, 8] [0, 1, 2, 10] ⟨[(1, .c (.h 0)), (4, .c (.h 1)), (6, .c (.h 2)), (7, .c (.val (.int .i64 i_4))), (8, .c (.val (.int .i64 k_83)))], [(0, .row (.pair (.int .i64) (.int .u8)) l_2), (1, .box [.val (.int .i64 (0 : Int)), .val (.slice none 0 0)]), (2, .box [.val (.int .i64 base_1), .h 10]), (10, .row (.pair (.int .i64) (.pair (.int .i64) .str)) x_51)], 11⟩ [] (by kernel_rfl) rfl rfl ap0 ?_
            obtain ⟨q_175, H_176, H_177⟩ := of_bind H_174
            refine V_cut (Y := Bool) (R := Bool) q_175 (fun y => y) (fun y => [(1, .c (.h 0)), (4, .c (.h 1)), (6, .c (.h 2)), (7, .c (.val (.int .i64 i_4))), (8, .c (.val (.int .i64 k_83))), (79, .c (.val (.bool y)))]) (fun y => [(0, .row (.pair (.int .i64) (.int .u8)) l_2), (1, .box [.val (.int .i64 (0 : Int)), .val (.slice none 0 0)]), (2, .box [.val (.int .i64 base_1), .h 10]), (10, .row (.pair (.int .i64) (.pair (.int .i64) .str)) x_51)]) ?_ ?_
            · skip
              rcases Bool.eq_false_or_eq_true ((decide (k_83 < (((List.length l_2) : Nat) : Int)))) with b_86 | b_86
              · have H_179 := of_t H_176 b_86
                obtain ⟨c_87, H_181⟩ := of_if H_179
                refine V_draw hN hn (by kernel_rfl) [] [(65, true)] calls_nil 11 [1, 4, 6, 7, 8, 79] [0, 1, 2, 10] ⟨[(1, .c (.h 0)), (4, .c (.h 1)), (6, .c (.h 2)), (7, .c (.val (.int .i64 i_4))), (8, .c (.val (.int .i64 k_83))), (79, .c (.val (.bool ((List.getD l_2 (Int.toNat k_83) ((0 : Int), (0 : Int))).1 == (IntKind.wrap .i64 ((List.getD l_2 (Int.toNat (IntKind.wrap .i64 (k_83 - (1 : Int)))) ((0 : Int), (0 : Int))).1 + (1 : Int)))))))], [(0, .row (.pair (.int .i64) (.int .u8)) l_2), (1, .box [.val (.int .i64 (0 : Int)), .val (.slice none 0 0)]), (2, .box [.val (.int .i64 base_1), .h 10]), (10, .row (.pair (.int .i64) (.pair (.int .i64) .str)) x_51)], 11⟩ [(decide (k_83 < (((List.length l_2) : Nat) : Int))) = true, 0 ≤ k_83, k_83 < (((List.length l_2) : Nat) : Int), 0 ≤ (IntKind.wrap .i64 (k_83 - (1 : Int))), (IntKind.wrap .i64 (k_83 - (1 : Int))) < (((List.length l_2) : Nat) : Int)] (by kernel_rfl) rfl rfl (ap2 b_86 (ap2 c_87.1 (ap2 c_87.2.1 (ap2 c_87.2.2.1 (ap1 c_87.2.2.2))))) (by kernel_rfl) (by kernel_rfl) ?_
                have H_182 := Option.some.inj (show some ((List.getD l_2 (Int.toNat k_83) ((0 : Int), (0 : Int))).1 == (IntKind.wrap .i64 ((List.getD l_2 (Int.toNat (IntKind.wrap .i64 (k_83 - (1 : Int)))) ((0 : Int), (0 : Int))).1 + (1 : Int)))) = some q_175 from H_181); subst H_182
                refine VL_nil ?_
                exact QP_end ((List.getD l_2 (Int.toNat k_83) ((0 : Int), (0 : Int))).1 == (IntKind.wrap .i64 ((List.getD l_2 (Int.toNat (IntKind.wrap .i64 (k_83 - (1 : Int)))) ((0 : Int), (0 : Int))).1 + (1 : Int)))) rfl [(1, 1), (2, 2), (10, 10)] hn (by kernel_rfl) (by kernel_rfl) rfl rfl rfl
              · have H_180 := of_f H_176 b_86
                refine V_draw hN hn (by kernel_rfl) [] [(65, false)] calls_nil 11 [1, 4, 6, 7, 8, 79] [0, 1, 2, 10] ⟨[(1, .c (.h 0)), (4, .c (.h 1)), (6, .c (.h 2)), (7, .c (.val (.int .i64 i_4))), (8, .c (.val (.int .i64 k_83))), (79, .c (.val (.bool false)))], [(0, .row (.pair (.int .i64) (.int .u8)) l_2), (1, .box [.val (.int .i64 (0 : Int)), .val (.slice none 0 0)]), (2, .box [.val (.int .i64 base_1), .h 10]), (10, .row (.pair (.int .i64) (.pair (.int .i64) .str)) x_51)], 11⟩ [(decide (k_83 < (((List.length l_2) : Nat) : Int))) = false] (by kernel_rfl) rfl rfl (ap1 b_86) (by kernel_rfl) (by kernel_rfl) ?_
                have H_183 := Option.some.inj (show some false = some q_175 from H_180); subst H_183
                refine VL_nil ?_
                exact QP_end false rfl [(1, 1), (2, 2), (10, 10)] hn (by kernel_rfl) (by kernel_rfl) rfl rfl rfl
            · intro y_178 hy; subst hy
              skip
              skip
              refine VL_cond (y_178) (by kernel_rfl) ?_ ?_
              · intro b_90; have H_184 := of_t H_177 b_90
                refine V_run hN hn 1 11 [1, 4, 6, 7, 8, 79] [0, 1, 2, 10] ⟨[(1, .c (.h 0)), (4, .c (.h 1)), (6, .c (.h 2)), (7, .c (.val (.int .i64 i_4))), (8, .c (.val (.int .i64 k_83))), (79, .c (.val (.bool y_178)))], [(0, .row (.pair (.int .i64) (.int .u8)) l_2), (1, .box [.val (.int .i64 (0 : Int)), .val (.slice none 0 0)]), (2, .box [.val (.int .i64 base_1), .h 10]), (10, .row (.pair (.int .i64) (.pair (.int .i64) .str)) x_51)], 11⟩ [] (by kernel_rfl) rfl rfl ap0 ?_
                refine VL_block ?_
                refine V_run hN hn 1 11 [1, 4, 6, 7, 8] [0, 1, 2, 10] ⟨[(1, .c (.h 0)), (4, .c (.h 1)), (6, .c (.h 2)), (7, .c (.val (.int .i64 i_4))), (8, .c (.val (.int .i64 (IntKind.wrap .i64 (k_83 + (1 : Int))))))], [(0, .row (.pair (.int .i64) (.int .u8)) l_2), (1, .box [.val (.int .i64 (0 : Int)), .val (.slice none 0 0)]), (2, .box [.val (.int .i64 base_1), .h 10]), (10, .row (.pair (.int .i64) (.pair (.int .i64) .str)) x_51)], 11⟩ [] (by kernel_rfl) rfl rfl ap0 ?_
                refine VL_nil (QB_end ?_)
                refine VL_nil ?_
                exact V_roundEnd (IntKind.wrap .i64 (k_83 + (1 : Int))) H_184 [(1, 1), (2, 2), (10, 10)] hn (by kernel_rfl) (by kernel_rfl) rfl rfl rfl
              · intro b_90; have H_185 := of_f H_177 b_90
                refine VL_exit ?_
                refine QL_exit ?_
                refine QB_here ?_
                have H_186 := Option.some.inj (show some k_83 = some q_169 from H_185); subst H_186
                refine VL_nil ?_
                exact QP_end k_83 rfl [(1, 1), (2, 2), (10, 10)] hn (by kernel_rfl) (by kernel_rfl) rfl rfl rfl
          · intro y_172 hy; subst hy
            skip
            skip
            obtain ⟨c_94, H_187⟩ := of_if H_171
            refine V_draw hN hn (by kernel_rfl) [] [] calls_nil 11 [1, 4, 6, 8] [0, 1, 2, 12] ⟨[(1, .c (.h 0)), (4, .c (.h 1)), (6, .c (.h 2)), (8, .c (.val (.int .i64 y_172)))], [(0, .row (.pair (.int .i64) (.int .u8)) l_2), (1, .box [.val (.int .i64 (0 : Int)), .val (.slice none 0 0)]), (2, .box [.val (.int .i64 base_1), .h 12]), (12, .row (.pair (.int .i64) (.pair (.int .i64) .str)) (x_51 ++ ([((List.getD l_2 (Int.toNat i_4) ((0 : Int), (0 : Int))).1, ((IntKind.wrap .i64 ((List.getD l_2 (Int.toNat (IntKind.wrap .i64 (y_172 - (1 : Int)))) ((0 : Int), (0 : Int))).1 + (1 : Int))), ByteArray.empty))] : List (Int × (Int × ByteArray)))))], 13⟩ [0 ≤ i_4, i_4 < (((List.length l_2) : Nat) : Int), 0 ≤ (IntKind.wrap .i64 (y_172 - (1 : Int))), (IntKind.wrap .i64 (y_172 - (1 : Int))) < (((List.length l_2) : Nat) : Int), (List.length x_51 + List.length ([((List.getD l_2 (Int.toNat i_4) ((0 : Int), (0 : Int))).1, ((IntKind.wrap .i64 ((List.getD l_2 (Int.toNat (IntKind.wrap .i64 (y_172 - (1 : Int)))) ((0 : Int), (0 : Int))).1 + (1 : Int))), ByteArray.empty))] : List (Int × (Int × ByteArray)))) * 32 ≤ 140737488355328] (by kernel_rfl) rfl rfl (ap2 c_56.1 (ap2 c_56.2 (ap2 c_94.1 (ap2 c_94.2.1 (ap1 c_94.2.2))))) (by kernel_rfl) (by kernel_rfl) ?_
            refine V_run hN hn 1 13 [1, 4, 6, 7] [0, 1, 2, 12] ⟨[(1, .c (.h 0)), (4, .c (.h 1)), (6, .c (.h 2)), (7, .c (.val (.int .i64 y_172)))], [(0, .row (.pair (.int .i64) (.int .u8)) l_2), (1, .box [.val (.int .i64 (0 : Int)), .val (.slice none 0 0)]), (2, .box [.val (.int .i64 base_1), .h 12]), (12, .row (.pair (.int .i64) (.pair (.int .i64) .str)) (x_51 ++ ([((List.getD l_2 (Int.toNat i_4) ((0 : Int), (0 : Int))).1, ((IntKind.wrap .i64 ((List.getD l_2 (Int.toNat (IntKind.wrap .i64 (y_172 - (1 : Int)))) ((0 : Int), (0 : Int))).1 + (1 : Int))), ByteArray.empty))] : List (Int × (Int × ByteArray)))))], 13⟩ [] (by kernel_rfl) rfl rfl ap0 ?_
            refine VL_nil (QB_end ?_)
            have H_188 := Option.some.inj (show some ((x_51 ++ ([((List.getD l_2 (Int.toNat i_4) ((0 : Int), (0 : Int))).1, ((IntKind.wrap .i64 ((List.getD l_2 (Int.toNat (IntKind.wrap .i64 (y_172 - (1 : Int)))) ((0 : Int), (0 : Int))).1 + (1 : Int))), ByteArray.empty))] : List (Int × (Int × ByteArray)))), y_172) = some q_141 from H_187); subst H_188
            refine VL_nil ?_
            exact QP_end ((x_51 ++ ([((List.getD l_2 (Int.toNat i_4) ((0 : Int), (0 : Int))).1, ((IntKind.wrap .i64 ((List.getD l_2 (Int.toNat (IntKind.wrap .i64 (y_172 - (1 : Int)))) ((0 : Int), (0 : Int))).1 + (1 : Int))), ByteArray.empty))] : List (Int × (Int × ByteArray)))), y_172) rfl [(1, 1), (2, 2), (17, 12)] hn (by kernel_rfl) (by kernel_rfl) rfl rfl rfl
      · intro y_144 hy; subst hy
        obtain ⟨x_96, i_97⟩ := y_144
        refine VL_nil ?_
        exact V_roundEnd (x_96, i_97) H_143 [(1, 1), (2, 2), (10, 17)] hn (by kernel_rfl) (by kernel_rfl) rfl rfl rfl
    · intro b_54; have H_140 := of_f H_138 b_54
      refine VL_exit ?_
      refine QL_exit ?_
      refine QB_here ?_
      have H_189 := Option.some.inj (show some x_51 = some q_133 from H_140); subst H_189
      refine VL_nil ?_
      exact QP_end x_51 rfl [(1, 1), (2, 2), (10, 10)] hn (by kernel_rfl) (by kernel_rfl) rfl rfl rfl
  · intro y_136 hy; subst hy
    skip
    skip
    refine V_run hN hn 3 11 [4, 6, 10] [0, 1, 2, 10] ⟨[(4, .c (.h 1)), (6, .c (.h 2)), (10, .c (.val (.int .i64 (0 : Int))))], [(0, .row (.pair (.int .i64) (.int .u8)) l_2), (1, .box [.val (.int .i64 (0 : Int)), .val (.slice none 0 0)]), (2, .box [.val (.int .i64 base_1), .h 10]), (10, .row (.pair (.int .i64) (.pair (.int .i64) .str)) y_136)], 11⟩ [] (by kernel_rfl) rfl rfl ap0 ?_
    obtain ⟨q_190, H_191, H_192⟩ := of_bind H_135
    refine V_cut (Y := Unit) (R := ((Int × (List (Int × (Int × ByteArray))) × Int) ⊕ Unit)) q_190 (fun y => (Sum.inr y)) (fun y => [(4, .c (.h 1)), (6, .c (.h 2))]) (fun y => [(0, .row (.pair (.int .i64) (.int .u8)) l_2), (1, .box [.val (.int .i64 (0 : Int)), .val (.slice none 0 0)]), (2, .box [.val (.int .i64 base_1), .h 10]), (10, .row (.pair (.int .i64) (.pair (.int .i64) .str)) y_136)]) ?_ ?_
    · skip
      refine VL_block ?_
      refine V_to [(4, .c (.h 1)), (6, .c (.h 2)), (10, .c (.val (.int .i64 (0 : Int))))] [(0, .row (.pair (.int .i64) (.int .u8)) l_2), (1, .box [.val (.int .i64 (0 : Int)), .val (.slice none 0 0)]), (2, .box [.val (.int .i64 base_1), .h 10]), (10, .row (.pair (.int .i64) (.pair (.int .i64) .str)) y_136)] [(1, 1), (2, 2), (10, 10)] hn (by kernel_rfl) (by kernel_rfl) rfl rfl rfl ?_
      refine VL_loop (X := Int) (fun x => [(4, .c (.h 1)), (6, .c (.h 2)), (10, .c (.val (.int .i64 x)))]) (fun x => [(0, .row (.pair (.int .i64) (.int .u8)) l_2), (1, .box [.val (.int .i64 (0 : Int)), .val (.slice none 0 0)]), (2, .box [.val (.int .i64 base_1), .h 10]), (10, .row (.pair (.int .i64) (.pair (.int .i64) .str)) y_136)]) (fun k x => palinoderef11_Told_gr.l3 K y_136 k x = some q_190) K (0 : Int) H_191 (fun _ h => no_none h) ?_
      intro k_101 k_100 H_194
      have H_195 : palinoderef11_Told_gr.l3 K y_136 (k_101 + 1) k_100 = some q_190 := H_194
      rw [palinoderef11_Told_gr.l3] at H_195
      refine V_run hN hn 3 11 [4, 6, 10, 105] [0, 1, 2, 10] ⟨[(4, .c (.h 1)), (6, .c (.h 2)), (10, .c (.val (.int .i64 k_100))), (105, .c (.val (.bool (decide (k_100 < (((List.length y_136) : Nat) : Int))))))], [(0, .row (.pair (.int .i64) (.int .u8)) l_2), (1, .box [.val (.int .i64 (0 : Int)), .val (.slice none 0 0)]), (2, .box [.val (.int .i64 base_1), .h 10]), (10, .row (.pair (.int .i64) (.pair (.int .i64) .str)) y_136)], 11⟩ [] (by kernel_rfl) rfl rfl ap0 ?_
      refine VL_cond ((decide (k_100 < (((List.length y_136) : Nat) : Int)))) (by kernel_rfl) ?_ ?_
      · intro b_103; have H_196 := of_t H_195 b_103
        refine V_run hN hn 2 11 [4, 6, 10, 105] [0, 1, 2, 10] ⟨[(4, .c (.h 1)), (6, .c (.h 2)), (10, .c (.val (.int .i64 k_100))), (105, .c (.val (.bool (decide (k_100 < (((List.length y_136) : Nat) : Int))))))], [(0, .row (.pair (.int .i64) (.int .u8)) l_2), (1, .box [.val (.int .i64 (0 : Int)), .val (.slice none 0 0)]), (2, .box [.val (.int .i64 base_1), .h 10]), (10, .row (.pair (.int .i64) (.pair (.int .i64) .str)) y_136)], 11⟩ [] (by kernel_rfl) rfl rfl ap0 ?_
        refine VL_block ?_
        refine V_run hN hn 1 11 [4, 6, 10, 105] [0, 1, 2, 10] ⟨[(4, .c (.h 1)), (6, .c (.h 2)), (10, .c (.val (.int .i64 k_100))), (105, .c (.val (.bool (decide (k_100 < (((List.length y_136) : Nat) : Int))))))], [(0, .row (.pair (.int .i64) (.int .u8)) l_2), (1, .box [.val (.int .i64 (0 : Int)), .val (.slice none 0 0)]), (2, .box [.val (.int .i64 base_1), .h 10]), (10, .row (.pair (.int .i64) (.pair (.int .i64) .str)) y_136)], 11⟩ [] (by kernel_rfl) rfl rfl ap0 ?_
        obtain ⟨r_106, h_107, H_198⟩ := of_bind H_196
        obtain ⟨c_108, H_199⟩ := of_if H_198
        refine V_reg hN hn [(6, ⟨46, 0, [.c (.val (.string (List.getD y_136 (Int.toNat k_100) ((0 : Int), ((0 : Int), ByteArray.empty))).2.2))], [], .c (.val (.bool r_106)), [], [], 11⟩)] [] (calls_cons (palinoderef1_Valid_spec K (List.getD y_136 (Int.toNat k_100) ((0 : Int), ((0 : Int), ByteArray.empty))).2.2 r_106 h_107) (by kernel_rfl) calls_nil) 11 [4, 6, 10, 115] [0, 1, 2, 10] ⟨[(4, .c (.h 1)), (6, .c (.h 2)), (10, .c (.val (.int .i64 k_100))), (115, .c (.val (.bool (!r_106))))], [(0, .row (.pair (.int .i64) (.int .u8)) l_2), (1, .box [.val (.int .i64 (0 : Int)), .val (.slice none 0 0)]), (2, .box [.val (.int .i64 base_1), .h 10]), (10, .row (.pair (.int .i64) (.pair (.int .i64) .str)) y_136)], 11⟩ [0 ≤ k_100, k_100 < (((List.length y_136) : Nat) : Int)] (by kernel_rfl) rfl rfl (ap2 c_108.1 (ap1 c_108.2)) (by kernel_rfl) (by kernel_rfl) ?_
        refine VL_cond ((!r_106)) (by kernel_rfl) ?_ ?_
        · intro b_109; have H_200 := of_t H_199 b_109
          refine V_run hN hn 2 11 [4, 5] [0, 1] ⟨[(4, .c (.h 1)), (5, .c (.val (.int .i64 (12 : Int))))], [(0, .row (.pair (.int .i64) (.int .u8)) l_2), (1, .box [.val (.int .i64 (0 : Int)), .val (.slice none 0 0)])], 11⟩ [] (by kernel_rfl) rfl rfl ap0 ?_
          have H_202 := Option.some.inj (show some (Sum.inl ((0 : Int), ([] : List (Int × (Int × ByteArray))), (12 : Int))) = some q_190 from H_200); subst H_202
          have H_203 := Option.some.inj (show some ((0 : Int), ([] : List (Int × (Int × ByteArray))), (12 : Int)) = some r from H_192); subst H_203
          refine VL_ret ?_
          refine QB_ret ?_
          refine QL_ret ?_
          refine QB_ret ?_
          refine QP_ret ?_
          refine P_ghost [.nilCell 1 1 (.pair (.int .i64) (.pair (.int .i64) .str))] 11 hn [4, 5] [0, 1, 11] ⟨[(4, .c (.h 1)), (5, .c (.val (.int .i64 (12 : Int))))], [(0, .row (.pair (.int .i64) (.int .u8)) l_2), (1, .box [.val (.int .i64 (0 : Int)), .h 11]), (11, .row (.pair (.int .i64) (.pair (.int .i64) .str)) ([] : List (Int × (Int × ByteArray))))], 12⟩ (by kernel_rfl) rfl rfl ?_
          exact P_to [(4, .c (.h 1)), (5, .c (.val (.int .i64 (12 : Int))))] [(0, .row (.pair (.int .i64) (.int .u8)) l_2), (1, .box [.val (.int .i64 (0 : Int)), .h 12]), (12, .row (.pair (.int .i64) (.pair (.int .i64) .str)) ([] : List (Int × (Int × ByteArray))))] [(1, 1), (12, 11)] hn (by kernel_rfl) (by kernel_rfl) rfl rfl rfl (QF_retS (by kernel_rfl) (by kernel_rfl) rfl)
        · intro b_109; have H_201 := of_f H_199 b_109
          refine V_run hN hn 1 11 [4, 6, 10, 115] [0, 1, 2, 10] ⟨[(4, .c (.h 1)), (6, .c (.h 2)), (10, .c (.val (.int .i64 k_100))), (115, .c (.val (.bool (!r_106))))], [(0, .row (.pair (.int .i64) (.int .u8)) l_2), (1, .box [.val (.int .i64 (0 : Int)), .val (.slice none 0 0)]), (2, .box [.val (.int .i64 base_1), .h 10]), (10, .row (.pair (.int .i64) (.pair (.int .i64) .str)) y_136)], 11⟩ [] (by kernel_rfl) rfl rfl ap0 ?_
          refine VL_nil (QB_end ?_)
          refine V_run hN hn 1 11 [4, 6, 10] [0, 1, 2, 10] ⟨[(4, .c (.h 1)), (6, .c (.h 2)), (10, .c (.val (.int .i64 (IntKind.wrap .i64 (k_100 + (1 : Int))))))], [(0, .row (.pair (.int .i64) (.int .u8)) l_2), (1, .box [.val (.int .i64 (0 : Int)), .val (.slice none 0 0)]), (2, .box [.val (.int .i64 base_1), .h 10]), (10, .row (.pair (.int .i64) (.pair (.int .i64) .str)) y_136)], 11⟩ [] (by kernel_rfl) rfl rfl ap0 ?_
          refine VL_nil ?_
          exact V_roundEnd (IntKind.wrap .i64 (k_100 + (1 : Int))) H_201 [(1, 1), (2, 2), (10, 10)] hn (by kernel_rfl) (by kernel_rfl) rfl rfl rfl
      · intro b_103; have H_197 := of_f H_195 b_103
        refine VL_exit ?_
        refine QL_exit ?_
        refine QB_here ?_
        have H_204 := Option.some.inj (show some (Sum.inr ()) = some q_190 from H_197); subst H_204
        refine VL_nil ?_
        exact QP_end () rfl [(1, 1), (2, 2), (10, 10)] hn (by kernel_rfl) (by kernel_rfl) rfl rfl rfl
    · intro y_193 hy; subst hy
      skip
      refine V_run hN hn 3 11 [4, 6, 120] [0, 1, 2, 10] ⟨[(4, .c (.h 1)), (6, .c (.h 2)), (120, .c (.val (.bool (decide ((((List.length y_136) : Nat) : Int) > (60 : Int))))))], [(0, .row (.pair (.int .i64) (.int .u8)) l_2), (1, .box [.val (.int .i64 (0 : Int)), .val (.slice none 0 0)]), (2, .box [.val (.int .i64 base_1), .h 10]), (10, .row (.pair (.int .i64) (.pair (.int .i64) .str)) y_136)], 11⟩ [] (by kernel_rfl) rfl rfl ap0 ?_
      refine VL_cond ((decide ((((List.length y_136) : Nat) : Int) > (60 : Int)))) (by kernel_rfl) ?_ ?_
      · intro b_114; have H_205 := of_t H_192 b_114
        refine V_run hN hn 2 11 [4, 5] [0, 1] ⟨[(4, .c (.h 1)), (5, .c (.val (.int .i64 (70 : Int))))], [(0, .row (.pair (.int .i64) (.int .u8)) l_2), (1, .box [.val (.int .i64 (0 : Int)), .val (.slice none 0 0)])], 11⟩ [] (by kernel_rfl) rfl rfl ap0 ?_
        have H_207 := Option.some.inj (show some ((0 : Int), ([] : List (Int × (Int × ByteArray))), (70 : Int)) = some r from H_205); subst H_207
        refine VL_ret ?_
        refine P_ghost [.nilCell 1 1 (.pair (.int .i64) (.pair (.int .i64) .str))] 11 hn [4, 5] [0, 1, 11] ⟨[(4, .c (.h 1)), (5, .c (.val (.int .i64 (70 : Int))))], [(0, .row (.pair (.int .i64) (.int .u8)) l_2), (1, .box [.val (.int .i64 (0 : Int)), .h 11]), (11, .row (.pair (.int .i64) (.pair (.int .i64) .str)) ([] : List (Int × (Int × ByteArray))))], 12⟩ (by kernel_rfl) rfl rfl ?_
        exact P_to [(4, .c (.h 1)), (5, .c (.val (.int .i64 (70 : Int))))] [(0, .row (.pair (.int .i64) (.int .u8)) l_2), (1, .box [.val (.int .i64 (0 : Int)), .h 12]), (12, .row (.pair (.int .i64) (.pair (.int .i64) .str)) ([] : List (Int × (Int × ByteArray))))] [(1, 1), (12, 11)] hn (by kernel_rfl) (by kernel_rfl) rfl rfl rfl (QF_retS (by kernel_rfl) (by kernel_rfl) rfl)
      · intro b_114; have H_206 := of_f H_192 b_114
        refine V_run hN hn 3 11 [4, 5] [0, 1, 10] ⟨[(4, .c (.h 1)), (5, .c (.val (.int .i64 (0 : Int))))], [(0, .row (.pair (.int .i64) (.int .u8)) l_2), (1, .box [.val (.int .i64 base_1), .h 10]), (10, .row (.pair (.int .i64) (.pair (.int .i64) .str)) y_136)], 11⟩ [] (by kernel_rfl) rfl rfl ap0 ?_
        have H_208 := Option.some.inj (show some (base_1, y_136, (0 : Int)) = some r from H_206); subst H_208
        refine VL_ret ?_
        exact P_to [(4, .c (.h 1)), (5, .c (.val (.int .i64 (0 : Int))))] [(0, .row (.pair (.int .i64) (.int .u8)) l_2), (1, .box [.val (.int .i64 base_1), .h 12]), (12, .row (.pair (.int .i64) (.pair (.int .i64) .str)) y_136)] [(1, 1), (12, 10)] hn (by kernel_rfl) (by kernel_rfl) rfl rfl rfl (QF_retS (by kernel_rfl) (by kernel_rfl) rfl)

end Go.Pal
