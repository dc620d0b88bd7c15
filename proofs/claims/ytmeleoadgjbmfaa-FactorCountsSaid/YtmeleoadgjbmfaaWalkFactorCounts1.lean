/- The Go functions that FactorCounts reaches compute what the plain functions say: part 1, printed by a program of this workplace. -/
import Derived.Test.YtmeleoadgjbmfaaChecked
import Derived.Test.YtmeleoadgjbmfaaWalkFactorCounts0
namespace Go.Pal
open Go Go.Proofs
set_option maxRecDepth 100000
set_option linter.unusedVariables false

theorem factor_Join_spec (K : Nat) (ins_1 : Int) (ins_2 : (List (Int × (Int × ByteArray)))) (del_3 : (Option ((List (Int × Int)) × Int))) (r : (Int × (List (Int × (Int × ByteArray))) × Int)) (H : factor_Join K ins_1 ins_2 del_3 = some r) : Spec Try.prog 27 0 [.agg [.val (.int .i64 ins_1), .imm (.slice (.pair (.int .i64) (.pair (.int .i64) .str))) ins_2], .c (.imm (.opt (.pair (.slice (.pair (.int .i64) (.int .i64))) (.int .i64))) del_3)] [] (.tup [(true, [.val (.int .i64 r.1), .imm (.slice (.pair (.int .i64) (.pair (.int .i64) .str))) r.2.1]), (false, [.val (.int .i64 r.2.2)])]) [] := by
  refine Spec_mk (fn := Try.f27) (c := (Try.f27.body).get!) Try.func27 (by kernel_rfl) rfl ?_
  intro C hN hn
  replace hN : C.N = 95 := hN
  unfold factor_Join at H
  refine V_run hN hn 4 0 [1, 2, 4] [0, 1] ⟨[(1, .c (.imm (.opt (.pair (.slice (.pair (.int .i64) (.int .i64))) (.int .i64))) del_3)), (2, .c (.h 0)), (4, .c (.h 1))], [(0, .box [.val (.int .i64 ins_1), .imm (.slice (.pair (.int .i64) (.pair (.int .i64) .str))) ins_2]), (1, .box [.val (.int .i64 (0 : Int)), .val (.slice none 0 0)])], 2⟩ [] (by kernel_rfl) rfl rfl ap0 ?_
  obtain ⟨q_142, H_143, H_144⟩ := of_bind H
  refine V_cut (Y := Bool) (R := Bool) q_142 (fun y => y) (fun y => [(1, .c (.imm (.opt (.pair (.slice (.pair (.int .i64) (.int .i64))) (.int .i64))) del_3)), (2, .c (.h 0)), (4, .c (.h 1)), (20, .c (.val (.bool y)))]) (fun y => [(0, .box [.val (.int .i64 ins_1), .imm (.slice (.pair (.int .i64) (.pair (.int .i64) .str))) ins_2]), (1, .box [.val (.int .i64 (0 : Int)), .val (.slice none 0 0)])]) ?_ ?_
  · skip
    obtain ⟨r_5, h_6, H_146⟩ := of_bind H_143
    rcases Bool.eq_false_or_eq_true ((!r_5)) with b_7 | b_7
    · have H_147 := of_t H_146 b_7
      refine V_reg hN hn [(1, ⟨44, 0, [.agg [.val (.int .i64 ins_1), .imm (.slice (.pair (.int .i64) (.pair (.int .i64) .str))) ins_2]], [], .c (.val (.bool r_5)), [], [], 2⟩)] [(16, true)] (calls_cons (delta_Is_spec K ins_1 ins_2 r_5 h_6) (by kernel_rfl) calls_nil) 2 [1, 2, 4, 20] [0, 1] ⟨[(1, .c (.imm (.opt (.pair (.slice (.pair (.int .i64) (.int .i64))) (.int .i64))) del_3)), (2, .c (.h 0)), (4, .c (.h 1)), (20, .c (.val (.bool true)))], [(0, .box [.val (.int .i64 ins_1), .imm (.slice (.pair (.int .i64) (.pair (.int .i64) .str))) ins_2]), (1, .box [.val (.int .i64 (0 : Int)), .val (.slice none 0 0)])], 2⟩ [(!r_5) = true] (by kernel_rfl) rfl rfl (ap1 b_7) (by kernel_rfl) (by kernel_rfl) ?_
      have H_149 := Option.some.inj (show some true = some q_142 from H_147); subst H_149
      refine VL_nil ?_
      exact QP_end true rfl [(0, 0), (1, 1)] hn (by kernel_rfl) (by kernel_rfl) rfl rfl rfl
    · have H_148 := of_f H_146 b_7
      obtain ⟨r_9, h_10, H_150⟩ := of_bind H_148
      refine V_reg hN hn [(1, ⟨44, 0, [.agg [.val (.int .i64 ins_1), .imm (.slice (.pair (.int .i64) (.pair (.int .i64) .str))) ins_2]], [], .c (.val (.bool r_5)), [], [], 2⟩), (5, ⟨24, 0, [.agg [.val (.int .i64 ins_1), .imm (.slice (.pair (.int .i64) (.pair (.int .i64) .str))) ins_2]], [], .c (.val (.int .i64 r_9)), [], [], 2⟩)] [(16, false)] (calls_cons (delta_Is_spec K ins_1 ins_2 r_5 h_6) (by kernel_rfl) (calls_cons (delta_Drops_spec K ins_1 ins_2 r_9 h_10) (by kernel_rfl) calls_nil)) 2 [1, 2, 4, 20] [0, 1] ⟨[(1, .c (.imm (.opt (.pair (.slice (.pair (.int .i64) (.int .i64))) (.int .i64))) del_3)), (2, .c (.h 0)), (4, .c (.h 1)), (20, .c (.val (.bool (decide (r_9 > (0 : Int))))))], [(0, .box [.val (.int .i64 ins_1), .imm (.slice (.pair (.int .i64) (.pair (.int .i64) .str))) ins_2]), (1, .box [.val (.int .i64 (0 : Int)), .val (.slice none 0 0)])], 2⟩ [(!r_5) = false] (by kernel_rfl) rfl rfl (ap1 b_7) (by kernel_rfl) (by kernel_rfl) ?_
      have H_151 := Option.some.inj (show some (decide (r_9 > (0 : Int))) = some q_142 from H_150); subst H_151
      refine VL_nil ?_
      exact QP_end (decide (r_9 > (0 : Int))) rfl [(0, 0), (1, 1)] hn (by kernel_rfl) (by kernel_rfl) rfl rfl rfl
  · intro y_145 hy; subst hy
    skip
    skip
    refine VL_cond (y_145) (by kernel_rfl) ?_ ?_
    · intro b_13; have H_152 := of_t H_144 b_13
      refine V_run hN hn 2 2 [4, 5] [1] ⟨[(4, .c (.h 1)), (5, .c (.val (.int .i64 (12 : Int))))], [(1, .box [.val (.int .i64 (0 : Int)), .val (.slice none 0 0)])], 2⟩ [] (by kernel_rfl) rfl rfl ap0 ?_
      have H_154 := Option.some.inj (show some ((0 : Int), ([] : List (Int × (Int × ByteArray))), (12 : Int)) = some r from H_152); subst H_154
      refine VL_ret ?_
      refine P_ghost [.readCell 1 1 (.slice (.pair (.int .i64) (.pair (.int .i64) .str)))] 2 hn [4, 5] [1] ⟨[(4, .c (.h 1)), (5, .c (.val (.int .i64 (12 : Int))))], [(1, .box [.val (.int .i64 (0 : Int)), .imm (.slice (.pair (.int .i64) (.pair (.int .i64) .str))) ([] : List (Int × (Int × ByteArray)))])], 2⟩ (by kernel_rfl) rfl rfl ?_
      exact P_to [(4, .c (.h 1)), (5, .c (.val (.int .i64 (12 : Int))))] [(1, .box [.val (.int .i64 (0 : Int)), .imm (.slice (.pair (.int .i64) (.pair (.int .i64) .str))) ([] : List (Int × (Int × ByteArray)))])] [(1, 1)] hn (by kernel_rfl) (by kernel_rfl) rfl rfl rfl (QF_retS (by kernel_rfl) (by kernel_rfl) rfl)
    · intro b_13; have H_153 := of_f H_144 b_13
      refine V_run hN hn 2 2 [1, 2, 4, 20] [0, 1] ⟨[(1, .c (.imm (.opt (.pair (.slice (.pair (.int .i64) (.int .i64))) (.int .i64))) del_3)), (2, .c (.h 0)), (4, .c (.h 1)), (20, .c (.val (.bool y_145)))], [(0, .box [.val (.int .i64 ins_1), .imm (.slice (.pair (.int .i64) (.pair (.int .i64) .str))) ins_2]), (1, .box [.val (.int .i64 (0 : Int)), .val (.slice none 0 0)])], 2⟩ [] (by kernel_rfl) rfl rfl ap0 ?_
      obtain ⟨r_16, h_17, H_155⟩ := of_bind H_153
      refine V_reg hN hn [(1, ⟨50, 0, [.c (.imm (.opt (.pair (.slice (.pair (.int .i64) (.int .i64))) (.int .i64))) del_3)], [], .tup [(false, [.val (.int .i64 r_16.1)]), (false, [.h 3])], [(3, .row (.pair (.int .i64) (.int .i64)) r_16.2)], [(3, 2)], 3⟩)] [] (calls_cons (factor_places_spec K del_3 r_16 h_17) (by kernel_rfl) calls_nil) 2 [2, 4, 6, 7] [0, 1, 2] ⟨[(2, .c (.h 0)), (4, .c (.h 1)), (6, .c (.val (.int .i64 r_16.1))), (7, .c (.h 2))], [(0, .box [.val (.int .i64 ins_1), .imm (.slice (.pair (.int .i64) (.pair (.int .i64) .str))) ins_2]), (1, .box [.val (.int .i64 (0 : Int)), .val (.slice none 0 0)]), (2, .row (.pair (.int .i64) (.int .i64)) r_16.2)], 3⟩ [] (by kernel_rfl) rfl rfl ap0 (by kernel_rfl) (by kernel_rfl) ?_
      refine V_run hN hn 3 3 [2, 4, 7, 30] [0, 1, 2] ⟨[(2, .c (.h 0)), (4, .c (.h 1)), (7, .c (.h 2)), (30, .c (.val (.bool (r_16.1 != ins_1))))], [(0, .box [.val (.int .i64 ins_1), .imm (.slice (.pair (.int .i64) (.pair (.int .i64) .str))) ins_2]), (1, .box [.val (.int .i64 (0 : Int)), .val (.slice none 0 0)]), (2, .row (.pair (.int .i64) (.int .i64)) r_16.2)], 3⟩ [] (by kernel_rfl) rfl rfl ap0 ?_
      refine VL_cond ((r_16.1 != ins_1)) (by kernel_rfl) ?_ ?_
      · intro b_20; have H_156 := of_t H_155 b_20
        refine V_run hN hn 2 3 [4, 5] [1] ⟨[(4, .c (.h 1)), (5, .c (.val (.int .i64 (80 : Int))))], [(1, .box [.val (.int .i64 (0 : Int)), .val (.slice none 0 0)])], 3⟩ [] (by kernel_rfl) rfl rfl ap0 ?_
        have H_158 := Option.some.inj (show some ((0 : Int), ([] : List (Int × (Int × ByteArray))), (80 : Int)) = some r from H_156); subst H_158
        refine VL_ret ?_
        refine P_ghost [.readCell 1 1 (.slice (.pair (.int .i64) (.pair (.int .i64) .str)))] 3 hn [4, 5] [1] ⟨[(4, .c (.h 1)), (5, .c (.val (.int .i64 (80 : Int))))], [(1, .box [.val (.int .i64 (0 : Int)), .imm (.slice (.pair (.int .i64) (.pair (.int .i64) .str))) ([] : List (Int × (Int × ByteArray)))])], 3⟩ (by kernel_rfl) rfl rfl ?_
        exact P_to [(4, .c (.h 1)), (5, .c (.val (.int .i64 (80 : Int))))] [(1, .box [.val (.int .i64 (0 : Int)), .imm (.slice (.pair (.int .i64) (.pair (.int .i64) .str))) ([] : List (Int × (Int × ByteArray)))])] [(1, 1)] hn (by kernel_rfl) (by kernel_rfl) rfl rfl rfl (QF_retS (by kernel_rfl) (by kernel_rfl) rfl)
      · intro b_20; have H_157 := of_f H_155 b_20
        refine V_run hN hn 2 3 [2, 4, 7, 30] [0, 1, 2] ⟨[(2, .c (.h 0)), (4, .c (.h 1)), (7, .c (.h 2)), (30, .c (.val (.bool (r_16.1 != ins_1))))], [(0, .box [.val (.int .i64 ins_1), .imm (.slice (.pair (.int .i64) (.pair (.int .i64) .str))) ins_2]), (1, .box [.val (.int .i64 (0 : Int)), .val (.slice none 0 0)]), (2, .row (.pair (.int .i64) (.int .i64)) r_16.2)], 3⟩ [] (by kernel_rfl) rfl rfl ap0 ?_
        obtain ⟨r_23, h_24, H_159⟩ := of_bind H_157
        refine V_reg hN hn [(2, ⟨39, 0, [.c (.val (.int .i64 ins_1))], [], .c (.h 0), [(0, .box [.val (.int .i64 ins_1), .val (.slice none 0 0)])], [(0, 3)], 4⟩)] [] (calls_cons (delta_NewMaker_spec K ins_1 r_23 h_24) (by kernel_rfl) calls_nil) 3 [2, 4, 7, 8] [0, 1, 2, 3] ⟨[(2, .c (.h 0)), (4, .c (.h 1)), (7, .c (.h 2)), (8, .c (.h 3))], [(0, .box [.val (.int .i64 ins_1), .imm (.slice (.pair (.int .i64) (.pair (.int .i64) .str))) ins_2]), (1, .box [.val (.int .i64 (0 : Int)), .val (.slice none 0 0)]), (2, .row (.pair (.int .i64) (.int .i64)) r_16.2), (3, .box [.val (.int .i64 ins_1), .val (.slice none 0 0)])], 4⟩ [] (by kernel_rfl) rfl rfl ap0 (by kernel_rfl) (by kernel_rfl) ?_
        refine V_run hN hn 3 4 [4, 7, 8, 36, 37, 38] [1, 2, 3] ⟨[(4, .c (.h 1)), (7, .c (.h 2)), (8, .c (.h 3)), (36, .c (.imm (.slice (.pair (.int .i64) (.pair (.int .i64) .str))) ins_2)), (37, .c (.val (.int .i64 (((List.length ins_2) : Nat) : Int)))), (38, .c (.val (.int .i64 (0 : Int))))], [(1, .box [.val (.int .i64 (0 : Int)), .val (.slice none 0 0)]), (2, .row (.pair (.int .i64) (.int .i64)) r_16.2), (3, .box [.val (.int .i64 ins_1), .val (.slice none 0 0)])], 4⟩ [] (by kernel_rfl) rfl rfl ap0 ?_
        obtain ⟨q_160, H_161, H_162⟩ := of_bind H_159
        refine V_cut (Y := (List (Int × (Int × ByteArray)))) (R := (List (Int × (Int × ByteArray)))) q_160 (fun y => y) (fun y => [(4, .c (.h 1)), (8, .c (.h 3))]) (fun y => [(1, .box [.val (.int .i64 (0 : Int)), .val (.slice none 0 0)]), (3, .box [.val (.int .i64 ins_1), .h 12]), (12, .row (.pair (.int .i64) (.pair (.int .i64) .str)) y)]) ?_ ?_
        · skip
          refine VL_block ?_
          refine V_ghost [.nilCell 3 1 (.pair (.int .i64) (.pair (.int .i64) .str))] 4 hn [4, 7, 8, 36, 37, 38] [1, 2, 3, 4] ⟨[(4, .c (.h 1)), (7, .c (.h 2)), (8, .c (.h 3)), (36, .c (.imm (.slice (.pair (.int .i64) (.pair (.int .i64) .str))) ins_2)), (37, .c (.val (.int .i64 (((List.length ins_2) : Nat) : Int)))), (38, .c (.val (.int .i64 (0 : Int))))], [(1, .box [.val (.int .i64 (0 : Int)), .val (.slice none 0 0)]), (2, .row (.pair (.int .i64) (.int .i64)) r_16.2), (3, .box [.val (.int .i64 ins_1), .h 4]), (4, .row (.pair (.int .i64) (.pair (.int .i64) .str)) ([] : List (Int × (Int × ByteArray))))], 5⟩ (by kernel_rfl) rfl rfl ?_
          refine V_to [(4, .c (.h 1)), (7, .c (.h 11)), (8, .c (.h 3)), (36, .c (.imm (.slice (.pair (.int .i64) (.pair (.int .i64) .str))) ins_2)), (37, .c (.val (.int .i64 (((List.length ins_2) : Nat) : Int)))), (38, .c (.val (.int .i64 (0 : Int))))] [(1, .box [.val (.int .i64 (0 : Int)), .val (.slice none 0 0)]), (3, .box [.val (.int .i64 ins_1), .h 12]), (11, .row (.pair (.int .i64) (.int .i64)) r_16.2), (12, .row (.pair (.int .i64) (.pair (.int .i64) .str)) ([] : List (Int × (Int × ByteArray))))] [(1, 1), (3, 3), (11, 2), (12, 4)] hn (by kernel_rfl) (by kernel_rfl) rfl rfl rfl ?_
          refine VL_loop (X := ((List (Int × Int)) × (List (Int × (Int × ByteArray))) × Int)) (fun x => [(4, .c (.h 1)), (7, .c (.h 11)), (8, .c (.h 3)), (36, .c (.imm (.slice (.pair (.int .i64) (.pair (.int .i64) .str))) ins_2)), (37, .c (.val (.int .i64 (((List.length ins_2) : Nat) : Int)))), (38, .c (.val (.int .i64 x.2.2)))]) (fun x => [(1, .box [.val (.int .i64 (0 : Int)), .val (.slice none 0 0)]), (3, .box [.val (.int .i64 ins_1), .h 12]), (11, .row (.pair (.int .i64) (.int .i64)) x.1), (12, .row (.pair (.int .i64) (.pair (.int .i64) .str)) x.2.1)]) (fun k x => factor_Join.l0 K ins_2 ins_1 k x.1 x.2.1 x.2.2 = some q_160) K (r_16.2, ([] : List (Int × (Int × ByteArray))), (0 : Int)) H_161 (fun _ h => no_none h) ?_
          intro k_79 x_79 H_164
          obtain ⟨l_77, x_78, t_27⟩ := x_79
          have H_165 : factor_Join.l0 K ins_2 ins_1 (k_79 + 1) l_77 x_78 t_27 = some q_160 := H_164
          rw [factor_Join.l0] at H_165
          refine V_run hN hn 3 13 [4, 7, 8, 36, 37, 38, 39] [1, 3, 11, 12] ⟨[(4, .c (.h 1)), (7, .c (.h 11)), (8, .c (.h 3)), (36, .c (.imm (.slice (.pair (.int .i64) (.pair (.int .i64) .str))) ins_2)), (37, .c (.val (.int .i64 (((List.length ins_2) : Nat) : Int)))), (38, .c (.val (.int .i64 t_27))), (39, .c (.val (.bool (decide (t_27 < (((List.length ins_2) : Nat) : Int))))))], [(1, .box [.val (.int .i64 (0 : Int)), .val (.slice none 0 0)]), (3, .box [.val (.int .i64 ins_1), .h 12]), (11, .row (.pair (.int .i64) (.int .i64)) l_77), (12, .row (.pair (.int .i64) (.pair (.int .i64) .str)) x_78)], 13⟩ [] (by kernel_rfl) rfl rfl ap0 ?_
          refine VL_cond ((decide (t_27 < (((List.length ins_2) : Nat) : Int)))) (by kernel_rfl) ?_ ?_
          · intro b_81; have H_166 := of_t H_165 b_81
            refine V_run hN hn 2 13 [4, 7, 8, 36, 37, 38, 39] [1, 3, 11, 12] ⟨[(4, .c (.h 1)), (7, .c (.h 11)), (8, .c (.h 3)), (36, .c (.imm (.slice (.pair (.int .i64) (.pair (.int .i64) .str))) ins_2)), (37, .c (.val (.int .i64 (((List.length ins_2) : Nat) : Int)))), (38, .c (.val (.int .i64 t_27))), (39, .c (.val (.bool (decide (t_27 < (((List.length ins_2) : Nat) : Int))))))], [(1, .box [.val (.int .i64 (0 : Int)), .val (.slice none 0 0)]), (3, .box [.val (.int .i64 ins_1), .h 12]), (11, .row (.pair (.int .i64) (.int .i64)) l_77), (12, .row (.pair (.int .i64) (.pair (.int .i64) .str)) x_78)], 13⟩ [] (by kernel_rfl) rfl rfl ap0 ?_
            obtain ⟨q_168, H_169, H_170⟩ := of_bind H_166
            refine V_cut (Y := ((List (Int × Int)) × (List (Int × (Int × ByteArray))))) (R := ((List (Int × Int)) × (List (Int × (Int × ByteArray))))) q_168 (fun y => y) (fun y => [(4, .c (.h 1)), (7, .c (.h 18)), (8, .c (.h 3)), (36, .c (.imm (.slice (.pair (.int .i64) (.pair (.int .i64) .str))) ins_2)), (37, .c (.val (.int .i64 (((List.length ins_2) : Nat) : Int)))), (38, .c (.val (.int .i64 t_27)))]) (fun y => [(1, .box [.val (.int .i64 (0 : Int)), .val (.slice none 0 0)]), (3, .box [.val (.int .i64 ins_1), .h 19]), (18, .row (.pair (.int .i64) (.int .i64)) y.1), (19, .row (.pair (.int .i64) (.pair (.int .i64) .str)) y.2)]) ?_ ?_
            · skip
              refine VL_block ?_
              obtain ⟨c_83, H_172⟩ := of_if H_169
              refine V_run hN hn 3 13 [4, 7, 8, 10, 36, 37, 38] [1, 3, 11, 12, 13] ⟨[(4, .c (.h 1)), (7, .c (.h 11)), (8, .c (.h 3)), (10, .c (.h 13)), (36, .c (.imm (.slice (.pair (.int .i64) (.pair (.int .i64) .str))) ins_2)), (37, .c (.val (.int .i64 (((List.length ins_2) : Nat) : Int)))), (38, .c (.val (.int .i64 t_27)))], [(1, .box [.val (.int .i64 (0 : Int)), .val (.slice none 0 0)]), (3, .box [.val (.int .i64 ins_1), .h 12]), (11, .row (.pair (.int .i64) (.int .i64)) l_77), (12, .row (.pair (.int .i64) (.pair (.int .i64) .str)) x_78), (13, .box [.val (.int .i64 (List.getD ins_2 (Int.toNat t_27) ((0 : Int), ((0 : Int), ByteArray.empty))).1), .val (.int .i64 (List.getD ins_2 (Int.toNat t_27) ((0 : Int), ((0 : Int), ByteArray.empty))).2.1), .val (.string (List.getD ins_2 (Int.toNat t_27) ((0 : Int), ((0 : Int), ByteArray.empty))).2.2)])], 14⟩ [0 ≤ t_27, t_27 < (((List.length ins_2) : Nat) : Int)] (by kernel_rfl) rfl rfl (ap2 c_83.1 (ap1 c_83.2)) ?_
              obtain ⟨r_84, h_85, H_173⟩ := of_bind H_172
              refine V_reg hN hn [(3, ⟨42, 2, [.c (.h 0), .c (.val (.string (List.getD ins_2 (Int.toNat t_27) ((0 : Int), ((0 : Int), ByteArray.empty))).2.2))], [(0, .box [.val (.int .i64 ins_1), .h 1]), (1, .row (.pair (.int .i64) (.pair (.int .i64) .str)) x_78)], .tup [], [(0, .box [.val (.int .i64 ins_1), .h 4]), (4, .row (.pair (.int .i64) (.pair (.int .i64) .str)) r_84)], [(0, 3), (1, 12), (4, 14)], 15⟩)] [] (calls_cons (delta_Maker_Put_bg_92925_spec K ins_1 x_78 (List.getD ins_2 (Int.toNat t_27) ((0 : Int), ((0 : Int), ByteArray.empty))).2.2 r_84 h_85) (by kernel_rfl) calls_nil) 14 [4, 7, 8, 10, 36, 37, 38] [1, 3, 11, 13, 14] ⟨[(4, .c (.h 1)), (7, .c (.h 11)), (8, .c (.h 3)), (10, .c (.h 13)), (36, .c (.imm (.slice (.pair (.int .i64) (.pair (.int .i64) .str))) ins_2)), (37, .c (.val (.int .i64 (((List.length ins_2) : Nat) : Int)))), (38, .c (.val (.int .i64 t_27)))], [(1, .box [.val (.int .i64 (0 : Int)), .val (.slice none 0 0)]), (3, .box [.val (.int .i64 ins_1), .h 14]), (11, .row (.pair (.int .i64) (.int .i64)) l_77), (13, .box [.val (.int .i64 (List.getD ins_2 (Int.toNat t_27) ((0 : Int), ((0 : Int), ByteArray.empty))).1), .val (.int .i64 (List.getD ins_2 (Int.toNat t_27) ((0 : Int), ((0 : Int), ByteArray.empty))).2.1), .val (.string (List.getD ins_2 (Int.toNat t_27) ((0 : Int), ((0 : Int), ByteArray.empty))).2.2)]), (14, .row (.pair (.int .i64) (.pair (.int .i64) .str)) r_84)], 15⟩ [] (by kernel_rfl) rfl rfl ap0 (by kernel_rfl) (by kernel_rfl) ?_
              refine V_run hN hn 2 15 [4, 7, 8, 10, 11, 36, 37, 38] [1, 3, 11, 13, 14] ⟨[(4, .c (.h 1)), (7, .c (.h 11)), (8, .c (.h 3)), (10, .c (.h 13)), (11, .c (.val (.int .i64 (List.getD ins_2 (Int.toNat t_27) ((0 : Int), ((0 : Int), ByteArray.empty))).1))), (36, .c (.imm (.slice (.pair (.int .i64) (.pair (.int .i64) .str))) ins_2)), (37, .c (.val (.int .i64 (((List.length ins_2) : Nat) : Int)))), (38, .c (.val (.int .i64 t_27)))], [(1, .box [.val (.int .i64 (0 : Int)), .val (.slice none 0 0)]), (3, .box [.val (.int .i64 ins_1), .h 14]), (11, .row (.pair (.int .i64) (.int .i64)) l_77), (13, .box [.val (.int .i64 (List.getD ins_2 (Int.toNat t_27) ((0 : Int), ((0 : Int), ByteArray.empty))).1), .val (.int .i64 (List.getD ins_2 (Int.toNat t_27) ((0 : Int), ((0 : Int), ByteArray.empty))).2.1), .val (.string (List.getD ins_2 (Int.toNat t_27) ((0 : Int), ((0 : Int), ByteArray.empty))).2.2)]), (14, .row (.pair (.int .i64) (.pair (.int .i64) .str)) r_84)], 15⟩ [] (by kernel_rfl) rfl rfl ap0 ?_
              refine VL_block ?_
              refine V_to [(4, .c (.h 1)), (7, .c (.h 18)), (8, .c (.h 3)), (10, .c (.h 13)), (11, .c (.val (.int .i64 (List.getD ins_2 (Int.toNat t_27) ((0 : Int), ((0 : Int), ByteArray.empty))).1))), (36, .c (.imm (.slice (.pair (.int .i64) (.pair (.int .i64) .str))) ins_2)), (37, .c (.val (.int .i64 (((List.length ins_2) : Nat) : Int)))), (38, .c (.val (.int .i64 t_27)))] [(1, .box [.val (.int .i64 (0 : Int)), .val (.slice none 0 0)]), (3, .box [.val (.int .i64 ins_1), .h 19]), (13, .box [.val (.int .i64 (List.getD ins_2 (Int.toNat t_27) ((0 : Int), ((0 : Int), ByteArray.empty))).1), .val (.int .i64 (List.getD ins_2 (Int.toNat t_27) ((0 : Int), ((0 : Int), ByteArray.empty))).2.1), .val (.string (List.getD ins_2 (Int.toNat t_27) ((0 : Int), ((0 : Int), ByteArray.empty))).2.2)]), (18, .row (.pair (.int .i64) (.int .i64)) l_77), (19, .row (.pair (.int .i64) (.pair (.int .i64) .str)) r_84)] [(1, 1), (3, 3), (13, 13), (18, 11), (19, 14)] hn (by kernel_rfl) (by kernel_rfl) rfl rfl rfl ?_
              refine VL_loop (X := ((List (Int × Int)) × (List (Int × (Int × ByteArray))) × Int)) (fun x => [(4, .c (.h 1)), (7, .c (.h 18)), (8, .c (.h 3)), (10, .c (.h 13)), (11, .c (.val (.int .i64 x.2.2))), (36, .c (.imm (.slice (.pair (.int .i64) (.pair (.int .i64) .str))) ins_2)), (37, .c (.val (.int .i64 (((List.length ins_2) : Nat) : Int)))), (38, .c (.val (.int .i64 t_27)))]) (fun x => [(1, .box [.val (.int .i64 (0 : Int)), .val (.slice none 0 0)]), (3, .box [.val (.int .i64 ins_1), .h 19]), (13, .box [.val (.int .i64 (List.getD ins_2 (Int.toNat t_27) ((0 : Int), ((0 : Int), ByteArray.empty))).1), .val (.int .i64 (List.getD ins_2 (Int.toNat t_27) ((0 : Int), ((0 : Int), ByteArray.empty))).2.1), .val (.string (List.getD ins_2 (Int.toNat t_27) ((0 : Int), ((0 : Int), ByteArray.empty))).2.2)]), (18, .row (.pair (.int .i64) (.int .i64)) x.1), (19, .row (.pair (.int .i64) (.pair (.int .i64) .str)) x.2.1)]) (fun k x => factor_Join.l1 K ins_2 t_27 ins_1 k x.1 x.2.1 x.2.2 = some q_168) K (l_77, r_84, (List.getD ins_2 (Int.toNat t_27) ((0 : Int), ((0 : Int), ByteArray.empty))).1) H_173 (fun _ h => no_none h) ?_
              intro k_108 x_108 H_174
              obtain ⟨l_106, x_107, at_88⟩ := x_108
              have H_175 : factor_Join.l1 K ins_2 t_27 ins_1 (k_108 + 1) l_106 x_107 at_88 = some q_168 := H_174
              rw [factor_Join.l1] at H_175
              refine V_run hN hn 3 20 [4, 7, 8, 10, 11, 36, 37, 38, 51] [1, 3, 13, 18, 19] ⟨[(4, .c (.h 1)), (7, .c (.h 18)), (8, .c (.h 3)), (10, .c (.h 13)), (11, .c (.val (.int .i64 at_88))), (36, .c (.imm (.slice (.pair (.int .i64) (.pair (.int .i64) .str))) ins_2)), (37, .c (.val (.int .i64 (((List.length ins_2) : Nat) : Int)))), (38, .c (.val (.int .i64 t_27))), (51, .c (.val (.bool (decide (at_88 < (List.getD ins_2 (Int.toNat t_27) ((0 : Int), ((0 : Int), ByteArray.empty))).2.1)))))], [(1, .box [.val (.int .i64 (0 : Int)), .val (.slice none 0 0)]), (3, .box [.val (.int .i64 ins_1), .h 19]), (13, .box [.val (.int .i64 (List.getD ins_2 (Int.toNat t_27) ((0 : Int), ((0 : Int), ByteArray.empty))).1), .val (.int .i64 (List.getD ins_2 (Int.toNat t_27) ((0 : Int), ((0 : Int), ByteArray.empty))).2.1), .val (.string (List.getD ins_2 (Int.toNat t_27) ((0 : Int), ((0 : Int), ByteArray.empty))).2.2)]), (18, .row (.pair (.int .i64) (.int .i64)) l_106), (19, .row (.pair (.int .i64) (.pair (.int .i64) .str)) x_107)], 20⟩ [] (by kernel_rfl) rfl rfl ap0 ?_
              refine VL_cond ((decide (at_88 < (List.getD ins_2 (Int.toNat t_27) ((0 : Int), ((0 : Int), ByteArray.empty))).2.1))) (by kernel_rfl) ?_ ?_
              · intro b_110; have H_176 := of_t H_175 b_110
                refine V_run hN hn 1 20 [4, 7, 8, 10, 11, 36, 37, 38, 51] [1, 3, 13, 18, 19] ⟨[(4, .c (.h 1)), (7, .c (.h 18)), (8, .c (.h 3)), (10, .c (.h 13)), (11, .c (.val (.int .i64 at_88))), (36, .c (.imm (.slice (.pair (.int .i64) (.pair (.int .i64) .str))) ins_2)), (37, .c (.val (.int .i64 (((List.length ins_2) : Nat) : Int)))), (38, .c (.val (.int .i64 t_27))), (51, .c (.val (.bool (decide (at_88 < (List.getD ins_2 (Int.toNat t_27) ((0 : Int), ((0 : Int), ByteArray.empty))).2.1)))))], [(1, .box [.val (.int .i64 (0 : Int)), .val (.slice none 0 0)]), (3, .box [.val (.int .i64 ins_1), .h 19]), (13, .box [.val (.int .i64 (List.getD ins_2 (Int.toNat t_27) ((0 : Int), ((0 : Int), ByteArray.empty))).1), .val (.int .i64 (List.getD ins_2 (Int.toNat t_27) ((0 : Int), ((0 : Int), ByteArray.empty))).2.1), .val (.string (List.getD ins_2 (Int.toNat t_27) ((0 : Int), ((0 : Int), ByteArray.empty))).2.2)]), (18, .row (.pair (.int .i64) (.int .i64)) l_106), (19, .row (.pair (.int .i64) (.pair (.int .i64) .str)) x_107)], 20⟩ [] (by kernel_rfl) rfl rfl ap0 ?_
                refine VL_block ?_
                refine V_run hN hn 1 20 [4, 7, 8, 10, 11, 36, 37, 38, 51] [1, 3, 13, 18, 19] ⟨[(4, .c (.h 1)), (7, .c (.h 18)), (8, .c (.h 3)), (10, .c (.h 13)), (11, .c (.val (.int .i64 at_88))), (36, .c (.imm (.slice (.pair (.int .i64) (.pair (.int .i64) .str))) ins_2)), (37, .c (.val (.int .i64 (((List.length ins_2) : Nat) : Int)))), (38, .c (.val (.int .i64 t_27))), (51, .c (.val (.bool (decide (at_88 < (List.getD ins_2 (Int.toNat t_27) ((0 : Int), ((0 : Int), ByteArray.empty))).2.1)))))], [(1, .box [.val (.int .i64 (0 : Int)), .val (.slice none 0 0)]), (3, .box [.val (.int .i64 ins_1), .h 19]), (13, .box [.val (.int .i64 (List.getD ins_2 (Int.toNat t_27) ((0 : Int), ((0 : Int), ByteArray.empty))).1), .val (.int .i64 (List.getD ins_2 (Int.toNat t_27) ((0 : Int), ((0 : Int), ByteArray.empty))).2.1), .val (.string (List.getD ins_2 (Int.toNat t_27) ((0 : Int), ((0 : Int), ByteArray.empty))).2.2)]), (18, .row (.pair (.int .i64) (.int .i64)) l_106), (19, .row (.pair (.int .i64) (.pair (.int .i64) .str)) x_107)], 20⟩ [] (by kernel_rfl) rfl rfl ap0 ?_
                obtain ⟨c_113, H_178⟩ := of_if H_176
                refine V_draw hN hn (by kernel_rfl) [] [] calls_nil 20 [4, 7, 8, 10, 11, 12, 36, 37, 38] [1, 3, 13, 18, 19] ⟨[(4, .c (.h 1)), (7, .c (.h 18)), (8, .c (.h 3)), (10, .c (.h 13)), (11, .c (.val (.int .i64 at_88))), (12, .c (.val (.int .i64 (mn2 (List.getD l_106 0 ((0 : Int), (0 : Int))).1 (IntKind.wrap .i64 ((List.getD ins_2 (Int.toNat t_27) ((0 : Int), ((0 : Int), ByteArray.empty))).2.1 - at_88)))))), (36, .c (.imm (.slice (.pair (.int .i64) (.pair (.int .i64) .str))) ins_2)), (37, .c (.val (.int .i64 (((List.length ins_2) : Nat) : Int)))), (38, .c (.val (.int .i64 t_27)))], [(1, .box [.val (.int .i64 (0 : Int)), .val (.slice none 0 0)]), (3, .box [.val (.int .i64 ins_1), .h 19]), (13, .box [.val (.int .i64 (List.getD ins_2 (Int.toNat t_27) ((0 : Int), ((0 : Int), ByteArray.empty))).1), .val (.int .i64 (List.getD ins_2 (Int.toNat t_27) ((0 : Int), ((0 : Int), ByteArray.empty))).2.1), .val (.string (List.getD ins_2 (Int.toNat t_27) ((0 : Int), ((0 : Int), ByteArray.empty))).2.2)]), (18, .row (.pair (.int .i64) (.int .i64)) l_106), (19, .row (.pair (.int .i64) (.pair (.int .i64) .str)) x_107)], 20⟩ [(0 : Int) ≤ (0 : Int), (0 : Int) < (((List.length l_106) : Nat) : Int)] (by kernel_rfl) rfl rfl (ap2 (by decide) (ap1 c_113)) (by kernel_rfl) (by kernel_rfl) ?_
                refine V_run hN hn 3 20 [4, 7, 8, 10, 11, 12, 36, 37, 38, 65] [1, 3, 13, 18, 19] ⟨[(4, .c (.h 1)), (7, .c (.h 18)), (8, .c (.h 3)), (10, .c (.h 13)), (11, .c (.val (.int .i64 at_88))), (12, .c (.val (.int .i64 (mn2 (List.getD l_106 0 ((0 : Int), (0 : Int))).1 (IntKind.wrap .i64 ((List.getD ins_2 (Int.toNat t_27) ((0 : Int), ((0 : Int), ByteArray.empty))).2.1 - at_88)))))), (36, .c (.imm (.slice (.pair (.int .i64) (.pair (.int .i64) .str))) ins_2)), (37, .c (.val (.int .i64 (((List.length ins_2) : Nat) : Int)))), (38, .c (.val (.int .i64 t_27))), (65, .c (.val (.bool ((List.getD l_106 0 ((0 : Int), (0 : Int))).2 == (0 : Int)))))], [(1, .box [.val (.int .i64 (0 : Int)), .val (.slice none 0 0)]), (3, .box [.val (.int .i64 ins_1), .h 19]), (13, .box [.val (.int .i64 (List.getD ins_2 (Int.toNat t_27) ((0 : Int), ((0 : Int), ByteArray.empty))).1), .val (.int .i64 (List.getD ins_2 (Int.toNat t_27) ((0 : Int), ((0 : Int), ByteArray.empty))).2.1), .val (.string (List.getD ins_2 (Int.toNat t_27) ((0 : Int), ((0 : Int), ByteArray.empty))).2.2)]), (18, .row (.pair (.int .i64) (.int .i64)) l_106), (19, .row (.pair (.int .i64) (.pair (.int .i64) .str)) x_107)], 20⟩ [(0 : Int) ≤ (0 : Int), (0 : Int) < (((List.length l_106) : Nat) : Int)] (by kernel_rfl) rfl rfl (ap2 (by decide) (ap1 c_113)) ?_
                obtain ⟨q_179, H_180, H_181⟩ := of_bind H_178
                refine V_cut (Y := (List (Int × (Int × ByteArray)))) (R := (List (Int × (Int × ByteArray)))) q_179 (fun y => y) (fun y => [(4, .c (.h 1)), (7, .c (.h 18)), (8, .c (.h 3)), (10, .c (.h 13)), (11, .c (.val (.int .i64 at_88))), (12, .c (.val (.int .i64 (mn2 (List.getD l_106 0 ((0 : Int), (0 : Int))).1 (IntKind.wrap .i64 ((List.getD ins_2 (Int.toNat t_27) ((0 : Int), ((0 : Int), ByteArray.empty))).2.1 - at_88)))))), (36, .c (.imm (.slice (.pair (.int .i64) (.pair (.int .i64) .str))) ins_2)), (37, .c (.val (.int .i64 (((List.length ins_2) : Nat) : Int)))), (38, .c (.val (.int .i64 t_27)))]) (fun y => [(1, .box [.val (.int .i64 (0 : Int)), .val (.slice none 0 0)]), (3, .box [.val (.int .i64 ins_1), .h 21]), (13, .box [.val (.int .i64 (List.getD ins_2 (Int.toNat t_27) ((0 : Int), ((0 : Int), ByteArray.empty))).1), .val (.int .i64 (List.getD ins_2 (Int.toNat t_27) ((0 : Int), ((0 : Int), ByteArray.empty))).2.1), .val (.string (List.getD ins_2 (Int.toNat t_27) ((0 : Int), ((0 : Int), ByteArray.empty))).2.2)]), (18, .row (.pair (.int .i64) (.int .i64)) l_106), (21, .row (.pair (.int .i64) (.pair (.int .i64) .str)) y)]) ?_ ?_
                · skip
                  refine VL_cond (((List.getD l_106 0 ((0 : Int), (0 : Int))).2 == (0 : Int))) (by kernel_rfl) ?_ ?_
                  · intro b_115; have H_183 := of_t H_180 b_115
                    obtain ⟨r_116, h_117, H_185⟩ := of_bind H_183
                    refine V_reg hN hn [(5, ⟨41, 2, [.c (.h 0), .c (.val (.int .i64 at_88)), .c (.val (.int .i64 (IntKind.wrap .i64 (at_88 + (mn2 (List.getD l_106 0 ((0 : Int), (0 : Int))).1 (IntKind.wrap .i64 ((List.getD ins_2 (Int.toNat t_27) ((0 : Int), ((0 : Int), ByteArray.empty))).2.1 - at_88)))))))], [(0, .box [.val (.int .i64 ins_1), .h 1]), (1, .row (.pair (.int .i64) (.pair (.int .i64) .str)) x_107)], .tup [], [(0, .box [.val (.int .i64 ins_1), .h 4]), (4, .row (.pair (.int .i64) (.pair (.int .i64) .str)) r_116)], [(0, 3), (1, 19), (4, 20)], 21⟩)] [] (calls_cons (delta_Maker_Copy_bgg_11dec_spec K ins_1 x_107 at_88 (IntKind.wrap .i64 (at_88 + (mn2 (List.getD l_106 0 ((0 : Int), (0 : Int))).1 (IntKind.wrap .i64 ((List.getD ins_2 (Int.toNat t_27) ((0 : Int), ((0 : Int), ByteArray.empty))).2.1 - at_88))))) r_116 h_117) (by kernel_rfl) calls_nil) 20 [4, 7, 8, 10, 11, 12, 36, 37, 38] [1, 3, 13, 18, 20] ⟨[(4, .c (.h 1)), (7, .c (.h 18)), (8, .c (.h 3)), (10, .c (.h 13)), (11, .c (.val (.int .i64 at_88))), (12, .c (.val (.int .i64 (mn2 (List.getD l_106 0 ((0 : Int), (0 : Int))).1 (IntKind.wrap .i64 ((List.getD ins_2 (Int.toNat t_27) ((0 : Int), ((0 : Int), ByteArray.empty))).2.1 - at_88)))))), (36, .c (.imm (.slice (.pair (.int .i64) (.pair (.int .i64) .str))) ins_2)), (37, .c (.val (.int .i64 (((List.length ins_2) : Nat) : Int)))), (38, .c (.val (.int .i64 t_27)))], [(1, .box [.val (.int .i64 (0 : Int)), .val (.slice none 0 0)]), (3, .box [.val (.int .i64 ins_1), .h 20]), (13, .box [.val (.int .i64 (List.getD ins_2 (Int.toNat t_27) ((0 : Int), ((0 : Int), ByteArray.empty))).1), .val (.int .i64 (List.getD ins_2 (Int.toNat t_27) ((0 : Int), ((0 : Int), ByteArray.empty))).2.1), .val (.string (List.getD ins_2 (Int.toNat t_27) ((0 : Int), ((0 : Int), ByteArray.empty))).2.2)]), (18, .row (.pair (.int .i64) (.int .i64)) l_106), (20, .row (.pair (.int .i64) (.pair (.int .i64) .str)) r_116)], 21⟩ [] (by kernel_rfl) rfl rfl ap0 (by kernel_rfl) (by kernel_rfl) ?_
                    have H_186 := Option.some.inj (show some r_116 = some q_179 from H_185); subst H_186
                    refine VL_nil ?_
                    exact QP_end r_116 rfl [(1, 1), (3, 3), (13, 13), (18, 18), (21, 20)] hn (by kernel_rfl) (by kernel_rfl) rfl rfl rfl
                  · intro b_115; have H_184 := of_f H_180 b_115
                    refine V_run hN hn 1 20 [4, 7, 8, 10, 11, 12, 36, 37, 38, 65] [1, 3, 13, 18, 19] ⟨[(4, .c (.h 1)), (7, .c (.h 18)), (8, .c (.h 3)), (10, .c (.h 13)), (11, .c (.val (.int .i64 at_88))), (12, .c (.val (.int .i64 (mn2 (List.getD l_106 0 ((0 : Int), (0 : Int))).1 (IntKind.wrap .i64 ((List.getD ins_2 (Int.toNat t_27) ((0 : Int), ((0 : Int), ByteArray.empty))).2.1 - at_88)))))), (36, .c (.imm (.slice (.pair (.int .i64) (.pair (.int .i64) .str))) ins_2)), (37, .c (.val (.int .i64 (((List.length ins_2) : Nat) : Int)))), (38, .c (.val (.int .i64 t_27))), (65, .c (.val (.bool ((List.getD l_106 0 ((0 : Int), (0 : Int))).2 == (0 : Int)))))], [(1, .box [.val (.int .i64 (0 : Int)), .val (.slice none 0 0)]), (3, .box [.val (.int .i64 ins_1), .h 19]), (13, .box [.val (.int .i64 (List.getD ins_2 (Int.toNat t_27) ((0 : Int), ((0 : Int), ByteArray.empty))).1), .val (.int .i64 (List.getD ins_2 (Int.toNat t_27) ((0 : Int), ((0 : Int), ByteArray.empty))).2.1), .val (.string (List.getD ins_2 (Int.toNat t_27) ((0 : Int), ((0 : Int), ByteArray.empty))).2.2)]), (18, .row (.pair (.int .i64) (.int .i64)) l_106), (19, .row (.pair (.int .i64) (.pair (.int .i64) .str)) x_107)], 20⟩ [] (by kernel_rfl) rfl rfl ap0 ?_
                    have H_187 := Option.some.inj (show some x_107 = some q_179 from H_184); subst H_187
                    refine VL_nil ?_
                    exact QP_end x_107 rfl [(1, 1), (3, 3), (13, 13), (18, 18), (21, 19)] hn (by kernel_rfl) (by kernel_rfl) rfl rfl rfl
                · intro y_182 hy; subst hy
                  skip
                  skip
                  obtain ⟨c_121, H_188⟩ := of_if H_181
                  refine V_run hN hn 6 22 [4, 7, 8, 10, 11, 36, 37, 38, 87] [1, 3, 13, 18, 21] ⟨[(4, .c (.h 1)), (7, .c (.h 18)), (8, .c (.h 3)), (10, .c (.h 13)), (11, .c (.val (.int .i64 (IntKind.wrap .i64 (at_88 + (mn2 (List.getD l_106 0 ((0 : Int), (0 : Int))).1 (IntKind.wrap .i64 ((List.getD ins_2 (Int.toNat t_27) ((0 : Int), ((0 : Int), ByteArray.empty))).2.1 - at_88)))))))), (36, .c (.imm (.slice (.pair (.int .i64) (.pair (.int .i64) .str))) ins_2)), (37, .c (.val (.int .i64 (((List.length ins_2) : Nat) : Int)))), (38, .c (.val (.int .i64 t_27))), (87, .c (.val (.bool ((List.getD (List.set l_106 0 ((IntKind.wrap .i64 ((List.getD l_106 0 ((0 : Int), (0 : Int))).1 - (mn2 (List.getD l_106 0 ((0 : Int), (0 : Int))).1 (IntKind.wrap .i64 ((List.getD ins_2 (Int.toNat t_27) ((0 : Int), ((0 : Int), ByteArray.empty))).2.1 - at_88))))), (List.getD l_106 0 ((0 : Int), (0 : Int))).2)) 0 ((0 : Int), (0 : Int))).1 == (0 : Int)))))], [(1, .box [.val (.int .i64 (0 : Int)), .val (.slice none 0 0)]), (3, .box [.val (.int .i64 ins_1), .h 21]), (13, .box [.val (.int .i64 (List.getD ins_2 (Int.toNat t_27) ((0 : Int), ((0 : Int), ByteArray.empty))).1), .val (.int .i64 (List.getD ins_2 (Int.toNat t_27) ((0 : Int), ((0 : Int), ByteArray.empty))).2.1), .val (.string (List.getD ins_2 (Int.toNat t_27) ((0 : Int), ((0 : Int), ByteArray.empty))).2.2)]), (18, .row (.pair (.int .i64) (.int .i64)) (List.set l_106 0 ((IntKind.wrap .i64 ((List.getD l_106 0 ((0 : Int), (0 : Int))).1 - (mn2 (List.getD l_106 0 ((0 : Int), (0 : Int))).1 (IntKind.wrap .i64 ((List.getD ins_2 (Int.toNat t_27) ((0 : Int), ((0 : Int), ByteArray.empty))).2.1 - at_88))))), (List.getD l_106 0 ((0 : Int), (0 : Int))).2))), (21, .row (.pair (.int .i64) (.pair (.int .i64) .str)) y_182)], 22⟩ [(0 : Int) ≤ (0 : Int), (0 : Int) < (((List.length l_106) : Nat) : Int), (0 : Int) ≤ (0 : Int), (0 : Int) < (((List.length l_106) : Nat) : Int), (0 : Int) ≤ (0 : Int), (0 : Int) < (((List.length (List.set l_106 0 ((IntKind.wrap .i64 ((List.getD l_106 0 ((0 : Int), (0 : Int))).1 - (mn2 (List.getD l_106 0 ((0 : Int), (0 : Int))).1 (IntKind.wrap .i64 ((List.getD ins_2 (Int.toNat t_27) ((0 : Int), ((0 : Int), ByteArray.empty))).2.1 - at_88))))), (List.getD l_106 0 ((0 : Int), (0 : Int))).2))) : Nat) : Int)] (by kernel_rfl) rfl rfl (ap2 (by decide) (ap2 c_113 (ap2 (by decide) (ap2 c_113 (ap2 (by decide) (ap1 c_121)))))) ?_
                  refine VL_cond (((List.getD (List.set l_106 0 ((IntKind.wrap .i64 ((List.getD l_106 0 ((0 : Int), (0 : Int))).1 - (mn2 (List.getD l_106 0 ((0 : Int), (0 : Int))).1 (IntKind.wrap .i64 ((List.getD ins_2 (Int.toNat t_27) ((0 : Int), ((0 : Int), ByteArray.empty))).2.1 - at_88))))), (List.getD l_106 0 ((0 : Int), (0 : Int))).2)) 0 ((0 : Int), (0 : Int))).1 == (0 : Int))) (by kernel_rfl) ?_ ?_
                  · intro b_122; have H_189 := of_t H_188 b_122
                    obtain ⟨c_123, H_191⟩ := of_if H_189
                    refine V_run hN hn 1 22 [4, 7, 8, 10, 11, 36, 37, 38] [1, 3, 13, 18, 21] ⟨[(4, .c (.h 1)), (7, .c (.sub 18 2 1 ((List.length (List.set l_106 0 ((IntKind.wrap .i64 ((List.getD l_106 0 ((0 : Int), (0 : Int))).1 - (mn2 (List.getD l_106 0 ((0 : Int), (0 : Int))).1 (IntKind.wrap .i64 ((List.getD ins_2 (Int.toNat t_27) ((0 : Int), ((0 : Int), ByteArray.empty))).2.1 - at_88))))), (List.getD l_106 0 ((0 : Int), (0 : Int))).2))) - 1))), (8, .c (.h 3)), (10, .c (.h 13)), (11, .c (.val (.int .i64 (IntKind.wrap .i64 (at_88 + (mn2 (List.getD l_106 0 ((0 : Int), (0 : Int))).1 (IntKind.wrap .i64 ((List.getD ins_2 (Int.toNat t_27) ((0 : Int), ((0 : Int), ByteArray.empty))).2.1 - at_88)))))))), (36, .c (.imm (.slice (.pair (.int .i64) (.pair (.int .i64) .str))) ins_2)), (37, .c (.val (.int .i64 (((List.length ins_2) : Nat) : Int)))), (38, .c (.val (.int .i64 t_27)))], [(1, .box [.val (.int .i64 (0 : Int)), .val (.slice none 0 0)]), (3, .box [.val (.int .i64 ins_1), .h 21]), (13, .box [.val (.int .i64 (List.getD ins_2 (Int.toNat t_27) ((0 : Int), ((0 : Int), ByteArray.empty))).1), .val (.int .i64 (List.getD ins_2 (Int.toNat t_27) ((0 : Int), ((0 : Int), ByteArray.empty))).2.1), .val (.string (List.getD ins_2 (Int.toNat t_27) ((0 : Int), ((0 : Int), ByteArray.empty))).2.2)]), (18, .row (.pair (.int .i64) (.int .i64)) (List.set l_106 0 ((IntKind.wrap .i64 ((List.getD l_106 0 ((0 : Int), (0 : Int))).1 - (mn2 (List.getD l_106 0 ((0 : Int), (0 : Int))).1 (IntKind.wrap .i64 ((List.getD ins_2 (Int.toNat t_27) ((0 : Int), ((0 : Int), ByteArray.empty))).2.1 - at_88))))), (List.getD l_106 0 ((0 : Int), (0 : Int))).2))), (21, .row (.pair (.int .i64) (.pair (.int .i64) .str)) y_182)], 22⟩ [(0 : Int) ≤ (1 : Int), (1 : Int) ≤ (((List.length (List.set l_106 0 ((IntKind.wrap .i64 ((List.getD l_106 0 ((0 : Int), (0 : Int))).1 - (mn2 (List.getD l_106 0 ((0 : Int), (0 : Int))).1 (IntKind.wrap .i64 ((List.getD ins_2 (Int.toNat t_27) ((0 : Int), ((0 : Int), ByteArray.empty))).2.1 - at_88))))), (List.getD l_106 0 ((0 : Int), (0 : Int))).2))) : Nat) : Int)] (by kernel_rfl) rfl rfl (ap2 (by decide) (ap1 c_123)) ?_
                    refine VL_nil (QB_end ?_)
                    refine VL_nil ?_
                    refine P_ghost [.own 7] 22 hn [4, 7, 8, 10, 11, 36, 37, 38] [1, 3, 13, 21, 22] ⟨[(4, .c (.h 1)), (7, .c (.h 22)), (8, .c (.h 3)), (10, .c (.h 13)), (11, .c (.val (.int .i64 (IntKind.wrap .i64 (at_88 + (mn2 (List.getD l_106 0 ((0 : Int), (0 : Int))).1 (IntKind.wrap .i64 ((List.getD ins_2 (Int.toNat t_27) ((0 : Int), ((0 : Int), ByteArray.empty))).2.1 - at_88)))))))), (36, .c (.imm (.slice (.pair (.int .i64) (.pair (.int .i64) .str))) ins_2)), (37, .c (.val (.int .i64 (((List.length ins_2) : Nat) : Int)))), (38, .c (.val (.int .i64 t_27)))], [(1, .box [.val (.int .i64 (0 : Int)), .val (.slice none 0 0)]), (3, .box [.val (.int .i64 ins_1), .h 21]), (13, .box [.val (.int .i64 (List.getD ins_2 (Int.toNat t_27) ((0 : Int), ((0 : Int), ByteArray.empty))).1), .val (.int .i64 (List.getD ins_2 (Int.toNat t_27) ((0 : Int), ((0 : Int), ByteArray.empty))).2.1), .val (.string (List.getD ins_2 (Int.toNat t_27) ((0 : Int), ((0 : Int), ByteArray.empty))).2.2)]), (21, .row (.pair (.int .i64) (.pair (.int .i64) .str)) y_182), (22, .row (.pair (.int .i64) (.int .i64)) (List.take ((List.length (List.set l_106 0 ((IntKind.wrap .i64 ((List.getD l_106 0 ((0 : Int), (0 : Int))).1 - (mn2 (List.getD l_106 0 ((0 : Int), (0 : Int))).1 (IntKind.wrap .i64 ((List.getD ins_2 (Int.toNat t_27) ((0 : Int), ((0 : Int), ByteArray.empty))).2.1 - at_88))))), (List.getD l_106 0 ((0 : Int), (0 : Int))).2))) - 1) (List.drop 1 (List.set l_106 0 ((IntKind.wrap .i64 ((List.getD l_106 0 ((0 : Int), (0 : Int))).1 - (mn2 (List.getD l_106 0 ((0 : Int), (0 : Int))).1 (IntKind.wrap .i64 ((List.getD ins_2 (Int.toNat t_27) ((0 : Int), ((0 : Int), ByteArray.empty))).2.1 - at_88))))), (List.getD l_106 0 ((0 : Int), (0 : Int))).2)))))], 23⟩ (by kernel_rfl) rfl rfl ?_
                    exact V_roundEnd ((List.take ((List.length (List.set l_106 0 ((IntKind.wrap .i64 ((List.getD l_106 0 ((0 : Int), (0 : Int))).1 - (mn2 (List.getD l_106 0 ((0 : Int), (0 : Int))).1 (IntKind.wrap .i64 ((List.getD ins_2 (Int.toNat t_27) ((0 : Int), ((0 : Int), ByteArray.empty))).2.1 - at_88))))), (List.getD l_106 0 ((0 : Int), (0 : Int))).2))) - 1) (List.drop 1 (List.set l_106 0 ((IntKind.wrap .i64 ((List.getD l_106 0 ((0 : Int), (0 : Int))).1 - (mn2 (List.getD l_106 0 ((0 : Int), (0 : Int))).1 (IntKind.wrap .i64 ((List.getD ins_2 (Int.toNat t_27) ((0 : Int), ((0 : Int), ByteArray.empty))).2.1 - at_88))))), (List.getD l_106 0 ((0 : Int), (0 : Int))).2)))), y_182, (IntKind.wrap .i64 (at_88 + (mn2 (List.getD l_106 0 ((0 : Int), (0 : Int))).1 (IntKind.wrap .i64 ((List.getD ins_2 (Int.toNat t_27) ((0 : Int), ((0 : Int), ByteArray.empty))).2.1 - at_88)))))) H_191 [(1, 1), (3, 3), (13, 13), (18, 22), (19, 21)] hn (by kernel_rfl) (by kernel_rfl) rfl rfl rfl
                  · intro b_122; have H_190 := of_f H_188 b_122
                    refine V_run hN hn 1 22 [4, 7, 8, 10, 11, 36, 37, 38, 87] [1, 3, 13, 18, 21] ⟨[(4, .c (.h 1)), (7, .c (.h 18)), (8, .c (.h 3)), (10, .c (.h 13)), (11, .c (.val (.int .i64 (IntKind.wrap .i64 (at_88 + (mn2 (List.getD l_106 0 ((0 : Int), (0 : Int))).1 (IntKind.wrap .i64 ((List.getD ins_2 (Int.toNat t_27) ((0 : Int), ((0 : Int), ByteArray.empty))).2.1 - at_88)))))))), (36, .c (.imm (.slice (.pair (.int .i64) (.pair (.int .i64) .str))) ins_2)), (37, .c (.val (.int .i64 (((List.length ins_2) : Nat) : Int)))), (38, .c (.val (.int .i64 t_27))), (87, .c (.val (.bool ((List.getD (List.set l_106 0 ((IntKind.wrap .i64 ((List.getD l_106 0 ((0 : Int), (0 : Int))).1 - (mn2 (List.getD l_106 0 ((0 : Int), (0 : Int))).1 (IntKind.wrap .i64 ((List.getD ins_2 (Int.toNat t_27) ((0 : Int), ((0 : Int), ByteArray.empty))).2.1 - at_88))))), (List.getD l_106 0 ((0 : Int), (0 : Int))).2)) 0 ((0 : Int), (0 : Int))).1 == (0 : Int)))))], [(1, .box [.val (.int .i64 (0 : Int)), .val (.slice none 0 0)]), (3, .box [.val (.int .i64 ins_1), .h 21]), (13, .box [.val (.int .i64 (List.getD ins_2 (Int.toNat t_27) ((0 : Int), ((0 : Int), ByteArray.empty))).1), .val (.int .i64 (List.getD ins_2 (Int.toNat t_27) ((0 : Int), ((0 : Int), ByteArray.empty))).2.1), .val (.string (List.getD ins_2 (Int.toNat t_27) ((0 : Int), ((0 : Int), ByteArray.empty))).2.2)]), (18, .row (.pair (.int .i64) (.int .i64)) (List.set l_106 0 ((IntKind.wrap .i64 ((List.getD l_106 0 ((0 : Int), (0 : Int))).1 - (mn2 (List.getD l_106 0 ((0 : Int), (0 : Int))).1 (IntKind.wrap .i64 ((List.getD ins_2 (Int.toNat t_27) ((0 : Int), ((0 : Int), ByteArray.empty))).2.1 - at_88))))), (List.getD l_106 0 ((0 : Int), (0 : Int))).2))), (21, .row (.pair (.int .i64) (.pair (.int .i64) .str)) y_182)], 22⟩ [] (by kernel_rfl) rfl rfl ap0 ?_
                    refine VL_nil (QB_end ?_)
                    refine VL_nil ?_
                    exact V_roundEnd ((List.set l_106 0 ((IntKind.wrap .i64 ((List.getD l_106 0 ((0 : Int), (0 : Int))).1 - (mn2 (List.getD l_106 0 ((0 : Int), (0 : Int))).1 (IntKind.wrap .i64 ((List.getD ins_2 (Int.toNat t_27) ((0 : Int), ((0 : Int), ByteArray.empty))).2.1 - at_88))))), (List.getD l_106 0 ((0 : Int), (0 : Int))).2)), y_182, (IntKind.wrap .i64 (at_88 + (mn2 (List.getD l_106 0 ((0 : Int), (0 : Int))).1 (IntKind.wrap .i64 ((List.getD ins_2 (Int.toNat t_27) ((0 : Int), ((0 : Int), ByteArray.empty))).2.1 - at_88)))))) H_190 [(1, 1), (3, 3), (13, 13), (18, 18), (19, 21)] hn (by kernel_rfl) (by kernel_rfl) rfl rfl rfl
              · intro b_110; have H_177 := of_f H_175 b_110
                refine VL_exit ?_
                refine QL_exit ?_
                refine QB_here ?_
                refine VL_nil (QB_end ?_)
                have H_192 := Option.some.inj (show some (l_106, x_107) = some q_168 from H_177); subst H_192
                refine VL_nil ?_
                exact QP_end (l_106, x_107) rfl [(1, 1), (3, 3), (18, 18), (19, 19)] hn (by kernel_rfl) (by kernel_rfl) rfl rfl rfl
            · intro y_171 hy; subst hy
              obtain ⟨l_125, x_126⟩ := y_171
              refine V_run hN hn 1 20 [4, 7, 8, 36, 37, 38] [1, 3, 18, 19] ⟨[(4, .c (.h 1)), (7, .c (.h 18)), (8, .c (.h 3)), (36, .c (.imm (.slice (.pair (.int .i64) (.pair (.int .i64) .str))) ins_2)), (37, .c (.val (.int .i64 (((List.length ins_2) : Nat) : Int)))), (38, .c (.val (.int .i64 (IntKind.wrap .i64 (t_27 + (1 : Int))))))], [(1, .box [.val (.int .i64 (0 : Int)), .val (.slice none 0 0)]), (3, .box [.val (.int .i64 ins_1), .h 19]), (18, .row (.pair (.int .i64) (.int .i64)) l_125), (19, .row (.pair (.int .i64) (.pair (.int .i64) .str)) x_126)], 20⟩ [] (by kernel_rfl) rfl rfl ap0 ?_
              refine VL_nil ?_
              exact V_roundEnd (l_125, x_126, (IntKind.wrap .i64 (t_27 + (1 : Int)))) H_170 [(1, 1), (3, 3), (11, 18), (12, 19)] hn (by kernel_rfl) (by kernel_rfl) rfl rfl rfl
          · intro b_81; have H_167 := of_f H_165 b_81
            refine VL_exit ?_
            refine QL_exit ?_
            refine QB_here ?_
            have H_193 := Option.some.inj (show some x_78 = some q_160 from H_167); subst H_193
            refine VL_nil ?_
            exact QP_end x_78 rfl [(1, 1), (3, 3), (12, 12)] hn (by kernel_rfl) (by kernel_rfl) rfl rfl rfl
        · intro y_163 hy; subst hy
          skip
          skip
          refine V_run hN hn 1 13 [4, 8] [1, 3, 12] ⟨[(4, .c (.h 1)), (8, .c (.h 3))], [(1, .box [.val (.int .i64 (0 : Int)), .val (.slice none 0 0)]), (3, .box [.val (.int .i64 ins_1), .h 12]), (12, .row (.pair (.int .i64) (.pair (.int .i64) .str)) y_163)], 13⟩ [] (by kernel_rfl) rfl rfl ap0 ?_
          refine V_ghost [.shut 12] 13 hn [4, 8] [1, 3] ⟨[(4, .c (.h 1)), (8, .c (.h 3))], [(1, .box [.val (.int .i64 (0 : Int)), .val (.slice none 0 0)]), (3, .box [.val (.int .i64 ins_1), .imm (.slice (.pair (.int .i64) (.pair (.int .i64) .str))) y_163])], 13⟩ (by kernel_rfl) rfl rfl ?_
          obtain ⟨r_130, h_131, H_194⟩ := of_bind H_162
          refine V_reg hN hn [(1, ⟨43, 1, [.c (.h 0)], [(0, .box [.val (.int .i64 ins_1), .imm (.slice (.pair (.int .i64) (.pair (.int .i64) .str))) y_163])], .tup [(true, [.val (.int .i64 r_130.1), .imm (.slice (.pair (.int .i64) (.pair (.int .i64) .str))) r_130.2.1]), (false, [.val (.int .i64 r_130.2.2)])], [(0, .box [.val (.int .i64 ins_1), .imm (.slice (.pair (.int .i64) (.pair (.int .i64) .str))) y_163])], [(0, 3)], 13⟩)] [] (calls_cons (delta_Maker_Delta_b_ee1c6_spec K ins_1 y_163 r_130 h_131) (by kernel_rfl) calls_nil) 13 [4, 5] [1] ⟨[(4, .c (.h 1)), (5, .c (.val (.int .i64 r_130.2.2)))], [(1, .box [.val (.int .i64 r_130.1), .imm (.slice (.pair (.int .i64) (.pair (.int .i64) .str))) r_130.2.1])], 13⟩ [] (by kernel_rfl) rfl rfl ap0 (by kernel_rfl) (by kernel_rfl) ?_
          have H_195 := Option.some.inj (show some (r_130.1, r_130.2.1, r_130.2.2) = some r from H_194); subst H_195
          refine VL_ret ?_
          exact P_to [(4, .c (.h 1)), (5, .c (.val (.int .i64 r_130.2.2)))] [(1, .box [.val (.int .i64 r_130.1), .imm (.slice (.pair (.int .i64) (.pair (.int .i64) .str))) r_130.2.1])] [(1, 1)] hn (by kernel_rfl) (by kernel_rfl) rfl rfl rfl (QF_retS (by kernel_rfl) (by kernel_rfl) rfl)

theorem factor_Inserted_spec (K : Nat) (d_1 : Int) (d_2 : (List (Int × (Int × ByteArray)))) (r : ((Option ((List (Int × Int)) × Int)) × Int)) (H : factor_Inserted K d_1 d_2 = some r) : Spec Try.prog 11 0 [.agg [.val (.int .i64 d_1), .imm (.slice (.pair (.int .i64) (.pair (.int .i64) .str))) d_2]] [] (.tup [(false, [.imm (.opt (.pair (.slice (.pair (.int .i64) (.int .i64))) (.int .i64))) r.1]), (false, [.val (.int .i64 r.2)])]) [] := by
  refine Spec_mk (fn := Try.f11) (c := (Try.f11.body).get!) Try.func11 (by kernel_rfl) rfl ?_
  intro C hN hn
  replace hN : C.N = 35 := hN
  unfold factor_Inserted at H
  refine V_run hN hn 4 0 [1] [0] ⟨[(1, .c (.h 0))], [(0, .box [.val (.int .i64 d_1), .imm (.slice (.pair (.int .i64) (.pair (.int .i64) .str))) d_2])], 1⟩ [] (by kernel_rfl) rfl rfl ap0 ?_
  obtain ⟨r_4, h_5, H_32⟩ := of_bind H
  refine V_reg hN hn [(1, ⟨44, 0, [.agg [.val (.int .i64 d_1), .imm (.slice (.pair (.int .i64) (.pair (.int .i64) .str))) d_2]], [], .c (.val (.bool r_4)), [], [], 1⟩)] [] (calls_cons (delta_Is_spec K d_1 d_2 r_4 h_5) (by kernel_rfl) calls_nil) 1 [1, 9] [0] ⟨[(1, .c (.h 0)), (9, .c (.val (.bool (!r_4))))], [(0, .box [.val (.int .i64 d_1), .imm (.slice (.pair (.int .i64) (.pair (.int .i64) .str))) d_2])], 1⟩ [] (by kernel_rfl) rfl rfl ap0 (by kernel_rfl) (by kernel_rfl) ?_
  refine VL_cond ((!r_4)) (by kernel_rfl) ?_ ?_
  · intro b_7; have H_33 := of_t H_32 b_7
    refine V_run hN hn 2 1 [2, 3] [] ⟨[(2, .c (.val (.pointer none))), (3, .c (.val (.int .i64 (12 : Int))))], [], 1⟩ [] (by kernel_rfl) rfl rfl ap0 ?_
    have H_35 := Option.some.inj (show some ((none : (Option ((List (Int × Int)) × Int))), (12 : Int)) = some r from H_33); subst H_35
    refine VL_ret ?_
    refine P_ghost [.read 2 (.opt (.pair (.slice (.pair (.int .i64) (.int .i64))) (.int .i64)))] 1 hn [2, 3] [] ⟨[(2, .c (.imm (.opt (.pair (.slice (.pair (.int .i64) (.int .i64))) (.int .i64))) (none : (Option ((List (Int × Int)) × Int))))), (3, .c (.val (.int .i64 (12 : Int))))], [], 1⟩ (by kernel_rfl) rfl rfl ?_
    exact P_to [(2, .c (.imm (.opt (.pair (.slice (.pair (.int .i64) (.int .i64))) (.int .i64))) (none : (Option ((List (Int × Int)) × Int))))), (3, .c (.val (.int .i64 (12 : Int))))] [] [] hn (by kernel_rfl) (by kernel_rfl) rfl rfl rfl (QF_retS (by kernel_rfl) (by kernel_rfl) rfl)
  · intro b_7; have H_34 := of_f H_32 b_7
    refine V_run hN hn 6 1 [4, 11, 12, 13] [] ⟨[(4, .c (.val (.slice none 0 0))), (11, .c (.imm (.slice (.pair (.int .i64) (.pair (.int .i64) .str))) d_2)), (12, .c (.val (.int .i64 (((List.length d_2) : Nat) : Int)))), (13, .c (.val (.int .i64 (0 : Int))))], [], 1⟩ [] (by kernel_rfl) rfl rfl ap0 ?_
    obtain ⟨q_36, H_37, H_38⟩ := of_bind H_34
    refine V_cut (Y := (List (Int × Int))) (R := (List (Int × Int))) q_36 (fun y => y) (fun y => [(4, .c (.h 5))]) (fun y => [(5, .row (.pair (.int .i64) (.int .i64)) y)]) ?_ ?_
    · skip
      refine VL_block ?_
      refine V_ghost [.nilSlot 4 (.pair (.int .i64) (.int .i64))] 1 hn [4, 11, 12, 13] [1] ⟨[(4, .c (.h 1)), (11, .c (.imm (.slice (.pair (.int .i64) (.pair (.int .i64) .str))) d_2)), (12, .c (.val (.int .i64 (((List.length d_2) : Nat) : Int)))), (13, .c (.val (.int .i64 (0 : Int))))], [(1, .row (.pair (.int .i64) (.int .i64)) ([] : List (Int × Int)))], 2⟩ (by kernel_rfl) rfl rfl ?_
      refine V_to [(4, .c (.h 5)), (11, .c (.imm (.slice (.pair (.int .i64) (.pair (.int .i64) .str))) d_2)), (12, .c (.val (.int .i64 (((List.length d_2) : Nat) : Int)))), (13, .c (.val (.int .i64 (0 : Int))))] [(5, .row (.pair (.int .i64) (.int .i64)) ([] : List (Int × Int)))] [(5, 1)] hn (by kernel_rfl) (by kernel_rfl) rfl rfl rfl ?_
      refine VL_loop (X := ((List (Int × Int)) × Int)) (fun x => [(4, .c (.h 5)), (11, .c (.imm (.slice (.pair (.int .i64) (.pair (.int .i64) .str))) d_2)), (12, .c (.val (.int .i64 (((List.length d_2) : Nat) : Int)))), (13, .c (.val (.int .i64 x.2)))]) (fun x => [(5, .row (.pair (.int .i64) (.int .i64)) x.1)]) (fun k x => factor_Inserted.l0 K d_2 k x.1 x.2 = some q_36) K (([] : List (Int × Int)), (0 : Int)) H_37 (fun _ h => no_none h) ?_
      intro k_18 x_18 H_40
      obtain ⟨out_17, t_10⟩ := x_18
      have H_41 : factor_Inserted.l0 K d_2 (k_18 + 1) out_17 t_10 = some q_36 := H_40
      rw [factor_Inserted.l0] at H_41
      refine V_run hN hn 3 6 [4, 11, 12, 13, 14] [5] ⟨[(4, .c (.h 5)), (11, .c (.imm (.slice (.pair (.int .i64) (.pair (.int .i64) .str))) d_2)), (12, .c (.val (.int .i64 (((List.length d_2) : Nat) : Int)))), (13, .c (.val (.int .i64 t_10))), (14, .c (.val (.bool (decide (t_10 < (((List.length d_2) : Nat) : Int))))))], [(5, .row (.pair (.int .i64) (.int .i64)) out_17)], 6⟩ [] (by kernel_rfl) rfl rfl ap0 ?_
      refine VL_cond ((decide (t_10 < (((List.length d_2) : Nat) : Int)))) (by kernel_rfl) ?_ ?_
      · intro b_20; have H_42 := of_t H_41 b_20
        refine V_run hN hn 2 6 [4, 11, 12, 13, 14] [5] ⟨[(4, .c (.h 5)), (11, .c (.imm (.slice (.pair (.int .i64) (.pair (.int .i64) .str))) d_2)), (12, .c (.val (.int .i64 (((List.length d_2) : Nat) : Int)))), (13, .c (.val (.int .i64 t_10))), (14, .c (.val (.bool (decide (t_10 < (((List.length d_2) : Nat) : Int))))))], [(5, .row (.pair (.int .i64) (.int .i64)) out_17)], 6⟩ [] (by kernel_rfl) rfl rfl ap0 ?_
        refine VL_block ?_
        obtain ⟨c_22, H_44⟩ := of_if H_42
        refine V_run hN hn 3 6 [4, 11, 12, 13] [8] ⟨[(4, .c (.h 8)), (11, .c (.imm (.slice (.pair (.int .i64) (.pair (.int .i64) .str))) d_2)), (12, .c (.val (.int .i64 (((List.length d_2) : Nat) : Int)))), (13, .c (.val (.int .i64 t_10)))], [(8, .row (.pair (.int .i64) (.int .i64)) (out_17 ++ ([((IntKind.wrap .i64 ((List.getD d_2 (Int.toNat t_10) ((0 : Int), ((0 : Int), ByteArray.empty))).2.1 - (List.getD d_2 (Int.toNat t_10) ((0 : Int), ((0 : Int), ByteArray.empty))).1)), (0 : Int)), ((((ByteArray.size (List.getD d_2 (Int.toNat t_10) ((0 : Int), ((0 : Int), ByteArray.empty))).2.2) : Nat) : Int), (1 : Int))] : List (Int × Int))))], 9⟩ [0 ≤ t_10, t_10 < (((List.length d_2) : Nat) : Int), (List.length out_17 + List.length ([((IntKind.wrap .i64 ((List.getD d_2 (Int.toNat t_10) ((0 : Int), ((0 : Int), ByteArray.empty))).2.1 - (List.getD d_2 (Int.toNat t_10) ((0 : Int), ((0 : Int), ByteArray.empty))).1)), (0 : Int)), ((((ByteArray.size (List.getD d_2 (Int.toNat t_10) ((0 : Int), ((0 : Int), ByteArray.empty))).2.2) : Nat) : Int), (1 : Int))] : List (Int × Int))) * 16 ≤ 140737488355328] (by kernel_rfl) rfl rfl (ap2 c_22.1 (ap2 c_22.2.1 (ap1 c_22.2.2))) ?_
        refine VL_nil (QB_end ?_)
        refine V_run hN hn 1 9 [4, 11, 12, 13] [8] ⟨[(4, .c (.h 8)), (11, .c (.imm (.slice (.pair (.int .i64) (.pair (.int .i64) .str))) d_2)), (12, .c (.val (.int .i64 (((List.length d_2) : Nat) : Int)))), (13, .c (.val (.int .i64 (IntKind.wrap .i64 (t_10 + (1 : Int))))))], [(8, .row (.pair (.int .i64) (.int .i64)) (out_17 ++ ([((IntKind.wrap .i64 ((List.getD d_2 (Int.toNat t_10) ((0 : Int), ((0 : Int), ByteArray.empty))).2.1 - (List.getD d_2 (Int.toNat t_10) ((0 : Int), ((0 : Int), ByteArray.empty))).1)), (0 : Int)), ((((ByteArray.size (List.getD d_2 (Int.toNat t_10) ((0 : Int), ((0 : Int), ByteArray.empty))).2.2) : Nat) : Int), (1 : Int))] : List (Int × Int))))], 9⟩ [] (by kernel_rfl) rfl rfl ap0 ?_
        refine VL_nil ?_
        exact V_roundEnd ((out_17 ++ ([((IntKind.wrap .i64 ((List.getD d_2 (Int.toNat t_10) ((0 : Int), ((0 : Int), ByteArray.empty))).2.1 - (List.getD d_2 (Int.toNat t_10) ((0 : Int), ((0 : Int), ByteArray.empty))).1)), (0 : Int)), ((((ByteArray.size (List.getD d_2 (Int.toNat t_10) ((0 : Int), ((0 : Int), ByteArray.empty))).2.2) : Nat) : Int), (1 : Int))] : List (Int × Int))), (IntKind.wrap .i64 (t_10 + (1 : Int)))) H_44 [(5, 8)] hn (by kernel_rfl) (by kernel_rfl) rfl rfl rfl
      · intro b_20; have H_43 := of_f H_41 b_20
        refine VL_exit ?_
        refine QL_exit ?_
        refine QB_here ?_
        have H_45 := Option.some.inj (show some out_17 = some q_36 from H_43); subst H_45
        refine VL_nil ?_
        exact QP_end out_17 rfl [(5, 5)] hn (by kernel_rfl) (by kernel_rfl) rfl rfl rfl
    · intro y_39 hy; subst hy
      skip
      skip
      refine V_run hN hn 1 6 [4] [5] ⟨[(4, .c (.h 5))], [(5, .row (.pair (.int .i64) (.int .i64)) y_39)], 6⟩ [] (by kernel_rfl) rfl rfl ap0 ?_
      obtain ⟨r_26, h_27, H_46⟩ := of_bind H_38
      refine V_reg hN hn [(1, ⟨45, 1, [.c (.h 0)], [(0, .row (.pair (.int .i64) (.int .i64)) y_39)], .tup [(false, [.imm (.opt (.pair (.slice (.pair (.int .i64) (.int .i64))) (.int .i64))) r_26.1]), (false, [.val (.int .i64 r_26.2)])], [(0, .row (.pair (.int .i64) (.int .i64)) y_39)], [(0, 5)], 6⟩)] [] (calls_cons (subset_Pack_r_spec K y_39 r_26 h_27) (by kernel_rfl) calls_nil) 6 [2, 3] [] ⟨[(2, .c (.imm (.opt (.pair (.slice (.pair (.int .i64) (.int .i64))) (.int .i64))) r_26.1)), (3, .c (.val (.int .i64 r_26.2)))], [], 6⟩ [] (by kernel_rfl) rfl rfl ap0 (by kernel_rfl) (by kernel_rfl) ?_
      have H_47 := Option.some.inj (show some (r_26.1, r_26.2) = some r from H_46); subst H_47
      refine VL_ret ?_
      exact P_to [(2, .c (.imm (.opt (.pair (.slice (.pair (.int .i64) (.int .i64))) (.int .i64))) r_26.1)), (3, .c (.val (.int .i64 r_26.2)))] [] [] hn (by kernel_rfl) (by kernel_rfl) rfl rfl rfl (QF_retS (by kernel_rfl) (by kernel_rfl) rfl)

theorem delta_Is_sgn_spec (K : Nat) (d_1 : Int) (r : Bool) (H : delta_Is_sgn K d_1 = some r) : Spec Try.prog 44 0 [.agg [.val (.int .i64 d_1), .val (.slice none 0 0)]] [] (.c (.val (.bool r))) [] := by
  refine Spec_mk (fn := Try.f44) (c := (Try.f44.body).get!) Try.func44 (by kernel_rfl) rfl ?_
  intro C hN hn
  replace hN : C.N = 68 := hN
  unfold delta_Is_sgn at H
  refine V_run hN hn 4 0 [1] [0] ⟨[(1, .c (.h 0))], [(0, .box [.val (.int .i64 d_1), .val (.slice none 0 0)])], 1⟩ [] (by kernel_rfl) rfl rfl ap0 ?_
  obtain ⟨q_52, H_53, H_54⟩ := of_bind H
  refine V_cut (Y := Bool) (R := Bool) q_52 (fun y => y) (fun y => [(1, .c (.h 0)), (21, .c (.val (.bool y)))]) (fun y => [(0, .box [.val (.int .i64 d_1), .val (.slice none 0 0)])]) ?_ ?_
  · skip
    rcases Bool.eq_false_or_eq_true ((decide (d_1 < (0 : Int)))) with b_3 | b_3
    · have H_56 := of_t H_53 b_3
      refine V_reg hN hn [] [(11, true)] calls_nil 1 [1, 21] [0] ⟨[(1, .c (.h 0)), (21, .c (.val (.bool true)))], [(0, .box [.val (.int .i64 d_1), .val (.slice none 0 0)])], 1⟩ [(decide (d_1 < (0 : Int))) = true] (by kernel_rfl) rfl rfl (ap1 b_3) (by kernel_rfl) (by kernel_rfl) ?_
      have H_58 := Option.some.inj (show some true = some q_52 from H_56); subst H_58
      refine VL_nil ?_
      exact QP_end true rfl [(0, 0)] hn (by kernel_rfl) (by kernel_rfl) rfl rfl rfl
    · have H_57 := of_f H_53 b_3
      rcases Bool.eq_false_or_eq_true ((decide (d_1 > (20000 : Int)))) with b_5 | b_5
      · have H_59 := of_t H_57 b_5
        refine V_reg hN hn [] [(11, false), (16, true)] calls_nil 1 [1, 21] [0] ⟨[(1, .c (.h 0)), (21, .c (.val (.bool true)))], [(0, .box [.val (.int .i64 d_1), .val (.slice none 0 0)])], 1⟩ [(decide (d_1 < (0 : Int))) = false, (decide (d_1 > (20000 : Int))) = true] (by kernel_rfl) rfl rfl (ap2 b_3 (ap1 b_5)) (by kernel_rfl) (by kernel_rfl) ?_
        have H_61 := Option.some.inj (show some true = some q_52 from H_59); subst H_61
        refine VL_nil ?_
        exact QP_end true rfl [(0, 0)] hn (by kernel_rfl) (by kernel_rfl) rfl rfl rfl
      · have H_60 := of_f H_57 b_5
        refine V_reg hN hn [] [(11, false), (16, false)] calls_nil 1 [1, 21] [0] ⟨[(1, .c (.h 0)), (21, .c (.val (.bool false)))], [(0, .box [.val (.int .i64 d_1), .val (.slice none 0 0)])], 1⟩ [(decide (d_1 < (0 : Int))) = false, (decide (d_1 > (20000 : Int))) = false] (by kernel_rfl) rfl rfl (ap2 b_3 (ap1 b_5)) (by kernel_rfl) (by kernel_rfl) ?_
        have H_62 := Option.some.inj (show some false = some q_52 from H_60); subst H_62
        refine VL_nil ?_
        exact QP_end false rfl [(0, 0)] hn (by kernel_rfl) (by kernel_rfl) rfl rfl rfl
  · intro y_55 hy; subst hy
    skip
    skip
    refine VL_cond (y_55) (by kernel_rfl) ?_ ?_
    · intro b_9; have H_63 := of_t H_54 b_9
      refine V_run hN hn 2 1 [2] [] ⟨[(2, .c (.val (.bool false)))], [], 1⟩ [] (by kernel_rfl) rfl rfl ap0 ?_
      have H_65 := Option.some.inj (show some false = some r from H_63); subst H_65
      refine VL_ret ?_
      exact P_to [(2, .c (.val (.bool false)))] [] [] hn (by kernel_rfl) (by kernel_rfl) rfl rfl rfl (QF_retS (by kernel_rfl) (by kernel_rfl) rfl)
    · intro b_9; have H_64 := of_f H_54 b_9
      refine V_run hN hn 6 1 [1, 3, 4, 23, 24, 25] [0] ⟨[(1, .c (.h 0)), (3, .c (.val (.int .i64 (0 : Int)))), (4, .c (.val (.int .i64 (0 : Int)))), (23, .c (.val (.slice none 0 0))), (24, .c (.val (.int .i64 (0 : Int)))), (25, .c (.val (.int .i64 (0 : Int))))], [(0, .box [.val (.int .i64 d_1), .val (.slice none 0 0)])], 1⟩ [] (by kernel_rfl) rfl rfl ap0 ?_
      refine VL_block ?_
      refine V_to [(1, .c (.h 0)), (3, .c (.val (.int .i64 (0 : Int)))), (4, .c (.val (.int .i64 (0 : Int)))), (23, .c (.val (.slice none 0 0))), (24, .c (.val (.int .i64 (0 : Int)))), (25, .c (.val (.int .i64 (0 : Int))))] [(0, .box [.val (.int .i64 d_1), .val (.slice none 0 0)])] [(0, 0)] hn (by kernel_rfl) (by kernel_rfl) rfl rfl rfl ?_
      refine VL_loop (X := (Int × Int × Int)) (fun x => [(1, .c (.h 0)), (3, .c (.val (.int .i64 x.1))), (4, .c (.val (.int .i64 x.2.1))), (23, .c (.val (.slice none 0 0))), (24, .c (.val (.int .i64 (0 : Int)))), (25, .c (.val (.int .i64 x.2.2)))]) (fun x => [(0, .box [.val (.int .i64 d_1), .val (.slice none 0 0)])]) (fun k x => delta_Is_sgn.l0 K d_1 k x.1 x.2.1 x.2.2 = some r) K ((0 : Int), (0 : Int), (0 : Int)) H_64 (fun _ h => no_none h) ?_
      intro k_15 x_15 H_66
      obtain ⟨size_12, to_13, t_14⟩ := x_15
      have H_67 : delta_Is_sgn.l0 K d_1 (k_15 + 1) size_12 to_13 t_14 = some r := H_66
      rw [delta_Is_sgn.l0] at H_67
      refine V_run hN hn 3 1 [1, 3, 4, 23, 24, 25, 26] [0] ⟨[(1, .c (.h 0)), (3, .c (.val (.int .i64 size_12))), (4, .c (.val (.int .i64 to_13))), (23, .c (.val (.slice none 0 0))), (24, .c (.val (.int .i64 (0 : Int)))), (25, .c (.val (.int .i64 t_14))), (26, .c (.val (.bool (decide (t_14 < (0 : Int))))))], [(0, .box [.val (.int .i64 d_1), .val (.slice none 0 0)])], 1⟩ [] (by kernel_rfl) rfl rfl ap0 ?_
      refine VL_cond ((decide (t_14 < (0 : Int)))) (by kernel_rfl) ?_ ?_
      · intro b_17; have H_68 := of_t H_67 b_17
        refine V_run hN hn 2 1 [1, 3, 4, 23, 24, 25, 26] [0] ⟨[(1, .c (.h 0)), (3, .c (.val (.int .i64 size_12))), (4, .c (.val (.int .i64 to_13))), (23, .c (.val (.slice none 0 0))), (24, .c (.val (.int .i64 (0 : Int)))), (25, .c (.val (.int .i64 t_14))), (26, .c (.val (.bool (decide (t_14 < (0 : Int))))))], [(0, .box [.val (.int .i64 d_1), .val (.slice none 0 0)])], 1⟩ [] (by kernel_rfl) rfl rfl ap0 ?_
        refine VL_block ?_
        obtain ⟨c_19, H_70⟩ := of_if H_68
        refine V_run hN hn 3 1 [1, 3, 4, 5, 6, 23, 24, 25] [0, 1] ⟨[(1, .c (.h 0)), (3, .c (.val (.int .i64 size_12))), (4, .c (.val (.int .i64 to_13))), (5, .c (.val (.int .i64 t_14))), (6, .c (.h 1)), (23, .c (.val (.slice none 0 0))), (24, .c (.val (.int .i64 (0 : Int)))), (25, .c (.val (.int .i64 t_14)))], [(0, .box [.val (.int .i64 d_1), .val (.slice none 0 0)]), (1, .box [.val (.int .i64 (List.getD ([] : List (Int × (Int × ByteArray))) (Int.toNat t_14) ((0 : Int), ((0 : Int), ByteArray.empty))).1), .val (.int .i64 (List.getD ([] : List (Int × (Int × ByteArray))) (Int.toNat t_14) ((0 : Int), ((0 : Int), ByteArray.empty))).2.1), .val (.string (List.getD ([] : List (Int × (Int × ByteArray))) (Int.toNat t_14) ((0 : Int), ((0 : Int), ByteArray.empty))).2.2)])], 2⟩ [0 ≤ t_14, t_14 < (((List.length ([] : List (Int × (Int × ByteArray)))) : Nat) : Int)] (by kernel_rfl) rfl rfl (ap2 c_19.1 (ap1 c_19.2)) ?_
        obtain ⟨q_71, H_72, H_73⟩ := of_bind H_70
        refine V_cut (Y := Bool) (R := Bool) q_71 (fun y => y) (fun y => [(1, .c (.h 0)), (3, .c (.val (.int .i64 size_12))), (4, .c (.val (.int .i64 to_13))), (5, .c (.val (.int .i64 t_14))), (6, .c (.h 1)), (7, .c (.val (.bool y))), (23, .c (.val (.slice none 0 0))), (24, .c (.val (.int .i64 (0 : Int)))), (25, .c (.val (.int .i64 t_14)))]) (fun y => [(0, .box [.val (.int .i64 d_1), .val (.slice none 0 0)]), (1, .box [.val (.int .i64 (List.getD ([] : List (Int × (Int × ByteArray))) (Int.toNat t_14) ((0 : Int), ((0 : Int), ByteArray.empty))).1), .val (.int .i64 (List.getD ([] : List (Int × (Int × ByteArray))) (Int.toNat t_14) ((0 : Int), ((0 : Int), ByteArray.empty))).2.1), .val (.string (List.getD ([] : List (Int × (Int × ByteArray))) (Int.toNat t_14) ((0 : Int), ((0 : Int), ByteArray.empty))).2.2)])]) ?_ ?_
        · skip
          rcases Bool.eq_false_or_eq_true ((decide (t_14 > (0 : Int)))) with b_20 | b_20
          · have H_75 := of_t H_72 b_20
            obtain ⟨r_21, h_22, H_77⟩ := of_bind H_75
            obtain ⟨c_23, H_78⟩ := of_if H_77
            refine V_reg hN hn [(9, ⟨40, 0, [.agg [.val (.int .i64 (List.getD ([] : List (Int × (Int × ByteArray))) (Int.toNat (IntKind.wrap .i64 (t_14 - (1 : Int)))) ((0 : Int), ((0 : Int), ByteArray.empty))).1), .val (.int .i64 (List.getD ([] : List (Int × (Int × ByteArray))) (Int.toNat (IntKind.wrap .i64 (t_14 - (1 : Int)))) ((0 : Int), ((0 : Int), ByteArray.empty))).2.1), .val (.string (List.getD ([] : List (Int × (Int × ByteArray))) (Int.toNat (IntKind.wrap .i64 (t_14 - (1 : Int)))) ((0 : Int), ((0 : Int), ByteArray.empty))).2.2)]], [], .c (.val (.bool r_21)), [], [], 2⟩)] [(32, true)] (calls_cons (delta_IsCopy_spec K (List.getD ([] : List (Int × (Int × ByteArray))) (Int.toNat (IntKind.wrap .i64 (t_14 - (1 : Int)))) ((0 : Int), ((0 : Int), ByteArray.empty))).1 (List.getD ([] : List (Int × (Int × ByteArray))) (Int.toNat (IntKind.wrap .i64 (t_14 - (1 : Int)))) ((0 : Int), ((0 : Int), ByteArray.empty))).2.1 (List.getD ([] : List (Int × (Int × ByteArray))) (Int.toNat (IntKind.wrap .i64 (t_14 - (1 : Int)))) ((0 : Int), ((0 : Int), ByteArray.empty))).2.2 r_21 h_22) (by kernel_rfl) calls_nil) 2 [1, 3, 4, 5, 6, 7, 23, 24, 25] [0, 1] ⟨[(1, .c (.h 0)), (3, .c (.val (.int .i64 size_12))), (4, .c (.val (.int .i64 to_13))), (5, .c (.val (.int .i64 t_14))), (6, .c (.h 1)), (7, .c (.val (.bool r_21))), (23, .c (.val (.slice none 0 0))), (24, .c (.val (.int .i64 (0 : Int)))), (25, .c (.val (.int .i64 t_14)))], [(0, .box [.val (.int .i64 d_1), .val (.slice none 0 0)]), (1, .box [.val (.int .i64 (List.getD ([] : List (Int × (Int × ByteArray))) (Int.toNat t_14) ((0 : Int), ((0 : Int), ByteArray.empty))).1), .val (.int .i64 (List.getD ([] : List (Int × (Int × ByteArray))) (Int.toNat t_14) ((0 : Int), ((0 : Int), ByteArray.empty))).2.1), .val (.string (List.getD ([] : List (Int × (Int × ByteArray))) (Int.toNat t_14) ((0 : Int), ((0 : Int), ByteArray.empty))).2.2)])], 2⟩ [(decide (t_14 > (0 : Int))) = true, 0 ≤ (IntKind.wrap .i64 (t_14 - (1 : Int))), (IntKind.wrap .i64 (t_14 - (1 : Int))) < (((List.length ([] : List (Int × (Int × ByteArray)))) : Nat) : Int)] (by kernel_rfl) rfl rfl (ap2 b_20 (ap2 c_23.1 (ap1 c_23.2))) (by kernel_rfl) (by kernel_rfl) ?_
            have H_79 := Option.some.inj (show some r_21 = some q_71 from H_78); subst H_79
            refine VL_nil ?_
            exact QP_end r_21 rfl [(0, 0), (1, 1)] hn (by kernel_rfl) (by kernel_rfl) rfl rfl rfl
          · have H_76 := of_f H_72 b_20
            refine V_reg hN hn [] [(32, false)] calls_nil 2 [1, 3, 4, 5, 6, 7, 23, 24, 25] [0, 1] ⟨[(1, .c (.h 0)), (3, .c (.val (.int .i64 size_12))), (4, .c (.val (.int .i64 to_13))), (5, .c (.val (.int .i64 t_14))), (6, .c (.h 1)), (7, .c (.val (.bool false))), (23, .c (.val (.slice none 0 0))), (24, .c (.val (.int .i64 (0 : Int)))), (25, .c (.val (.int .i64 t_14)))], [(0, .box [.val (.int .i64 d_1), .val (.slice none 0 0)]), (1, .box [.val (.int .i64 (List.getD ([] : List (Int × (Int × ByteArray))) (Int.toNat t_14) ((0 : Int), ((0 : Int), ByteArray.empty))).1), .val (.int .i64 (List.getD ([] : List (Int × (Int × ByteArray))) (Int.toNat t_14) ((0 : Int), ((0 : Int), ByteArray.empty))).2.1), .val (.string (List.getD ([] : List (Int × (Int × ByteArray))) (Int.toNat t_14) ((0 : Int), ((0 : Int), ByteArray.empty))).2.2)])], 2⟩ [(decide (t_14 > (0 : Int))) = false] (by kernel_rfl) rfl rfl (ap1 b_20) (by kernel_rfl) (by kernel_rfl) ?_
            have H_80 := Option.some.inj (show some false = some q_71 from H_76); subst H_80
            refine VL_nil ?_
            exact QP_end false rfl [(0, 0), (1, 1)] hn (by kernel_rfl) (by kernel_rfl) rfl rfl rfl
        · intro y_74 hy; subst hy
          skip
          skip
          refine V_run hN hn 2 2 [1, 3, 4, 5, 6, 7, 23, 24, 25] [0, 1] ⟨[(1, .c (.h 0)), (3, .c (.val (.int .i64 size_12))), (4, .c (.val (.int .i64 to_13))), (5, .c (.val (.int .i64 t_14))), (6, .c (.h 1)), (7, .c (.val (.bool y_74))), (23, .c (.val (.slice none 0 0))), (24, .c (.val (.int .i64 (0 : Int)))), (25, .c (.val (.int .i64 t_14)))], [(0, .box [.val (.int .i64 d_1), .val (.slice none 0 0)]), (1, .box [.val (.int .i64 (List.getD ([] : List (Int × (Int × ByteArray))) (Int.toNat t_14) ((0 : Int), ((0 : Int), ByteArray.empty))).1), .val (.int .i64 (List.getD ([] : List (Int × (Int × ByteArray))) (Int.toNat t_14) ((0 : Int), ((0 : Int), ByteArray.empty))).2.1), .val (.string (List.getD ([] : List (Int × (Int × ByteArray))) (Int.toNat t_14) ((0 : Int), ((0 : Int), ByteArray.empty))).2.2)])], 2⟩ [] (by kernel_rfl) rfl rfl ap0 ?_
          obtain ⟨r_27, h_28, H_81⟩ := of_bind H_73
          refine V_reg hN hn [(7, ⟨58, 0, [.agg [.val (.int .i64 (List.getD ([] : List (Int × (Int × ByteArray))) (Int.toNat t_14) ((0 : Int), ((0 : Int), ByteArray.empty))).1), .val (.int .i64 (List.getD ([] : List (Int × (Int × ByteArray))) (Int.toNat t_14) ((0 : Int), ((0 : Int), ByteArray.empty))).2.1), .val (.string (List.getD ([] : List (Int × (Int × ByteArray))) (Int.toNat t_14) ((0 : Int), ((0 : Int), ByteArray.empty))).2.2)], .c (.val (.int .i64 d_1)), .c (.val (.int .i64 to_13)), .c (.val (.bool (decide (t_14 > (0 : Int))))), .c (.val (.bool y_74))], [], .c (.val (.bool r_27)), [], [], 2⟩)] [] (calls_cons (delta_elem_spec K (List.getD ([] : List (Int × (Int × ByteArray))) (Int.toNat t_14) ((0 : Int), ((0 : Int), ByteArray.empty))).1 (List.getD ([] : List (Int × (Int × ByteArray))) (Int.toNat t_14) ((0 : Int), ((0 : Int), ByteArray.empty))).2.1 (List.getD ([] : List (Int × (Int × ByteArray))) (Int.toNat t_14) ((0 : Int), ((0 : Int), ByteArray.empty))).2.2 d_1 to_13 (decide (t_14 > (0 : Int))) y_74 r_27 h_28) (by kernel_rfl) calls_nil) 2 [1, 3, 4, 6, 23, 24, 25, 49] [0, 1] ⟨[(1, .c (.h 0)), (3, .c (.val (.int .i64 size_12))), (4, .c (.val (.int .i64 to_13))), (6, .c (.h 1)), (23, .c (.val (.slice none 0 0))), (24, .c (.val (.int .i64 (0 : Int)))), (25, .c (.val (.int .i64 t_14))), (49, .c (.val (.bool (!r_27))))], [(0, .box [.val (.int .i64 d_1), .val (.slice none 0 0)]), (1, .box [.val (.int .i64 (List.getD ([] : List (Int × (Int × ByteArray))) (Int.toNat t_14) ((0 : Int), ((0 : Int), ByteArray.empty))).1), .val (.int .i64 (List.getD ([] : List (Int × (Int × ByteArray))) (Int.toNat t_14) ((0 : Int), ((0 : Int), ByteArray.empty))).2.1), .val (.string (List.getD ([] : List (Int × (Int × ByteArray))) (Int.toNat t_14) ((0 : Int), ((0 : Int), ByteArray.empty))).2.2)])], 2⟩ [] (by kernel_rfl) rfl rfl ap0 (by kernel_rfl) (by kernel_rfl) ?_
          refine VL_cond ((!r_27)) (by kernel_rfl) ?_ ?_
          · intro b_30; have H_82 := of_t H_81 b_30
            refine V_run hN hn 2 2 [2] [] ⟨[(2, .c (.val (.bool false)))], [], 2⟩ [] (by kernel_rfl) rfl rfl ap0 ?_
            have H_84 := Option.some.inj (show some false = some r from H_82); subst H_84
            refine VL_ret ?_
            refine QB_ret ?_
            refine QL_ret ?_
            refine QB_ret ?_
            exact P_to [(2, .c (.val (.bool false)))] [] [] hn (by kernel_rfl) (by kernel_rfl) rfl rfl rfl (QF_retS (by kernel_rfl) (by kernel_rfl) rfl)
          · intro b_30; have H_83 := of_f H_81 b_30
            refine V_run hN hn 3 2 [1, 3, 4, 6, 23, 24, 25, 49] [0, 1] ⟨[(1, .c (.h 0)), (3, .c (.val (.int .i64 size_12))), (4, .c (.val (.int .i64 to_13))), (6, .c (.h 1)), (23, .c (.val (.slice none 0 0))), (24, .c (.val (.int .i64 (0 : Int)))), (25, .c (.val (.int .i64 t_14))), (49, .c (.val (.bool (!r_27))))], [(0, .box [.val (.int .i64 d_1), .val (.slice none 0 0)]), (1, .box [.val (.int .i64 (List.getD ([] : List (Int × (Int × ByteArray))) (Int.toNat t_14) ((0 : Int), ((0 : Int), ByteArray.empty))).1), .val (.int .i64 (List.getD ([] : List (Int × (Int × ByteArray))) (Int.toNat t_14) ((0 : Int), ((0 : Int), ByteArray.empty))).2.1), .val (.string (List.getD ([] : List (Int × (Int × ByteArray))) (Int.toNat t_14) ((0 : Int), ((0 : Int), ByteArray.empty))).2.2)])], 2⟩ [] (by kernel_rfl) rfl rfl ap0 ?_
            obtain ⟨r_33, h_34, H_85⟩ := of_bind H_83
            refine V_reg hN hn [(1, ⟨40, 0, [.agg [.val (.int .i64 (List.getD ([] : List (Int × (Int × ByteArray))) (Int.toNat t_14) ((0 : Int), ((0 : Int), ByteArray.empty))).1), .val (.int .i64 (List.getD ([] : List (Int × (Int × ByteArray))) (Int.toNat t_14) ((0 : Int), ((0 : Int), ByteArray.empty))).2.1), .val (.string (List.getD ([] : List (Int × (Int × ByteArray))) (Int.toNat t_14) ((0 : Int), ((0 : Int), ByteArray.empty))).2.2)]], [], .c (.val (.bool r_33)), [], [], 2⟩)] [] (calls_cons (delta_IsCopy_spec K (List.getD ([] : List (Int × (Int × ByteArray))) (Int.toNat t_14) ((0 : Int), ((0 : Int), ByteArray.empty))).1 (List.getD ([] : List (Int × (Int × ByteArray))) (Int.toNat t_14) ((0 : Int), ((0 : Int), ByteArray.empty))).2.1 (List.getD ([] : List (Int × (Int × ByteArray))) (Int.toNat t_14) ((0 : Int), ((0 : Int), ByteArray.empty))).2.2 r_33 h_34) (by kernel_rfl) calls_nil) 2 [1, 3, 4, 6, 23, 24, 25, 51] [0, 1] ⟨[(1, .c (.h 0)), (3, .c (.val (.int .i64 size_12))), (4, .c (.val (.int .i64 to_13))), (6, .c (.h 1)), (23, .c (.val (.slice none 0 0))), (24, .c (.val (.int .i64 (0 : Int)))), (25, .c (.val (.int .i64 t_14))), (51, .c (.val (.bool r_33)))], [(0, .box [.val (.int .i64 d_1), .val (.slice none 0 0)]), (1, .box [.val (.int .i64 (List.getD ([] : List (Int × (Int × ByteArray))) (Int.toNat t_14) ((0 : Int), ((0 : Int), ByteArray.empty))).1), .val (.int .i64 (List.getD ([] : List (Int × (Int × ByteArray))) (Int.toNat t_14) ((0 : Int), ((0 : Int), ByteArray.empty))).2.1), .val (.string (List.getD ([] : List (Int × (Int × ByteArray))) (Int.toNat t_14) ((0 : Int), ((0 : Int), ByteArray.empty))).2.2)])], 2⟩ [] (by kernel_rfl) rfl rfl ap0 (by kernel_rfl) (by kernel_rfl) ?_
            obtain ⟨q_86, H_87, H_88⟩ := of_bind H_85
            refine V_cut (Y := Int) (R := Int) q_86 (fun y => y) (fun y => [(1, .c (.h 0)), (3, .c (.val (.int .i64 size_12))), (4, .c (.val (.int .i64 y))), (6, .c (.h 1)), (23, .c (.val (.slice none 0 0))), (24, .c (.val (.int .i64 (0 : Int)))), (25, .c (.val (.int .i64 t_14)))]) (fun y => [(0, .box [.val (.int .i64 d_1), .val (.slice none 0 0)]), (1, .box [.val (.int .i64 (List.getD ([] : List (Int × (Int × ByteArray))) (Int.toNat t_14) ((0 : Int), ((0 : Int), ByteArray.empty))).1), .val (.int .i64 (List.getD ([] : List (Int × (Int × ByteArray))) (Int.toNat t_14) ((0 : Int), ((0 : Int), ByteArray.empty))).2.1), .val (.string (List.getD ([] : List (Int × (Int × ByteArray))) (Int.toNat t_14) ((0 : Int), ((0 : Int), ByteArray.empty))).2.2)])]) ?_ ?_
            · skip
              refine VL_cond (r_33) (by kernel_rfl) ?_ ?_
              · intro b_36; have H_90 := of_t H_87 b_36
                refine V_run hN hn 1 2 [1, 3, 4, 6, 23, 24, 25] [0, 1] ⟨[(1, .c (.h 0)), (3, .c (.val (.int .i64 size_12))), (4, .c (.val (.int .i64 (List.getD ([] : List (Int × (Int × ByteArray))) (Int.toNat t_14) ((0 : Int), ((0 : Int), ByteArray.empty))).2.1))), (6, .c (.h 1)), (23, .c (.val (.slice none 0 0))), (24, .c (.val (.int .i64 (0 : Int)))), (25, .c (.val (.int .i64 t_14)))], [(0, .box [.val (.int .i64 d_1), .val (.slice none 0 0)]), (1, .box [.val (.int .i64 (List.getD ([] : List (Int × (Int × ByteArray))) (Int.toNat t_14) ((0 : Int), ((0 : Int), ByteArray.empty))).1), .val (.int .i64 (List.getD ([] : List (Int × (Int × ByteArray))) (Int.toNat t_14) ((0 : Int), ((0 : Int), ByteArray.empty))).2.1), .val (.string (List.getD ([] : List (Int × (Int × ByteArray))) (Int.toNat t_14) ((0 : Int), ((0 : Int), ByteArray.empty))).2.2)])], 2⟩ [] (by kernel_rfl) rfl rfl ap0 ?_
                have H_92 := Option.some.inj (show some (List.getD ([] : List (Int × (Int × ByteArray))) (Int.toNat t_14) ((0 : Int), ((0 : Int), ByteArray.empty))).2.1 = some q_86 from H_90); subst H_92
                refine VL_nil ?_
                exact QP_end (List.getD ([] : List (Int × (Int × ByteArray))) (Int.toNat t_14) ((0 : Int), ((0 : Int), ByteArray.empty))).2.1 rfl [(0, 0), (1, 1)] hn (by kernel_rfl) (by kernel_rfl) rfl rfl rfl
              · intro b_36; have H_91 := of_f H_87 b_36
                refine V_run hN hn 1 2 [1, 3, 4, 6, 23, 24, 25, 51] [0, 1] ⟨[(1, .c (.h 0)), (3, .c (.val (.int .i64 size_12))), (4, .c (.val (.int .i64 to_13))), (6, .c (.h 1)), (23, .c (.val (.slice none 0 0))), (24, .c (.val (.int .i64 (0 : Int)))), (25, .c (.val (.int .i64 t_14))), (51, .c (.val (.bool r_33)))], [(0, .box [.val (.int .i64 d_1), .val (.slice none 0 0)]), (1, .box [.val (.int .i64 (List.getD ([] : List (Int × (Int × ByteArray))) (Int.toNat t_14) ((0 : Int), ((0 : Int), ByteArray.empty))).1), .val (.int .i64 (List.getD ([] : List (Int × (Int × ByteArray))) (Int.toNat t_14) ((0 : Int), ((0 : Int), ByteArray.empty))).2.1), .val (.string (List.getD ([] : List (Int × (Int × ByteArray))) (Int.toNat t_14) ((0 : Int), ((0 : Int), ByteArray.empty))).2.2)])], 2⟩ [] (by kernel_rfl) rfl rfl ap0 ?_
                have H_93 := Option.some.inj (show some to_13 = some q_86 from H_91); subst H_93
                refine VL_nil ?_
                exact QP_end to_13 rfl [(0, 0), (1, 1)] hn (by kernel_rfl) (by kernel_rfl) rfl rfl rfl
            · intro y_89 hy; subst hy
              skip
              skip
              refine V_run hN hn 4 2 [1, 3, 4, 23, 24, 25, 66] [0] ⟨[(1, .c (.h 0)), (3, .c (.val (.int .i64 (IntKind.wrap .i64 (size_12 + (IntKind.wrap .i64 ((IntKind.wrap .i64 ((List.getD ([] : List (Int × (Int × ByteArray))) (Int.toNat t_14) ((0 : Int), ((0 : Int), ByteArray.empty))).2.1 - (List.getD ([] : List (Int × (Int × ByteArray))) (Int.toNat t_14) ((0 : Int), ((0 : Int), ByteArray.empty))).1)) + (((ByteArray.size (List.getD ([] : List (Int × (Int × ByteArray))) (Int.toNat t_14) ((0 : Int), ((0 : Int), ByteArray.empty))).2.2) : Nat) : Int)))))))), (4, .c (.val (.int .i64 y_89))), (23, .c (.val (.slice none 0 0))), (24, .c (.val (.int .i64 (0 : Int)))), (25, .c (.val (.int .i64 t_14))), (66, .c (.val (.bool (decide ((IntKind.wrap .i64 (size_12 + (IntKind.wrap .i64 ((IntKind.wrap .i64 ((List.getD ([] : List (Int × (Int × ByteArray))) (Int.toNat t_14) ((0 : Int), ((0 : Int), ByteArray.empty))).2.1 - (List.getD ([] : List (Int × (Int × ByteArray))) (Int.toNat t_14) ((0 : Int), ((0 : Int), ByteArray.empty))).1)) + (((ByteArray.size (List.getD ([] : List (Int × (Int × ByteArray))) (Int.toNat t_14) ((0 : Int), ((0 : Int), ByteArray.empty))).2.2) : Nat) : Int))))) > (20000 : Int))))))], [(0, .box [.val (.int .i64 d_1), .val (.slice none 0 0)])], 2⟩ [] (by kernel_rfl) rfl rfl ap0 ?_
              refine VL_cond ((decide ((IntKind.wrap .i64 (size_12 + (IntKind.wrap .i64 ((IntKind.wrap .i64 ((List.getD ([] : List (Int × (Int × ByteArray))) (Int.toNat t_14) ((0 : Int), ((0 : Int), ByteArray.empty))).2.1 - (List.getD ([] : List (Int × (Int × ByteArray))) (Int.toNat t_14) ((0 : Int), ((0 : Int), ByteArray.empty))).1)) + (((ByteArray.size (List.getD ([] : List (Int × (Int × ByteArray))) (Int.toNat t_14) ((0 : Int), ((0 : Int), ByteArray.empty))).2.2) : Nat) : Int))))) > (20000 : Int)))) (by kernel_rfl) ?_ ?_
              · intro b_41; have H_94 := of_t H_88 b_41
                refine V_run hN hn 2 2 [2] [] ⟨[(2, .c (.val (.bool false)))], [], 2⟩ [] (by kernel_rfl) rfl rfl ap0 ?_
                have H_96 := Option.some.inj (show some false = some r from H_94); subst H_96
                refine VL_ret ?_
                refine QB_ret ?_
                refine QL_ret ?_
                refine QB_ret ?_
                exact P_to [(2, .c (.val (.bool false)))] [] [] hn (by kernel_rfl) (by kernel_rfl) rfl rfl rfl (QF_retS (by kernel_rfl) (by kernel_rfl) rfl)
              · intro b_41; have H_95 := of_f H_88 b_41
                refine V_run hN hn 1 2 [1, 3, 4, 23, 24, 25, 66] [0] ⟨[(1, .c (.h 0)), (3, .c (.val (.int .i64 (IntKind.wrap .i64 (size_12 + (IntKind.wrap .i64 ((IntKind.wrap .i64 ((List.getD ([] : List (Int × (Int × ByteArray))) (Int.toNat t_14) ((0 : Int), ((0 : Int), ByteArray.empty))).2.1 - (List.getD ([] : List (Int × (Int × ByteArray))) (Int.toNat t_14) ((0 : Int), ((0 : Int), ByteArray.empty))).1)) + (((ByteArray.size (List.getD ([] : List (Int × (Int × ByteArray))) (Int.toNat t_14) ((0 : Int), ((0 : Int), ByteArray.empty))).2.2) : Nat) : Int)))))))), (4, .c (.val (.int .i64 y_89))), (23, .c (.val (.slice none 0 0))), (24, .c (.val (.int .i64 (0 : Int)))), (25, .c (.val (.int .i64 t_14))), (66, .c (.val (.bool (decide ((IntKind.wrap .i64 (size_12 + (IntKind.wrap .i64 ((IntKind.wrap .i64 ((List.getD ([] : List (Int × (Int × ByteArray))) (Int.toNat t_14) ((0 : Int), ((0 : Int), ByteArray.empty))).2.1 - (List.getD ([] : List (Int × (Int × ByteArray))) (Int.toNat t_14) ((0 : Int), ((0 : Int), ByteArray.empty))).1)) + (((ByteArray.size (List.getD ([] : List (Int × (Int × ByteArray))) (Int.toNat t_14) ((0 : Int), ((0 : Int), ByteArray.empty))).2.2) : Nat) : Int))))) > (20000 : Int))))))], [(0, .box [.val (.int .i64 d_1), .val (.slice none 0 0)])], 2⟩ [] (by kernel_rfl) rfl rfl ap0 ?_
                refine VL_nil (QB_end ?_)
                refine V_run hN hn 1 2 [1, 3, 4, 23, 24, 25] [0] ⟨[(1, .c (.h 0)), (3, .c (.val (.int .i64 (IntKind.wrap .i64 (size_12 + (IntKind.wrap .i64 ((IntKind.wrap .i64 ((List.getD ([] : List (Int × (Int × ByteArray))) (Int.toNat t_14) ((0 : Int), ((0 : Int), ByteArray.empty))).2.1 - (List.getD ([] : List (Int × (Int × ByteArray))) (Int.toNat t_14) ((0 : Int), ((0 : Int), ByteArray.empty))).1)) + (((ByteArray.size (List.getD ([] : List (Int × (Int × ByteArray))) (Int.toNat t_14) ((0 : Int), ((0 : Int), ByteArray.empty))).2.2) : Nat) : Int)))))))), (4, .c (.val (.int .i64 y_89))), (23, .c (.val (.slice none 0 0))), (24, .c (.val (.int .i64 (0 : Int)))), (25, .c (.val (.int .i64 (IntKind.wrap .i64 (t_14 + (1 : Int))))))], [(0, .box [.val (.int .i64 d_1), .val (.slice none 0 0)])], 2⟩ [] (by kernel_rfl) rfl rfl ap0 ?_
                refine VL_nil ?_
                exact V_roundEnd ((IntKind.wrap .i64 (size_12 + (IntKind.wrap .i64 ((IntKind.wrap .i64 ((List.getD ([] : List (Int × (Int × ByteArray))) (Int.toNat t_14) ((0 : Int), ((0 : Int), ByteArray.empty))).2.1 - (List.getD ([] : List (Int × (Int × ByteArray))) (Int.toNat t_14) ((0 : Int), ((0 : Int), ByteArray.empty))).1)) + (((ByteArray.size (List.getD ([] : List (Int × (Int × ByteArray))) (Int.toNat t_14) ((0 : Int), ((0 : Int), ByteArray.empty))).2.2) : Nat) : Int))))), y_89, (IntKind.wrap .i64 (t_14 + (1 : Int)))) H_95 [(0, 0)] hn (by kernel_rfl) (by kernel_rfl) rfl rfl rfl
      · intro b_17; have H_69 := of_f H_67 b_17
        refine VL_exit ?_
        refine QL_exit ?_
        refine QB_here ?_
        refine V_run hN hn 2 1 [2] [] ⟨[(2, .c (.val (.bool true)))], [], 1⟩ [] (by kernel_rfl) rfl rfl ap0 ?_
        have H_97 := Option.some.inj (show some true = some r from H_69); subst H_97
        refine VL_ret ?_
        exact P_to [(2, .c (.val (.bool true)))] [] [] hn (by kernel_rfl) (by kernel_rfl) rfl rfl rfl (QF_retS (by kernel_rfl) (by kernel_rfl) rfl)

theorem factor_Deleted_sgn_spec (K : Nat) (d_1 : Int) (r : ((Option ((List (Int × Int)) × Int)) × Int)) (H : factor_Deleted_sgn K d_1 = some r) : Spec Try.prog 12 0 [.agg [.val (.int .i64 d_1), .val (.slice none 0 0)]] [] (.tup [(false, [.imm (.opt (.pair (.slice (.pair (.int .i64) (.int .i64))) (.int .i64))) r.1]), (false, [.val (.int .i64 r.2)])]) [] := by
  refine Spec_mk (fn := Try.f12) (c := (Try.f12.body).get!) Try.func12 (by kernel_rfl) rfl ?_
  intro C hN hn
  replace hN : C.N = 49 := hN
  unfold factor_Deleted_sgn at H
  refine V_run hN hn 4 0 [1] [0] ⟨[(1, .c (.h 0))], [(0, .box [.val (.int .i64 d_1), .val (.slice none 0 0)])], 1⟩ [] (by kernel_rfl) rfl rfl ap0 ?_
  obtain ⟨r_3, h_4, H_45⟩ := of_bind H
  refine V_reg hN hn [(1, ⟨44, 0, [.agg [.val (.int .i64 d_1), .val (.slice none 0 0)]], [], .c (.val (.bool r_3)), [], [], 1⟩)] [] (calls_cons (delta_Is_sgn_spec K d_1 r_3 h_4) (by kernel_rfl) calls_nil) 1 [1, 10] [0] ⟨[(1, .c (.h 0)), (10, .c (.val (.bool (!r_3))))], [(0, .box [.val (.int .i64 d_1), .val (.slice none 0 0)])], 1⟩ [] (by kernel_rfl) rfl rfl ap0 (by kernel_rfl) (by kernel_rfl) ?_
  refine VL_cond ((!r_3)) (by kernel_rfl) ?_ ?_
  · intro b_6; have H_46 := of_t H_45 b_6
    refine V_run hN hn 2 1 [2, 3] [] ⟨[(2, .c (.val (.pointer none))), (3, .c (.val (.int .i64 (12 : Int))))], [], 1⟩ [] (by kernel_rfl) rfl rfl ap0 ?_
    have H_48 := Option.some.inj (show some ((none : (Option ((List (Int × Int)) × Int))), (12 : Int)) = some r from H_46); subst H_48
    refine VL_ret ?_
    refine P_ghost [.read 2 (.opt (.pair (.slice (.pair (.int .i64) (.int .i64))) (.int .i64)))] 1 hn [2, 3] [] ⟨[(2, .c (.imm (.opt (.pair (.slice (.pair (.int .i64) (.int .i64))) (.int .i64))) (none : (Option ((List (Int × Int)) × Int))))), (3, .c (.val (.int .i64 (12 : Int))))], [], 1⟩ (by kernel_rfl) rfl rfl ?_
    exact P_to [(2, .c (.imm (.opt (.pair (.slice (.pair (.int .i64) (.int .i64))) (.int .i64))) (none : (Option ((List (Int × Int)) × Int))))), (3, .c (.val (.int .i64 (12 : Int))))] [] [] hn (by kernel_rfl) (by kernel_rfl) rfl rfl rfl (QF_retS (by kernel_rfl) (by kernel_rfl) rfl)
  · intro b_6; have H_47 := of_f H_45 b_6
    refine V_run hN hn 8 1 [1, 4, 5, 12, 13, 14] [0] ⟨[(1, .c (.h 0)), (4, .c (.val (.slice none 0 0))), (5, .c (.val (.int .i64 (0 : Int)))), (12, .c (.val (.slice none 0 0))), (13, .c (.val (.int .i64 (0 : Int)))), (14, .c (.val (.int .i64 (0 : Int))))], [(0, .box [.val (.int .i64 d_1), .val (.slice none 0 0)])], 1⟩ [] (by kernel_rfl) rfl rfl ap0 ?_
    obtain ⟨q_49, H_50, H_51⟩ := of_bind H_47
    refine V_cut (Y := ((List (Int × Int)) × Int)) (R := ((List (Int × Int)) × Int)) q_49 (fun y => y) (fun y => [(1, .c (.h 0)), (4, .c (.h 5)), (5, .c (.val (.int .i64 y.2)))]) (fun y => [(0, .box [.val (.int .i64 d_1), .val (.slice none 0 0)]), (5, .row (.pair (.int .i64) (.int .i64)) y.1)]) ?_ ?_
    · skip
      refine VL_block ?_
      refine V_ghost [.nilSlot 4 (.pair (.int .i64) (.int .i64))] 1 hn [1, 4, 5, 12, 13, 14] [0, 1] ⟨[(1, .c (.h 0)), (4, .c (.h 1)), (5, .c (.val (.int .i64 (0 : Int)))), (12, .c (.val (.slice none 0 0))), (13, .c (.val (.int .i64 (0 : Int)))), (14, .c (.val (.int .i64 (0 : Int))))], [(0, .box [.val (.int .i64 d_1), .val (.slice none 0 0)]), (1, .row (.pair (.int .i64) (.int .i64)) ([] : List (Int × Int)))], 2⟩ (by kernel_rfl) rfl rfl ?_
      refine V_to [(1, .c (.h 0)), (4, .c (.h 5)), (5, .c (.val (.int .i64 (0 : Int)))), (12, .c (.val (.slice none 0 0))), (13, .c (.val (.int .i64 (0 : Int)))), (14, .c (.val (.int .i64 (0 : Int))))] [(0, .box [.val (.int .i64 d_1), .val (.slice none 0 0)]), (5, .row (.pair (.int .i64) (.int .i64)) ([] : List (Int × Int)))] [(0, 0), (5, 1)] hn (by kernel_rfl) (by kernel_rfl) rfl rfl rfl ?_
      refine VL_loop (X := ((List (Int × Int)) × Int × Int)) (fun x => [(1, .c (.h 0)), (4, .c (.h 5)), (5, .c (.val (.int .i64 x.2.1))), (12, .c (.val (.slice none 0 0))), (13, .c (.val (.int .i64 (0 : Int)))), (14, .c (.val (.int .i64 x.2.2)))]) (fun x => [(0, .box [.val (.int .i64 d_1), .val (.slice none 0 0)]), (5, .row (.pair (.int .i64) (.int .i64)) x.1)]) (fun k x => factor_Deleted_sgn.l0 K k x.1 x.2.1 x.2.2 = some q_49) K (([] : List (Int × Int)), (0 : Int), (0 : Int)) H_50 (fun _ h => no_none h) ?_
      intro k_24 x_24 H_53
      obtain ⟨out_23, at_9, t_10⟩ := x_24
      have H_54 : factor_Deleted_sgn.l0 K (k_24 + 1) out_23 at_9 t_10 = some q_49 := H_53
      rw [factor_Deleted_sgn.l0] at H_54
      refine V_run hN hn 3 6 [1, 4, 5, 12, 13, 14, 15] [0, 5] ⟨[(1, .c (.h 0)), (4, .c (.h 5)), (5, .c (.val (.int .i64 at_9))), (12, .c (.val (.slice none 0 0))), (13, .c (.val (.int .i64 (0 : Int)))), (14, .c (.val (.int .i64 t_10))), (15, .c (.val (.bool (decide (t_10 < (0 : Int))))))], [(0, .box [.val (.int .i64 d_1), .val (.slice none 0 0)]), (5, .row (.pair (.int .i64) (.int .i64)) out_23)], 6⟩ [] (by kernel_rfl) rfl rfl ap0 ?_
      refine VL_cond ((decide (t_10 < (0 : Int)))) (by kernel_rfl) ?_ ?_
      · intro b_26; have H_55 := of_t H_54 b_26
        refine V_run hN hn 2 6 [1, 4, 5, 12, 13, 14, 15] [0, 5] ⟨[(1, .c (.h 0)), (4, .c (.h 5)), (5, .c (.val (.int .i64 at_9))), (12, .c (.val (.slice none 0 0))), (13, .c (.val (.int .i64 (0 : Int)))), (14, .c (.val (.int .i64 t_10))), (15, .c (.val (.bool (decide (t_10 < (0 : Int))))))], [(0, .box [.val (.int .i64 d_1), .val (.slice none 0 0)]), (5, .row (.pair (.int .i64) (.int .i64)) out_23)], 6⟩ [] (by kernel_rfl) rfl rfl ap0 ?_
        refine VL_block ?_
        obtain ⟨c_28, H_57⟩ := of_if H_55
        refine V_run hN hn 4 6 [1, 4, 5, 7, 12, 13, 14] [0, 5, 6] ⟨[(1, .c (.h 0)), (4, .c (.h 5)), (5, .c (.val (.int .i64 at_9))), (7, .c (.h 6)), (12, .c (.val (.slice none 0 0))), (13, .c (.val (.int .i64 (0 : Int)))), (14, .c (.val (.int .i64 t_10)))], [(0, .box [.val (.int .i64 d_1), .val (.slice none 0 0)]), (5, .row (.pair (.int .i64) (.int .i64)) out_23), (6, .box [.val (.int .i64 (List.getD ([] : List (Int × (Int × ByteArray))) (Int.toNat t_10) ((0 : Int), ((0 : Int), ByteArray.empty))).1), .val (.int .i64 (List.getD ([] : List (Int × (Int × ByteArray))) (Int.toNat t_10) ((0 : Int), ((0 : Int), ByteArray.empty))).2.1), .val (.string (List.getD ([] : List (Int × (Int × ByteArray))) (Int.toNat t_10) ((0 : Int), ((0 : Int), ByteArray.empty))).2.2)])], 7⟩ [0 ≤ t_10, t_10 < (((List.length ([] : List (Int × (Int × ByteArray)))) : Nat) : Int)] (by kernel_rfl) rfl rfl (ap2 c_28.1 (ap1 c_28.2)) ?_
        obtain ⟨r_29, h_30, H_58⟩ := of_bind H_57
        refine V_reg hN hn [(1, ⟨40, 0, [.agg [.val (.int .i64 (List.getD ([] : List (Int × (Int × ByteArray))) (Int.toNat t_10) ((0 : Int), ((0 : Int), ByteArray.empty))).1), .val (.int .i64 (List.getD ([] : List (Int × (Int × ByteArray))) (Int.toNat t_10) ((0 : Int), ((0 : Int), ByteArray.empty))).2.1), .val (.string (List.getD ([] : List (Int × (Int × ByteArray))) (Int.toNat t_10) ((0 : Int), ((0 : Int), ByteArray.empty))).2.2)]], [], .c (.val (.bool r_29)), [], [], 7⟩)] [] (calls_cons (delta_IsCopy_spec K (List.getD ([] : List (Int × (Int × ByteArray))) (Int.toNat t_10) ((0 : Int), ((0 : Int), ByteArray.empty))).1 (List.getD ([] : List (Int × (Int × ByteArray))) (Int.toNat t_10) ((0 : Int), ((0 : Int), ByteArray.empty))).2.1 (List.getD ([] : List (Int × (Int × ByteArray))) (Int.toNat t_10) ((0 : Int), ((0 : Int), ByteArray.empty))).2.2 r_29 h_30) (by kernel_rfl) calls_nil) 7 [1, 4, 5, 7, 12, 13, 14, 20] [0, 5, 6] ⟨[(1, .c (.h 0)), (4, .c (.h 5)), (5, .c (.val (.int .i64 at_9))), (7, .c (.h 6)), (12, .c (.val (.slice none 0 0))), (13, .c (.val (.int .i64 (0 : Int)))), (14, .c (.val (.int .i64 t_10))), (20, .c (.val (.bool (!r_29))))], [(0, .box [.val (.int .i64 d_1), .val (.slice none 0 0)]), (5, .row (.pair (.int .i64) (.int .i64)) out_23), (6, .box [.val (.int .i64 (List.getD ([] : List (Int × (Int × ByteArray))) (Int.toNat t_10) ((0 : Int), ((0 : Int), ByteArray.empty))).1), .val (.int .i64 (List.getD ([] : List (Int × (Int × ByteArray))) (Int.toNat t_10) ((0 : Int), ((0 : Int), ByteArray.empty))).2.1), .val (.string (List.getD ([] : List (Int × (Int × ByteArray))) (Int.toNat t_10) ((0 : Int), ((0 : Int), ByteArray.empty))).2.2)])], 7⟩ [] (by kernel_rfl) rfl rfl ap0 (by kernel_rfl) (by kernel_rfl) ?_
        refine VL_cond ((!r_29)) (by kernel_rfl) ?_ ?_
        · intro b_32; have H_59 := of_t H_58 b_32
          refine VL_exit ?_
          refine QB_here ?_
          refine V_run hN hn 1 7 [1, 4, 5, 12, 13, 14] [0, 5] ⟨[(1, .c (.h 0)), (4, .c (.h 5)), (5, .c (.val (.int .i64 at_9))), (12, .c (.val (.slice none 0 0))), (13, .c (.val (.int .i64 (0 : Int)))), (14, .c (.val (.int .i64 (IntKind.wrap .i64 (t_10 + (1 : Int))))))], [(0, .box [.val (.int .i64 d_1), .val (.slice none 0 0)]), (5, .row (.pair (.int .i64) (.int .i64)) out_23)], 7⟩ [] (by kernel_rfl) rfl rfl ap0 ?_
          refine VL_nil ?_
          exact V_roundEnd (out_23, at_9, (IntKind.wrap .i64 (t_10 + (1 : Int)))) H_59 [(0, 0), (5, 5)] hn (by kernel_rfl) (by kernel_rfl) rfl rfl rfl
        · intro b_32; have H_60 := of_f H_58 b_32
          obtain ⟨c_34, H_61⟩ := of_if H_60
          refine V_run hN hn 4 7 [1, 4, 5, 12, 13, 14] [0, 8] ⟨[(1, .c (.h 0)), (4, .c (.h 8)), (5, .c (.val (.int .i64 (List.getD ([] : List (Int × (Int × ByteArray))) (Int.toNat t_10) ((0 : Int), ((0 : Int), ByteArray.empty))).2.1))), (12, .c (.val (.slice none 0 0))), (13, .c (.val (.int .i64 (0 : Int)))), (14, .c (.val (.int .i64 t_10)))], [(0, .box [.val (.int .i64 d_1), .val (.slice none 0 0)]), (8, .row (.pair (.int .i64) (.int .i64)) (out_23 ++ ([((IntKind.wrap .i64 ((List.getD ([] : List (Int × (Int × ByteArray))) (Int.toNat t_10) ((0 : Int), ((0 : Int), ByteArray.empty))).1 - at_9)), (1 : Int)), ((IntKind.wrap .i64 ((List.getD ([] : List (Int × (Int × ByteArray))) (Int.toNat t_10) ((0 : Int), ((0 : Int), ByteArray.empty))).2.1 - (List.getD ([] : List (Int × (Int × ByteArray))) (Int.toNat t_10) ((0 : Int), ((0 : Int), ByteArray.empty))).1)), (0 : Int))] : List (Int × Int))))], 9⟩ [(List.length out_23 + List.length ([((IntKind.wrap .i64 ((List.getD ([] : List (Int × (Int × ByteArray))) (Int.toNat t_10) ((0 : Int), ((0 : Int), ByteArray.empty))).1 - at_9)), (1 : Int)), ((IntKind.wrap .i64 ((List.getD ([] : List (Int × (Int × ByteArray))) (Int.toNat t_10) ((0 : Int), ((0 : Int), ByteArray.empty))).2.1 - (List.getD ([] : List (Int × (Int × ByteArray))) (Int.toNat t_10) ((0 : Int), ((0 : Int), ByteArray.empty))).1)), (0 : Int))] : List (Int × Int))) * 16 ≤ 140737488355328] (by kernel_rfl) rfl rfl (ap1 c_34) ?_
          refine VL_nil (QB_end ?_)
          refine V_run hN hn 1 9 [1, 4, 5, 12, 13, 14] [0, 8] ⟨[(1, .c (.h 0)), (4, .c (.h 8)), (5, .c (.val (.int .i64 (List.getD ([] : List (Int × (Int × ByteArray))) (Int.toNat t_10) ((0 : Int), ((0 : Int), ByteArray.empty))).2.1))), (12, .c (.val (.slice none 0 0))), (13, .c (.val (.int .i64 (0 : Int)))), (14, .c (.val (.int .i64 (IntKind.wrap .i64 (t_10 + (1 : Int))))))], [(0, .box [.val (.int .i64 d_1), .val (.slice none 0 0)]), (8, .row (.pair (.int .i64) (.int .i64)) (out_23 ++ ([((IntKind.wrap .i64 ((List.getD ([] : List (Int × (Int × ByteArray))) (Int.toNat t_10) ((0 : Int), ((0 : Int), ByteArray.empty))).1 - at_9)), (1 : Int)), ((IntKind.wrap .i64 ((List.getD ([] : List (Int × (Int × ByteArray))) (Int.toNat t_10) ((0 : Int), ((0 : Int), ByteArray.empty))).2.1 - (List.getD ([] : List (Int × (Int × ByteArray))) (Int.toNat t_10) ((0 : Int), ((0 : Int), ByteArray.empty))).1)), (0 : Int))] : List (Int × Int))))], 9⟩ [] (by kernel_rfl) rfl rfl ap0 ?_
          refine VL_nil ?_
          exact V_roundEnd ((out_23 ++ ([((IntKind.wrap .i64 ((List.getD ([] : List (Int × (Int × ByteArray))) (Int.toNat t_10) ((0 : Int), ((0 : Int), ByteArray.empty))).1 - at_9)), (1 : Int)), ((IntKind.wrap .i64 ((List.getD ([] : List (Int × (Int × ByteArray))) (Int.toNat t_10) ((0 : Int), ((0 : Int), ByteArray.empty))).2.1 - (List.getD ([] : List (Int × (Int × ByteArray))) (Int.toNat t_10) ((0 : Int), ((0 : Int), ByteArray.empty))).1)), (0 : Int))] : List (Int × Int))), (List.getD ([] : List (Int × (Int × ByteArray))) (Int.toNat t_10) ((0 : Int), ((0 : Int), ByteArray.empty))).2.1, (IntKind.wrap .i64 (t_10 + (1 : Int)))) H_61 [(0, 0), (5, 8)] hn (by kernel_rfl) (by kernel_rfl) rfl rfl rfl
      · intro b_26; have H_56 := of_f H_54 b_26
        refine VL_exit ?_
        refine QL_exit ?_
        refine QB_here ?_
        have H_62 := Option.some.inj (show some (out_23, at_9) = some q_49 from H_56); subst H_62
        refine VL_nil ?_
        exact QP_end (out_23, at_9) rfl [(0, 0), (5, 5)] hn (by kernel_rfl) (by kernel_rfl) rfl rfl rfl
    · intro y_52 hy; subst hy
      obtain ⟨out_36, at_37⟩ := y_52
      refine V_run hN hn 1 6 [1, 4, 5] [0, 5] ⟨[(1, .c (.h 0)), (4, .c (.h 5)), (5, .c (.val (.int .i64 at_37)))], [(0, .box [.val (.int .i64 d_1), .val (.slice none 0 0)]), (5, .row (.pair (.int .i64) (.int .i64)) out_36)], 6⟩ [] (by kernel_rfl) rfl rfl ap0 ?_
      obtain ⟨r_39, h_40, H_63⟩ := of_bind H_51
      obtain ⟨c_41, H_64⟩ := of_if H_63
      refine V_reg hN hn [(8, ⟨45, 1, [.c (.h 0)], [(0, .row (.pair (.int .i64) (.int .i64)) (out_36 ++ ([((IntKind.wrap .i64 (d_1 - at_37)), (1 : Int))] : List (Int × Int))))], .tup [(false, [.imm (.opt (.pair (.slice (.pair (.int .i64) (.int .i64))) (.int .i64))) r_39.1]), (false, [.val (.int .i64 r_39.2)])], [(0, .row (.pair (.int .i64) (.int .i64)) (out_36 ++ ([((IntKind.wrap .i64 (d_1 - at_37)), (1 : Int))] : List (Int × Int))))], [(0, 7)], 8⟩)] [] (calls_cons (subset_Pack_r_spec K (out_36 ++ ([((IntKind.wrap .i64 (d_1 - at_37)), (1 : Int))] : List (Int × Int))) r_39 h_40) (by kernel_rfl) calls_nil) 6 [2, 3] [] ⟨[(2, .c (.imm (.opt (.pair (.slice (.pair (.int .i64) (.int .i64))) (.int .i64))) r_39.1)), (3, .c (.val (.int .i64 r_39.2)))], [], 8⟩ [(List.length out_36 + List.length ([((IntKind.wrap .i64 (d_1 - at_37)), (1 : Int))] : List (Int × Int))) * 16 ≤ 140737488355328] (by kernel_rfl) rfl rfl (ap1 c_41) (by kernel_rfl) (by kernel_rfl) ?_
      have H_65 := Option.some.inj (show some (r_39.1, r_39.2) = some r from H_64); subst H_65
      refine VL_ret ?_
      exact P_to [(2, .c (.imm (.opt (.pair (.slice (.pair (.int .i64) (.int .i64))) (.int .i64))) r_39.1)), (3, .c (.val (.int .i64 r_39.2)))] [] [] hn (by kernel_rfl) (by kernel_rfl) rfl rfl rfl (QF_retS (by kernel_rfl) (by kernel_rfl) rfl)

theorem subset_Subset_Count_spec (K : Nat) (s_1 : (Option ((List (Int × Int)) × Int))) (at_2 : Int) (r : Int) (H : subset_Subset_Count K s_1 at_2 = some r) : Spec Try.prog 38 0 [.c (.imm (.opt (.pair (.slice (.pair (.int .i64) (.int .i64))) (.int .i64))) s_1), .c (.val (.int .i64 at_2))] [] (.c (.val (.int .i64 r))) [] := by
  refine Spec_mk (fn := Try.f38) (c := (Try.f38.body).get!) Try.func38 (by kernel_rfl) rfl ?_
  intro C hN hn
  replace hN : C.N = 37 := hN
  unfold subset_Subset_Count at H
  refine V_run hN hn 4 0 [0, 1] [] ⟨[(0, .c (.imm (.opt (.pair (.slice (.pair (.int .i64) (.int .i64))) (.int .i64))) s_1)), (1, .c (.val (.int .i64 at_2)))], [], 0⟩ [] (by kernel_rfl) rfl rfl ap0 ?_
  obtain ⟨q_25, H_26, H_27⟩ := of_bind H
  refine V_cut (Y := Bool) (R := Bool) q_25 (fun y => y) (fun y => [(0, .c (.imm (.opt (.pair (.slice (.pair (.int .i64) (.int .i64))) (.int .i64))) s_1)), (1, .c (.val (.int .i64 at_2))), (16, .c (.val (.bool y)))]) (fun y => []) ?_ ?_
  · skip
    rcases Bool.eq_false_or_eq_true ((decide (at_2 < (0 : Int)))) with b_4 | b_4
    · have H_29 := of_t H_26 b_4
      refine V_reg hN hn [] [(9, true)] calls_nil 0 [0, 1, 16] [] ⟨[(0, .c (.imm (.opt (.pair (.slice (.pair (.int .i64) (.int .i64))) (.int .i64))) s_1)), (1, .c (.val (.int .i64 at_2))), (16, .c (.val (.bool true)))], [], 0⟩ [(decide (at_2 < (0 : Int))) = true] (by kernel_rfl) rfl rfl (ap1 b_4) (by kernel_rfl) (by kernel_rfl) ?_
      have H_31 := Option.some.inj (show some true = some q_25 from H_29); subst H_31
      refine VL_nil ?_
      exact QP_end true rfl [] hn (by kernel_rfl) (by kernel_rfl) rfl rfl rfl
    · have H_30 := of_f H_26 b_4
      obtain ⟨c_6, H_32⟩ := of_if H_30
      refine V_reg hN hn [] [(9, false)] calls_nil 0 [0, 1, 16] [] ⟨[(0, .c (.imm (.opt (.pair (.slice (.pair (.int .i64) (.int .i64))) (.int .i64))) s_1)), (1, .c (.val (.int .i64 at_2))), (16, .c (.val (.bool (decide (at_2 ≥ (Option.getD s_1 (([] : (List (Int × Int))), (0 : Int))).2)))))], [], 0⟩ [(decide (at_2 < (0 : Int))) = false, Option.isSome s_1 = true] (by kernel_rfl) rfl rfl (ap2 b_4 (ap1 c_6)) (by kernel_rfl) (by kernel_rfl) ?_
      have H_33 := Option.some.inj (show some (decide (at_2 ≥ (Option.getD s_1 (([] : (List (Int × Int))), (0 : Int))).2)) = some q_25 from H_32); subst H_33
      refine VL_nil ?_
      exact QP_end (decide (at_2 ≥ (Option.getD s_1 (([] : (List (Int × Int))), (0 : Int))).2)) rfl [] hn (by kernel_rfl) (by kernel_rfl) rfl rfl rfl
  · intro y_28 hy; subst hy
    skip
    skip
    refine VL_cond (y_28) (by kernel_rfl) ?_ ?_
    · intro b_8; have H_34 := of_t H_27 b_8
      refine V_run hN hn 2 0 [4] [] ⟨[(4, .c (.val (.int .i64 (0 : Int))))], [], 0⟩ [] (by kernel_rfl) rfl rfl ap0 ?_
      have H_36 := Option.some.inj (show some (0 : Int) = some r from H_34); subst H_36
      refine VL_ret ?_
      exact P_to [(4, .c (.val (.int .i64 (0 : Int))))] [] [] hn (by kernel_rfl) (by kernel_rfl) rfl rfl rfl (QF_retS (by kernel_rfl) (by kernel_rfl) rfl)
    · intro b_8; have H_35 := of_f H_27 b_8
      obtain ⟨c_10, H_37⟩ := of_if H_35
      refine V_run hN hn 4 0 [1, 20, 21, 22] [] ⟨[(1, .c (.val (.int .i64 at_2))), (20, .c (.imm (.slice (.pair (.int .i64) (.int .i64))) (Option.getD s_1 (([] : (List (Int × Int))), (0 : Int))).1)), (21, .c (.val (.int .i64 (((List.length (Option.getD s_1 (([] : (List (Int × Int))), (0 : Int))).1) : Nat) : Int)))), (22, .c (.val (.int .i64 (0 : Int))))], [], 0⟩ [Option.isSome s_1 = true] (by kernel_rfl) rfl rfl (ap1 c_10) ?_
      refine VL_block ?_
      refine V_to [(1, .c (.val (.int .i64 at_2))), (20, .c (.imm (.slice (.pair (.int .i64) (.int .i64))) (Option.getD s_1 (([] : (List (Int × Int))), (0 : Int))).1)), (21, .c (.val (.int .i64 (((List.length (Option.getD s_1 (([] : (List (Int × Int))), (0 : Int))).1) : Nat) : Int)))), (22, .c (.val (.int .i64 (0 : Int))))] [] [] hn (by kernel_rfl) (by kernel_rfl) rfl rfl rfl ?_
      refine VL_loop (X := (Int × Int)) (fun x => [(1, .c (.val (.int .i64 x.1))), (20, .c (.imm (.slice (.pair (.int .i64) (.int .i64))) (Option.getD s_1 (([] : (List (Int × Int))), (0 : Int))).1)), (21, .c (.val (.int .i64 (((List.length (Option.getD s_1 (([] : (List (Int × Int))), (0 : Int))).1) : Nat) : Int)))), (22, .c (.val (.int .i64 x.2)))]) (fun x => []) (fun k x => subset_Subset_Count.l0 K s_1 k x.1 x.2 = some r) K (at_2, (0 : Int)) H_37 (fun _ h => no_none h) ?_
      intro k_13 x_13 H_38
      obtain ⟨at_11, t_12⟩ := x_13
      have H_39 : subset_Subset_Count.l0 K s_1 (k_13 + 1) at_11 t_12 = some r := H_38
      rw [subset_Subset_Count.l0] at H_39
      refine V_run hN hn 3 0 [1, 20, 21, 22, 23] [] ⟨[(1, .c (.val (.int .i64 at_11))), (20, .c (.imm (.slice (.pair (.int .i64) (.int .i64))) (Option.getD s_1 (([] : (List (Int × Int))), (0 : Int))).1)), (21, .c (.val (.int .i64 (((List.length (Option.getD s_1 (([] : (List (Int × Int))), (0 : Int))).1) : Nat) : Int)))), (22, .c (.val (.int .i64 t_12))), (23, .c (.val (.bool (decide (t_12 < (((List.length (Option.getD s_1 (([] : (List (Int × Int))), (0 : Int))).1) : Nat) : Int))))))], [], 0⟩ [] (by kernel_rfl) rfl rfl ap0 ?_
      refine VL_cond ((decide (t_12 < (((List.length (Option.getD s_1 (([] : (List (Int × Int))), (0 : Int))).1) : Nat) : Int)))) (by kernel_rfl) ?_ ?_
      · intro b_15; have H_40 := of_t H_39 b_15
        refine V_run hN hn 2 0 [1, 20, 21, 22, 23] [] ⟨[(1, .c (.val (.int .i64 at_11))), (20, .c (.imm (.slice (.pair (.int .i64) (.int .i64))) (Option.getD s_1 (([] : (List (Int × Int))), (0 : Int))).1)), (21, .c (.val (.int .i64 (((List.length (Option.getD s_1 (([] : (List (Int × Int))), (0 : Int))).1) : Nat) : Int)))), (22, .c (.val (.int .i64 t_12))), (23, .c (.val (.bool (decide (t_12 < (((List.length (Option.getD s_1 (([] : (List (Int × Int))), (0 : Int))).1) : Nat) : Int))))))], [], 0⟩ [] (by kernel_rfl) rfl rfl ap0 ?_
        refine VL_block ?_
        obtain ⟨c_17, H_42⟩ := of_if H_40
        refine V_run hN hn 5 0 [1, 6, 20, 21, 22, 29] [0] ⟨[(1, .c (.val (.int .i64 at_11))), (6, .c (.h 0)), (20, .c (.imm (.slice (.pair (.int .i64) (.int .i64))) (Option.getD s_1 (([] : (List (Int × Int))), (0 : Int))).1)), (21, .c (.val (.int .i64 (((List.length (Option.getD s_1 (([] : (List (Int × Int))), (0 : Int))).1) : Nat) : Int)))), (22, .c (.val (.int .i64 t_12))), (29, .c (.val (.bool (decide (at_11 < (List.getD (Option.getD s_1 (([] : (List (Int × Int))), (0 : Int))).1 (Int.toNat t_12) ((0 : Int), (0 : Int))).1)))))], [(0, .box [.val (.int .i64 (List.getD (Option.getD s_1 (([] : (List (Int × Int))), (0 : Int))).1 (Int.toNat t_12) ((0 : Int), (0 : Int))).1), .val (.int .i64 (List.getD (Option.getD s_1 (([] : (List (Int × Int))), (0 : Int))).1 (Int.toNat t_12) ((0 : Int), (0 : Int))).2)])], 1⟩ [0 ≤ t_12, t_12 < (((List.length (Option.getD s_1 (([] : (List (Int × Int))), (0 : Int))).1) : Nat) : Int)] (by kernel_rfl) rfl rfl (ap2 c_17.1 (ap1 c_17.2)) ?_
        refine VL_cond ((decide (at_11 < (List.getD (Option.getD s_1 (([] : (List (Int × Int))), (0 : Int))).1 (Int.toNat t_12) ((0 : Int), (0 : Int))).1))) (by kernel_rfl) ?_ ?_
        · intro b_18; have H_43 := of_t H_42 b_18
          refine V_run hN hn 2 1 [4] [] ⟨[(4, .c (.val (.int .i64 (List.getD (Option.getD s_1 (([] : (List (Int × Int))), (0 : Int))).1 (Int.toNat t_12) ((0 : Int), (0 : Int))).2)))], [], 1⟩ [] (by kernel_rfl) rfl rfl ap0 ?_
          have H_45 := Option.some.inj (show some (List.getD (Option.getD s_1 (([] : (List (Int × Int))), (0 : Int))).1 (Int.toNat t_12) ((0 : Int), (0 : Int))).2 = some r from H_43); subst H_45
          refine VL_ret ?_
          refine QB_ret ?_
          refine QL_ret ?_
          refine QB_ret ?_
          exact P_to [(4, .c (.val (.int .i64 (List.getD (Option.getD s_1 (([] : (List (Int × Int))), (0 : Int))).1 (Int.toNat t_12) ((0 : Int), (0 : Int))).2)))] [] [] hn (by kernel_rfl) (by kernel_rfl) rfl rfl rfl (QF_retS (by kernel_rfl) (by kernel_rfl) rfl)
        · intro b_18; have H_44 := of_f H_42 b_18
          refine V_run hN hn 2 1 [1, 20, 21, 22] [] ⟨[(1, .c (.val (.int .i64 (IntKind.wrap .i64 (at_11 - (List.getD (Option.getD s_1 (([] : (List (Int × Int))), (0 : Int))).1 (Int.toNat t_12) ((0 : Int), (0 : Int))).1))))), (20, .c (.imm (.slice (.pair (.int .i64) (.int .i64))) (Option.getD s_1 (([] : (List (Int × Int))), (0 : Int))).1)), (21, .c (.val (.int .i64 (((List.length (Option.getD s_1 (([] : (List (Int × Int))), (0 : Int))).1) : Nat) : Int)))), (22, .c (.val (.int .i64 t_12)))], [], 1⟩ [] (by kernel_rfl) rfl rfl ap0 ?_
          refine VL_nil (QB_end ?_)
          refine V_run hN hn 1 1 [1, 20, 21, 22] [] ⟨[(1, .c (.val (.int .i64 (IntKind.wrap .i64 (at_11 - (List.getD (Option.getD s_1 (([] : (List (Int × Int))), (0 : Int))).1 (Int.toNat t_12) ((0 : Int), (0 : Int))).1))))), (20, .c (.imm (.slice (.pair (.int .i64) (.int .i64))) (Option.getD s_1 (([] : (List (Int × Int))), (0 : Int))).1)), (21, .c (.val (.int .i64 (((List.length (Option.getD s_1 (([] : (List (Int × Int))), (0 : Int))).1) : Nat) : Int)))), (22, .c (.val (.int .i64 (IntKind.wrap .i64 (t_12 + (1 : Int))))))], [], 1⟩ [] (by kernel_rfl) rfl rfl ap0 ?_
          refine VL_nil ?_
          exact V_roundEnd ((IntKind.wrap .i64 (at_11 - (List.getD (Option.getD s_1 (([] : (List (Int × Int))), (0 : Int))).1 (Int.toNat t_12) ((0 : Int), (0 : Int))).1)), (IntKind.wrap .i64 (t_12 + (1 : Int)))) H_44 [] hn (by kernel_rfl) (by kernel_rfl) rfl rfl rfl
      · intro b_15; have H_41 := of_f H_39 b_15
        refine VL_exit ?_
        refine QL_exit ?_
        refine QB_here ?_
        refine V_run hN hn 2 0 [4] [] ⟨[(4, .c (.val (.int .i64 (0 : Int))))], [], 0⟩ [] (by kernel_rfl) rfl rfl ap0 ?_
        have H_46 := Option.some.inj (show some (0 : Int) = some r from H_41); subst H_46
        refine VL_ret ?_
        exact P_to [(4, .c (.val (.int .i64 (0 : Int))))] [] [] hn (by kernel_rfl) (by kernel_rfl) rfl rfl rfl (QF_retS (by kernel_rfl) (by kernel_rfl) rfl)

theorem subset_Subset_Size_spec (K : Nat) (s_1 : (Option ((List (Int × Int)) × Int))) (r : Int) (H : subset_Subset_Size K s_1 = some r) : Spec Try.prog 20 0 [.c (.imm (.opt (.pair (.slice (.pair (.int .i64) (.int .i64))) (.int .i64))) s_1)] [] (.c (.val (.int .i64 r))) [] := by
  refine Spec_mk (fn := Try.f20) (c := (Try.f20.body).get!) Try.func20 (by kernel_rfl) rfl ?_
  intro C hN hn
  replace hN : C.N = 24 := hN
  unfold subset_Subset_Size at H
  obtain ⟨c_2, H_17⟩ := of_if H
  refine V_run hN hn 7 0 [3, 9, 10, 11] [] ⟨[(3, .c (.val (.int .i64 (0 : Int)))), (9, .c (.imm (.slice (.pair (.int .i64) (.int .i64))) (Option.getD s_1 (([] : (List (Int × Int))), (0 : Int))).1)), (10, .c (.val (.int .i64 (((List.length (Option.getD s_1 (([] : (List (Int × Int))), (0 : Int))).1) : Nat) : Int)))), (11, .c (.val (.int .i64 (0 : Int))))], [], 0⟩ [Option.isSome s_1 = true] (by kernel_rfl) rfl rfl (ap1 c_2) ?_
  refine VL_block ?_
  refine V_to [(3, .c (.val (.int .i64 (0 : Int)))), (9, .c (.imm (.slice (.pair (.int .i64) (.int .i64))) (Option.getD s_1 (([] : (List (Int × Int))), (0 : Int))).1)), (10, .c (.val (.int .i64 (((List.length (Option.getD s_1 (([] : (List (Int × Int))), (0 : Int))).1) : Nat) : Int)))), (11, .c (.val (.int .i64 (0 : Int))))] [] [] hn (by kernel_rfl) (by kernel_rfl) rfl rfl rfl ?_
  refine VL_loop (X := (Int × Int)) (fun x => [(3, .c (.val (.int .i64 x.1))), (9, .c (.imm (.slice (.pair (.int .i64) (.int .i64))) (Option.getD s_1 (([] : (List (Int × Int))), (0 : Int))).1)), (10, .c (.val (.int .i64 (((List.length (Option.getD s_1 (([] : (List (Int × Int))), (0 : Int))).1) : Nat) : Int)))), (11, .c (.val (.int .i64 x.2)))]) (fun x => []) (fun k x => subset_Subset_Size.l0 K s_1 k x.1 x.2 = some r) K ((0 : Int), (0 : Int)) H_17 (fun _ h => no_none h) ?_
  intro k_5 x_5 H_18
  obtain ⟨n_3, t_4⟩ := x_5
  have H_19 : subset_Subset_Size.l0 K s_1 (k_5 + 1) n_3 t_4 = some r := H_18
  rw [subset_Subset_Size.l0] at H_19
  refine V_run hN hn 3 0 [3, 9, 10, 11, 12] [] ⟨[(3, .c (.val (.int .i64 n_3))), (9, .c (.imm (.slice (.pair (.int .i64) (.int .i64))) (Option.getD s_1 (([] : (List (Int × Int))), (0 : Int))).1)), (10, .c (.val (.int .i64 (((List.length (Option.getD s_1 (([] : (List (Int × Int))), (0 : Int))).1) : Nat) : Int)))), (11, .c (.val (.int .i64 t_4))), (12, .c (.val (.bool (decide (t_4 < (((List.length (Option.getD s_1 (([] : (List (Int × Int))), (0 : Int))).1) : Nat) : Int))))))], [], 0⟩ [] (by kernel_rfl) rfl rfl ap0 ?_
  refine VL_cond ((decide (t_4 < (((List.length (Option.getD s_1 (([] : (List (Int × Int))), (0 : Int))).1) : Nat) : Int)))) (by kernel_rfl) ?_ ?_
  · intro b_7; have H_20 := of_t H_19 b_7
    refine V_run hN hn 2 0 [3, 9, 10, 11, 12] [] ⟨[(3, .c (.val (.int .i64 n_3))), (9, .c (.imm (.slice (.pair (.int .i64) (.int .i64))) (Option.getD s_1 (([] : (List (Int × Int))), (0 : Int))).1)), (10, .c (.val (.int .i64 (((List.length (Option.getD s_1 (([] : (List (Int × Int))), (0 : Int))).1) : Nat) : Int)))), (11, .c (.val (.int .i64 t_4))), (12, .c (.val (.bool (decide (t_4 < (((List.length (Option.getD s_1 (([] : (List (Int × Int))), (0 : Int))).1) : Nat) : Int))))))], [], 0⟩ [] (by kernel_rfl) rfl rfl ap0 ?_
    refine VL_block ?_
    obtain ⟨c_9, H_22⟩ := of_if H_20
    refine V_run hN hn 4 0 [3, 5, 9, 10, 11, 17] [0] ⟨[(3, .c (.val (.int .i64 n_3))), (5, .c (.h 0)), (9, .c (.imm (.slice (.pair (.int .i64) (.int .i64))) (Option.getD s_1 (([] : (List (Int × Int))), (0 : Int))).1)), (10, .c (.val (.int .i64 (((List.length (Option.getD s_1 (([] : (List (Int × Int))), (0 : Int))).1) : Nat) : Int)))), (11, .c (.val (.int .i64 t_4))), (17, .c (.val (.bool (decide ((List.getD (Option.getD s_1 (([] : (List (Int × Int))), (0 : Int))).1 (Int.toNat t_4) ((0 : Int), (0 : Int))).2 > (0 : Int))))))], [(0, .box [.val (.int .i64 (List.getD (Option.getD s_1 (([] : (List (Int × Int))), (0 : Int))).1 (Int.toNat t_4) ((0 : Int), (0 : Int))).1), .val (.int .i64 (List.getD (Option.getD s_1 (([] : (List (Int × Int))), (0 : Int))).1 (Int.toNat t_4) ((0 : Int), (0 : Int))).2)])], 1⟩ [0 ≤ t_4, t_4 < (((List.length (Option.getD s_1 (([] : (List (Int × Int))), (0 : Int))).1) : Nat) : Int)] (by kernel_rfl) rfl rfl (ap2 c_9.1 (ap1 c_9.2)) ?_
    refine VL_cond ((decide ((List.getD (Option.getD s_1 (([] : (List (Int × Int))), (0 : Int))).1 (Int.toNat t_4) ((0 : Int), (0 : Int))).2 > (0 : Int)))) (by kernel_rfl) ?_ ?_
    · intro b_10; have H_23 := of_t H_22 b_10
      refine V_run hN hn 1 1 [3, 9, 10, 11] [] ⟨[(3, .c (.val (.int .i64 (IntKind.wrap .i64 (n_3 + (List.getD (Option.getD s_1 (([] : (List (Int × Int))), (0 : Int))).1 (Int.toNat t_4) ((0 : Int), (0 : Int))).1))))), (9, .c (.imm (.slice (.pair (.int .i64) (.int .i64))) (Option.getD s_1 (([] : (List (Int × Int))), (0 : Int))).1)), (10, .c (.val (.int .i64 (((List.length (Option.getD s_1 (([] : (List (Int × Int))), (0 : Int))).1) : Nat) : Int)))), (11, .c (.val (.int .i64 t_4)))], [], 1⟩ [] (by kernel_rfl) rfl rfl ap0 ?_
      refine VL_nil (QB_end ?_)
      refine V_run hN hn 1 1 [3, 9, 10, 11] [] ⟨[(3, .c (.val (.int .i64 (IntKind.wrap .i64 (n_3 + (List.getD (Option.getD s_1 (([] : (List (Int × Int))), (0 : Int))).1 (Int.toNat t_4) ((0 : Int), (0 : Int))).1))))), (9, .c (.imm (.slice (.pair (.int .i64) (.int .i64))) (Option.getD s_1 (([] : (List (Int × Int))), (0 : Int))).1)), (10, .c (.val (.int .i64 (((List.length (Option.getD s_1 (([] : (List (Int × Int))), (0 : Int))).1) : Nat) : Int)))), (11, .c (.val (.int .i64 (IntKind.wrap .i64 (t_4 + (1 : Int))))))], [], 1⟩ [] (by kernel_rfl) rfl rfl ap0 ?_
      refine VL_nil ?_
      exact V_roundEnd ((IntKind.wrap .i64 (n_3 + (List.getD (Option.getD s_1 (([] : (List (Int × Int))), (0 : Int))).1 (Int.toNat t_4) ((0 : Int), (0 : Int))).1)), (IntKind.wrap .i64 (t_4 + (1 : Int)))) H_23 [] hn (by kernel_rfl) (by kernel_rfl) rfl rfl rfl
    · intro b_10; have H_24 := of_f H_22 b_10
      refine V_run hN hn 1 1 [3, 5, 9, 10, 11, 17] [0] ⟨[(3, .c (.val (.int .i64 n_3))), (5, .c (.h 0)), (9, .c (.imm (.slice (.pair (.int .i64) (.int .i64))) (Option.getD s_1 (([] : (List (Int × Int))), (0 : Int))).1)), (10, .c (.val (.int .i64 (((List.length (Option.getD s_1 (([] : (List (Int × Int))), (0 : Int))).1) : Nat) : Int)))), (11, .c (.val (.int .i64 t_4))), (17, .c (.val (.bool (decide ((List.getD (Option.getD s_1 (([] : (List (Int × Int))), (0 : Int))).1 (Int.toNat t_4) ((0 : Int), (0 : Int))).2 > (0 : Int))))))], [(0, .box [.val (.int .i64 (List.getD (Option.getD s_1 (([] : (List (Int × Int))), (0 : Int))).1 (Int.toNat t_4) ((0 : Int), (0 : Int))).1), .val (.int .i64 (List.getD (Option.getD s_1 (([] : (List (Int × Int))), (0 : Int))).1 (Int.toNat t_4) ((0 : Int), (0 : Int))).2)])], 1⟩ [] (by kernel_rfl) rfl rfl ap0 ?_
      refine VL_nil (QB_end ?_)
      refine V_run hN hn 1 1 [3, 9, 10, 11] [] ⟨[(3, .c (.val (.int .i64 n_3))), (9, .c (.imm (.slice (.pair (.int .i64) (.int .i64))) (Option.getD s_1 (([] : (List (Int × Int))), (0 : Int))).1)), (10, .c (.val (.int .i64 (((List.length (Option.getD s_1 (([] : (List (Int × Int))), (0 : Int))).1) : Nat) : Int)))), (11, .c (.val (.int .i64 (IntKind.wrap .i64 (t_4 + (1 : Int))))))], [], 1⟩ [] (by kernel_rfl) rfl rfl ap0 ?_
      refine VL_nil ?_
      exact V_roundEnd (n_3, (IntKind.wrap .i64 (t_4 + (1 : Int)))) H_24 [] hn (by kernel_rfl) (by kernel_rfl) rfl rfl rfl
  · intro b_7; have H_21 := of_f H_19 b_7
    refine VL_exit ?_
    refine QL_exit ?_
    refine QB_here ?_
    refine V_run hN hn 2 0 [2] [] ⟨[(2, .c (.val (.int .i64 n_3)))], [], 0⟩ [] (by kernel_rfl) rfl rfl ap0 ?_
    have H_25 := Option.some.inj (show some n_3 = some r from H_21); subst H_25
    refine VL_ret ?_
    exact P_to [(2, .c (.val (.int .i64 n_3)))] [] [] hn (by kernel_rfl) (by kernel_rfl) rfl rfl rfl (QF_retS (by kernel_rfl) (by kernel_rfl) rfl)

theorem slices_Equal_spec (K : Nat) (s1_1 : (List (Int × (Int × ByteArray)))) (s2_2 : (List (Int × (Int × ByteArray)))) (r : Bool) (H : slices_Equal K s1_1 s2_2 = some r) : Spec Try.prog 51 0 [.c (.imm (.slice (.pair (.int .i64) (.pair (.int .i64) .str))) s1_1), .c (.imm (.slice (.pair (.int .i64) (.pair (.int .i64) .str))) s2_2)] [] (.c (.val (.bool r))) [] := by
  refine Spec_mk (fn := Try.f51) (c := (Try.f51.body).get!) Try.func51 (by kernel_rfl) rfl ?_
  intro C hN hn
  replace hN : C.N = 26 := hN
  unfold slices_Equal at H
  refine V_run hN hn 5 0 [0, 1, 10] [] ⟨[(0, .c (.imm (.slice (.pair (.int .i64) (.pair (.int .i64) .str))) s1_1)), (1, .c (.imm (.slice (.pair (.int .i64) (.pair (.int .i64) .str))) s2_2)), (10, .c (.val (.bool ((((List.length s1_1) : Nat) : Int) != (((List.length s2_2) : Nat) : Int)))))], [], 0⟩ [] (by kernel_rfl) rfl rfl ap0 ?_
  refine VL_cond (((((List.length s1_1) : Nat) : Int) != (((List.length s2_2) : Nat) : Int))) (by kernel_rfl) ?_ ?_
  · intro b_4; have H_20 := of_t H b_4
    refine V_run hN hn 2 0 [4] [] ⟨[(4, .c (.val (.bool false)))], [], 0⟩ [] (by kernel_rfl) rfl rfl ap0 ?_
    have H_22 := Option.some.inj (show some false = some r from H_20); subst H_22
    refine VL_ret ?_
    exact P_to [(4, .c (.val (.bool false)))] [] [] hn (by kernel_rfl) (by kernel_rfl) rfl rfl rfl (QF_retS (by kernel_rfl) (by kernel_rfl) rfl)
  · intro b_4; have H_21 := of_f H b_4
    refine V_run hN hn 4 0 [0, 1, 12, 13] [] ⟨[(0, .c (.imm (.slice (.pair (.int .i64) (.pair (.int .i64) .str))) s1_1)), (1, .c (.imm (.slice (.pair (.int .i64) (.pair (.int .i64) .str))) s2_2)), (12, .c (.val (.int .i64 (((List.length s1_1) : Nat) : Int)))), (13, .c (.val (.int .i64 (0 : Int))))], [], 0⟩ [] (by kernel_rfl) rfl rfl ap0 ?_
    refine VL_block ?_
    refine V_to [(0, .c (.imm (.slice (.pair (.int .i64) (.pair (.int .i64) .str))) s1_1)), (1, .c (.imm (.slice (.pair (.int .i64) (.pair (.int .i64) .str))) s2_2)), (12, .c (.val (.int .i64 (((List.length s1_1) : Nat) : Int)))), (13, .c (.val (.int .i64 (0 : Int))))] [] [] hn (by kernel_rfl) (by kernel_rfl) rfl rfl rfl ?_
    refine VL_loop (X := Int) (fun x => [(0, .c (.imm (.slice (.pair (.int .i64) (.pair (.int .i64) .str))) s1_1)), (1, .c (.imm (.slice (.pair (.int .i64) (.pair (.int .i64) .str))) s2_2)), (12, .c (.val (.int .i64 (((List.length s1_1) : Nat) : Int)))), (13, .c (.val (.int .i64 x)))]) (fun x => []) (fun k x => slices_Equal.l0 K s1_1 s2_2 k x = some r) K (0 : Int) H_21 (fun _ h => no_none h) ?_
    intro k_8 t_7 H_23
    have H_24 : slices_Equal.l0 K s1_1 s2_2 (k_8 + 1) t_7 = some r := H_23
    rw [slices_Equal.l0] at H_24
    refine V_run hN hn 3 0 [0, 1, 12, 13, 14] [] ⟨[(0, .c (.imm (.slice (.pair (.int .i64) (.pair (.int .i64) .str))) s1_1)), (1, .c (.imm (.slice (.pair (.int .i64) (.pair (.int .i64) .str))) s2_2)), (12, .c (.val (.int .i64 (((List.length s1_1) : Nat) : Int)))), (13, .c (.val (.int .i64 t_7))), (14, .c (.val (.bool (decide (t_7 < (((List.length s1_1) : Nat) : Int))))))], [], 0⟩ [] (by kernel_rfl) rfl rfl ap0 ?_
    refine VL_cond ((decide (t_7 < (((List.length s1_1) : Nat) : Int)))) (by kernel_rfl) ?_ ?_
    · intro b_10; have H_25 := of_t H_24 b_10
      refine V_run hN hn 2 0 [0, 1, 12, 13, 14] [] ⟨[(0, .c (.imm (.slice (.pair (.int .i64) (.pair (.int .i64) .str))) s1_1)), (1, .c (.imm (.slice (.pair (.int .i64) (.pair (.int .i64) .str))) s2_2)), (12, .c (.val (.int .i64 (((List.length s1_1) : Nat) : Int)))), (13, .c (.val (.int .i64 t_7))), (14, .c (.val (.bool (decide (t_7 < (((List.length s1_1) : Nat) : Int))))))], [], 0⟩ [] (by kernel_rfl) rfl rfl ap0 ?_
      refine VL_block ?_
      refine V_run hN hn 3 0 [0, 1, 5, 12, 13] [] ⟨[(0, .c (.imm (.slice (.pair (.int .i64) (.pair (.int .i64) .str))) s1_1)), (1, .c (.imm (.slice (.pair (.int .i64) (.pair (.int .i64) .str))) s2_2)), (5, .c (.val (.int .i64 t_7))), (12, .c (.val (.int .i64 (((List.length s1_1) : Nat) : Int)))), (13, .c (.val (.int .i64 t_7)))], [], 0⟩ [] (by kernel_rfl) rfl rfl ap0 ?_
      obtain ⟨c_13, H_27⟩ := of_if H_25
      refine V_draw hN hn (by kernel_rfl) [] [] calls_nil 0 [0, 1, 12, 13, 24] [] ⟨[(0, .c (.imm (.slice (.pair (.int .i64) (.pair (.int .i64) .str))) s1_1)), (1, .c (.imm (.slice (.pair (.int .i64) (.pair (.int .i64) .str))) s2_2)), (12, .c (.val (.int .i64 (((List.length s1_1) : Nat) : Int)))), (13, .c (.val (.int .i64 t_7))), (24, .c (.val (.bool (!(((List.getD s1_1 (Int.toNat t_7) ((0 : Int), ((0 : Int), ByteArray.empty))).1 == (List.getD s2_2 (Int.toNat t_7) ((0 : Int), ((0 : Int), ByteArray.empty))).1) && (((List.getD s1_1 (Int.toNat t_7) ((0 : Int), ((0 : Int), ByteArray.empty))).2.1 == (List.getD s2_2 (Int.toNat t_7) ((0 : Int), ((0 : Int), ByteArray.empty))).2.1) && (ByteArray.toList (List.getD s1_1 (Int.toNat t_7) ((0 : Int), ((0 : Int), ByteArray.empty))).2.2 == ByteArray.toList (List.getD s2_2 (Int.toNat t_7) ((0 : Int), ((0 : Int), ByteArray.empty))).2.2)))))))], [], 0⟩ [0 ≤ t_7, t_7 < (((List.length s1_1) : Nat) : Int), 0 ≤ t_7, t_7 < (((List.length s2_2) : Nat) : Int)] (by kernel_rfl) rfl rfl (ap2 c_13.1 (ap2 c_13.2.1 (ap2 c_13.1 (ap1 c_13.2.2)))) (by kernel_rfl) (by kernel_rfl) ?_
      refine VL_cond ((!(((List.getD s1_1 (Int.toNat t_7) ((0 : Int), ((0 : Int), ByteArray.empty))).1 == (List.getD s2_2 (Int.toNat t_7) ((0 : Int), ((0 : Int), ByteArray.empty))).1) && (((List.getD s1_1 (Int.toNat t_7) ((0 : Int), ((0 : Int), ByteArray.empty))).2.1 == (List.getD s2_2 (Int.toNat t_7) ((0 : Int), ((0 : Int), ByteArray.empty))).2.1) && (ByteArray.toList (List.getD s1_1 (Int.toNat t_7) ((0 : Int), ((0 : Int), ByteArray.empty))).2.2 == ByteArray.toList (List.getD s2_2 (Int.toNat t_7) ((0 : Int), ((0 : Int), ByteArray.empty))).2.2))))) (by kernel_rfl) ?_ ?_
      · intro b_14; have H_28 := of_t H_27 b_14
        refine V_run hN hn 2 0 [4] [] ⟨[(4, .c (.val (.bool false)))], [], 0⟩ [] (by kernel_rfl) rfl rfl ap0 ?_
        have H_30 := Option.some.inj (show some false = some r from H_28); subst H_30
        refine VL_ret ?_
        refine QB_ret ?_
        refine QL_ret ?_
        refine QB_ret ?_
        exact P_to [(4, .c (.val (.bool false)))] [] [] hn (by kernel_rfl) (by kernel_rfl) rfl rfl rfl (QF_retS (by kernel_rfl) (by kernel_rfl) rfl)
      · intro b_14; have H_29 := of_f H_27 b_14
        refine V_run hN hn 1 0 [0, 1, 12, 13, 24] [] ⟨[(0, .c (.imm (.slice (.pair (.int .i64) (.pair (.int .i64) .str))) s1_1)), (1, .c (.imm (.slice (.pair (.int .i64) (.pair (.int .i64) .str))) s2_2)), (12, .c (.val (.int .i64 (((List.length s1_1) : Nat) : Int)))), (13, .c (.val (.int .i64 t_7))), (24, .c (.val (.bool (!(((List.getD s1_1 (Int.toNat t_7) ((0 : Int), ((0 : Int), ByteArray.empty))).1 == (List.getD s2_2 (Int.toNat t_7) ((0 : Int), ((0 : Int), ByteArray.empty))).1) && (((List.getD s1_1 (Int.toNat t_7) ((0 : Int), ((0 : Int), ByteArray.empty))).2.1 == (List.getD s2_2 (Int.toNat t_7) ((0 : Int), ((0 : Int), ByteArray.empty))).2.1) && (ByteArray.toList (List.getD s1_1 (Int.toNat t_7) ((0 : Int), ((0 : Int), ByteArray.empty))).2.2 == ByteArray.toList (List.getD s2_2 (Int.toNat t_7) ((0 : Int), ((0 : Int), ByteArray.empty))).2.2)))))))], [], 0⟩ [] (by kernel_rfl) rfl rfl ap0 ?_
        refine VL_nil (QB_end ?_)
        refine V_run hN hn 1 0 [0, 1, 12, 13] [] ⟨[(0, .c (.imm (.slice (.pair (.int .i64) (.pair (.int .i64) .str))) s1_1)), (1, .c (.imm (.slice (.pair (.int .i64) (.pair (.int .i64) .str))) s2_2)), (12, .c (.val (.int .i64 (((List.length s1_1) : Nat) : Int)))), (13, .c (.val (.int .i64 (IntKind.wrap .i64 (t_7 + (1 : Int))))))], [], 0⟩ [] (by kernel_rfl) rfl rfl ap0 ?_
        refine VL_nil ?_
        exact V_roundEnd (IntKind.wrap .i64 (t_7 + (1 : Int))) H_29 [] hn (by kernel_rfl) (by kernel_rfl) rfl rfl rfl
    · intro b_10; have H_26 := of_f H_24 b_10
      refine VL_exit ?_
      refine QL_exit ?_
      refine QB_here ?_
      refine V_run hN hn 2 0 [4] [] ⟨[(4, .c (.val (.bool true)))], [], 0⟩ [] (by kernel_rfl) rfl rfl ap0 ?_
      have H_31 := Option.some.inj (show some true = some r from H_26); subst H_31
      refine VL_ret ?_
      exact P_to [(4, .c (.val (.bool true)))] [] [] hn (by kernel_rfl) (by kernel_rfl) rfl rfl rfl (QF_retS (by kernel_rfl) (by kernel_rfl) rfl)

theorem delta_Same_spec (K : Nat) (a_1 : Int) (a_2 : (List (Int × (Int × ByteArray)))) (b_3 : Int) (b_4 : (List (Int × (Int × ByteArray)))) (r : Bool) (H : delta_Same K a_1 a_2 b_3 b_4 = some r) : Spec Try.prog 32 0 [.agg [.val (.int .i64 a_1), .imm (.slice (.pair (.int .i64) (.pair (.int .i64) .str))) a_2], .agg [.val (.int .i64 b_3), .imm (.slice (.pair (.int .i64) (.pair (.int .i64) .str))) b_4]] [] (.c (.val (.bool r))) [] := by
  refine Spec_mk (fn := Try.f32) (c := (Try.f32.body).get!) Try.func32 (by kernel_rfl) rfl ?_
  intro C hN hn
  replace hN : C.N = 17 := hN
  unfold delta_Same at H
  refine V_run hN hn 3 0 [2, 3] [0, 1] ⟨[(2, .c (.h 0)), (3, .c (.h 1))], [(0, .box [.val (.int .i64 a_1), .imm (.slice (.pair (.int .i64) (.pair (.int .i64) .str))) a_2]), (1, .box [.val (.int .i64 b_3), .imm (.slice (.pair (.int .i64) (.pair (.int .i64) .str))) b_4])], 2⟩ [] (by kernel_rfl) rfl rfl ap0 ?_
  rcases Bool.eq_false_or_eq_true ((a_1 == b_3)) with b_6 | b_6
  · have H_12 := of_t H b_6
    obtain ⟨r_7, h_8, H_14⟩ := of_bind H_12
    refine V_reg hN hn [(10, ⟨51, 0, [.c (.imm (.slice (.pair (.int .i64) (.pair (.int .i64) .str))) a_2), .c (.imm (.slice (.pair (.int .i64) (.pair (.int .i64) .str))) b_4)], [], .c (.val (.bool r_7)), [], [], 2⟩)] [(10, true)] (calls_cons (slices_Equal_spec K a_2 b_4 r_7 h_8) (by kernel_rfl) calls_nil) 2 [4] [] ⟨[(4, .c (.val (.bool r_7)))], [], 2⟩ [(a_1 == b_3) = true] (by kernel_rfl) rfl rfl (ap1 b_6) (by kernel_rfl) (by kernel_rfl) ?_
    have H_15 := Option.some.inj (show some r_7 = some r from H_14); subst H_15
    refine VL_ret ?_
    exact P_to [(4, .c (.val (.bool r_7)))] [] [] hn (by kernel_rfl) (by kernel_rfl) rfl rfl rfl (QF_retS (by kernel_rfl) (by kernel_rfl) rfl)
  · have H_13 := of_f H b_6
    refine V_reg hN hn [] [(10, false)] calls_nil 2 [4] [] ⟨[(4, .c (.val (.bool false)))], [], 2⟩ [(a_1 == b_3) = false] (by kernel_rfl) rfl rfl (ap1 b_6) (by kernel_rfl) (by kernel_rfl) ?_
    have H_16 := Option.some.inj (show some false = some r from H_13); subst H_16
    refine VL_ret ?_
    exact P_to [(4, .c (.val (.bool false)))] [] [] hn (by kernel_rfl) (by kernel_rfl) rfl rfl rfl (QF_retS (by kernel_rfl) (by kernel_rfl) rfl)

theorem palinodelaw12_known_spec (K : Nat) (r : Bool) (H : palinodelaw12_known K  = some r) : Spec Try.prog 8 0 [] [] (.c (.val (.bool r))) [] := by
  refine Spec_mk (fn := Try.f8) (c := (Try.f8.body).get!) Try.func8 (by kernel_rfl) rfl ?_
  intro C hN hn
  replace hN : C.N = 115 := hN
  unfold palinodelaw12_known at H
  refine V_run hN hn 3 0 [] [] ⟨[], [], 0⟩ [] (by kernel_rfl) rfl rfl ap0 ?_
  obtain ⟨r_2, h_3, H_65⟩ := of_bind H
  refine V_reg hN hn [(2, ⟨19, 1, [.c (.val (.int .i64 (3 : Int))), .c (.h 0)], [(0, .row (.pair (.int .i64) (.pair (.int .i64) .str)) ([((1 : Int), ((2 : Int), (ByteArray.mk #[120])))] : List (Int × (Int × ByteArray))))], .tup [(true, [.val (.int .i64 r_2.1), .imm (.slice (.pair (.int .i64) (.pair (.int .i64) .str))) r_2.2.1]), (false, [.val (.int .i64 r_2.2.2)])], [(0, .row (.pair (.int .i64) (.pair (.int .i64) .str)) ([((1 : Int), ((2 : Int), (ByteArray.mk #[120])))] : List (Int × (Int × ByteArray))))], [(0, 0)], 1⟩)] [] (calls_cons (delta_Build_gr_spec K (3 : Int) ([((1 : Int), ((2 : Int), (ByteArray.mk #[120])))] : List (Int × (Int × ByteArray))) r_2 h_3) (by kernel_rfl) calls_nil) 0 [1, 2] [1] ⟨[(1, .c (.h 1)), (2, .c (.val (.int .i64 r_2.2.2)))], [(1, .box [.val (.int .i64 r_2.1), .imm (.slice (.pair (.int .i64) (.pair (.int .i64) .str))) r_2.2.1])], 2⟩ [] (by kernel_rfl) rfl rfl ap0 (by kernel_rfl) (by kernel_rfl) ?_
  refine V_run hN hn 3 2 [1, 21] [1] ⟨[(1, .c (.h 1)), (21, .c (.val (.bool (r_2.2.2 != (0 : Int)))))], [(1, .box [.val (.int .i64 r_2.1), .imm (.slice (.pair (.int .i64) (.pair (.int .i64) .str))) r_2.2.1])], 2⟩ [] (by kernel_rfl) rfl rfl ap0 ?_
  refine VL_cond ((r_2.2.2 != (0 : Int))) (by kernel_rfl) ?_ ?_
  · intro b_6; have H_66 := of_t H_65 b_6
    refine V_run hN hn 2 2 [0] [] ⟨[(0, .c (.val (.bool false)))], [], 2⟩ [] (by kernel_rfl) rfl rfl ap0 ?_
    have H_68 := Option.some.inj (show some false = some r from H_66); subst H_68
    refine VL_ret ?_
    exact P_to [(0, .c (.val (.bool false)))] [] [] hn (by kernel_rfl) (by kernel_rfl) rfl rfl rfl (QF_retS (by kernel_rfl) (by kernel_rfl) rfl)
  · intro b_6; have H_67 := of_f H_65 b_6
    refine V_run hN hn 2 2 [1, 21] [1] ⟨[(1, .c (.h 1)), (21, .c (.val (.bool (r_2.2.2 != (0 : Int)))))], [(1, .box [.val (.int .i64 r_2.1), .imm (.slice (.pair (.int .i64) (.pair (.int .i64) .str))) r_2.2.1])], 2⟩ [] (by kernel_rfl) rfl rfl ap0 ?_
    obtain ⟨r_9, h_10, H_69⟩ := of_bind H_67
    refine V_reg hN hn [(1, ⟨10, 0, [.agg [.val (.int .i64 r_2.1), .imm (.slice (.pair (.int .i64) (.pair (.int .i64) .str))) r_2.2.1]], [], .tup [(true, [.val (.int .i64 r_9.1), .imm (.slice (.pair (.int .i64) (.pair (.int .i64) .str))) r_9.2.1]), (false, [.imm (.opt (.pair (.slice (.pair (.int .i64) (.int .i64))) (.int .i64))) r_9.2.2.1]), (false, [.val (.int .i64 r_9.2.2.2)])], [], [], 2⟩)] [] (calls_cons (factor_Split_spec K r_2.1 r_2.2.1 r_9 h_10) (by kernel_rfl) calls_nil) 2 [1, 3, 4, 5] [1, 2] ⟨[(1, .c (.h 1)), (3, .c (.h 2)), (4, .c (.imm (.opt (.pair (.slice (.pair (.int .i64) (.int .i64))) (.int .i64))) r_9.2.2.1)), (5, .c (.val (.int .i64 r_9.2.2.2)))], [(1, .box [.val (.int .i64 r_2.1), .imm (.slice (.pair (.int .i64) (.pair (.int .i64) .str))) r_2.2.1]), (2, .box [.val (.int .i64 r_9.1), .imm (.slice (.pair (.int .i64) (.pair (.int .i64) .str))) r_9.2.1])], 3⟩ [] (by kernel_rfl) rfl rfl ap0 (by kernel_rfl) (by kernel_rfl) ?_
    refine V_run hN hn 1 3 [1, 3, 4, 5] [1, 2] ⟨[(1, .c (.h 1)), (3, .c (.h 2)), (4, .c (.imm (.opt (.pair (.slice (.pair (.int .i64) (.int .i64))) (.int .i64))) r_9.2.2.1)), (5, .c (.val (.int .i64 r_9.2.2.2)))], [(1, .box [.val (.int .i64 r_2.1), .imm (.slice (.pair (.int .i64) (.pair (.int .i64) .str))) r_2.2.1]), (2, .box [.val (.int .i64 r_9.1), .imm (.slice (.pair (.int .i64) (.pair (.int .i64) .str))) r_9.2.1])], 3⟩ [] (by kernel_rfl) rfl rfl ap0 ?_
    obtain ⟨r_13, h_14, H_70⟩ := of_bind H_69
    refine V_reg hN hn [(2, ⟨27, 0, [.agg [.val (.int .i64 r_9.1), .imm (.slice (.pair (.int .i64) (.pair (.int .i64) .str))) r_9.2.1], .c (.imm (.opt (.pair (.slice (.pair (.int .i64) (.int .i64))) (.int .i64))) r_9.2.2.1)], [], .tup [(true, [.val (.int .i64 r_13.1), .imm (.slice (.pair (.int .i64) (.pair (.int .i64) .str))) r_13.2.1]), (false, [.val (.int .i64 r_13.2.2)])], [], [], 3⟩)] [] (calls_cons (factor_Join_spec K r_9.1 r_9.2.1 r_9.2.2.1 r_13 h_14) (by kernel_rfl) calls_nil) 3 [1, 3, 4, 5, 6, 7] [1, 2, 3] ⟨[(1, .c (.h 1)), (3, .c (.h 2)), (4, .c (.imm (.opt (.pair (.slice (.pair (.int .i64) (.int .i64))) (.int .i64))) r_9.2.2.1)), (5, .c (.val (.int .i64 r_9.2.2.2))), (6, .c (.h 3)), (7, .c (.val (.int .i64 r_13.2.2)))], [(1, .box [.val (.int .i64 r_2.1), .imm (.slice (.pair (.int .i64) (.pair (.int .i64) .str))) r_2.2.1]), (2, .box [.val (.int .i64 r_9.1), .imm (.slice (.pair (.int .i64) (.pair (.int .i64) .str))) r_9.2.1]), (3, .box [.val (.int .i64 r_13.1), .imm (.slice (.pair (.int .i64) (.pair (.int .i64) .str))) r_13.2.1])], 4⟩ [] (by kernel_rfl) rfl rfl ap0 (by kernel_rfl) (by kernel_rfl) ?_
    refine V_run hN hn 1 4 [1, 3, 4, 5, 6, 7] [1, 2, 3] ⟨[(1, .c (.h 1)), (3, .c (.h 2)), (4, .c (.imm (.opt (.pair (.slice (.pair (.int .i64) (.int .i64))) (.int .i64))) r_9.2.2.1)), (5, .c (.val (.int .i64 r_9.2.2.2))), (6, .c (.h 3)), (7, .c (.val (.int .i64 r_13.2.2)))], [(1, .box [.val (.int .i64 r_2.1), .imm (.slice (.pair (.int .i64) (.pair (.int .i64) .str))) r_2.2.1]), (2, .box [.val (.int .i64 r_9.1), .imm (.slice (.pair (.int .i64) (.pair (.int .i64) .str))) r_9.2.1]), (3, .box [.val (.int .i64 r_13.1), .imm (.slice (.pair (.int .i64) (.pair (.int .i64) .str))) r_13.2.1])], 4⟩ [] (by kernel_rfl) rfl rfl ap0 ?_
    obtain ⟨r_17, h_18, H_71⟩ := of_bind H_70
    refine V_reg hN hn [(2, ⟨27, 0, [.agg [.val (.int .i64 r_2.1), .imm (.slice (.pair (.int .i64) (.pair (.int .i64) .str))) r_2.2.1], .c (.imm (.opt (.pair (.slice (.pair (.int .i64) (.int .i64))) (.int .i64))) r_9.2.2.1)], [], .tup [(true, [.val (.int .i64 r_17.1), .imm (.slice (.pair (.int .i64) (.pair (.int .i64) .str))) r_17.2.1]), (false, [.val (.int .i64 r_17.2.2)])], [], [], 4⟩)] [] (calls_cons (factor_Join_spec K r_2.1 r_2.2.1 r_9.2.2.1 r_17 h_18) (by kernel_rfl) calls_nil) 4 [1, 3, 4, 5, 6, 7, 9] [1, 2, 3] ⟨[(1, .c (.h 1)), (3, .c (.h 2)), (4, .c (.imm (.opt (.pair (.slice (.pair (.int .i64) (.int .i64))) (.int .i64))) r_9.2.2.1)), (5, .c (.val (.int .i64 r_9.2.2.2))), (6, .c (.h 3)), (7, .c (.val (.int .i64 r_13.2.2))), (9, .c (.val (.int .i64 r_17.2.2)))], [(1, .box [.val (.int .i64 r_2.1), .imm (.slice (.pair (.int .i64) (.pair (.int .i64) .str))) r_2.2.1]), (2, .box [.val (.int .i64 r_9.1), .imm (.slice (.pair (.int .i64) (.pair (.int .i64) .str))) r_9.2.1]), (3, .box [.val (.int .i64 r_13.1), .imm (.slice (.pair (.int .i64) (.pair (.int .i64) .str))) r_13.2.1])], 5⟩ [] (by kernel_rfl) rfl rfl ap0 (by kernel_rfl) (by kernel_rfl) ?_
    refine V_run hN hn 1 5 [1, 3, 4, 5, 6, 7, 9] [1, 2, 3] ⟨[(1, .c (.h 1)), (3, .c (.h 2)), (4, .c (.imm (.opt (.pair (.slice (.pair (.int .i64) (.int .i64))) (.int .i64))) r_9.2.2.1)), (5, .c (.val (.int .i64 r_9.2.2.2))), (6, .c (.h 3)), (7, .c (.val (.int .i64 r_13.2.2))), (9, .c (.val (.int .i64 r_17.2.2)))], [(1, .box [.val (.int .i64 r_2.1), .imm (.slice (.pair (.int .i64) (.pair (.int .i64) .str))) r_2.2.1]), (2, .box [.val (.int .i64 r_9.1), .imm (.slice (.pair (.int .i64) (.pair (.int .i64) .str))) r_9.2.1]), (3, .box [.val (.int .i64 r_13.1), .imm (.slice (.pair (.int .i64) (.pair (.int .i64) .str))) r_13.2.1])], 5⟩ [] (by kernel_rfl) rfl rfl ap0 ?_
    obtain ⟨r_21, h_22, H_72⟩ := of_bind H_71
    refine V_reg hN hn [(1, ⟨11, 0, [.agg [.val (.int .i64 r_2.1), .imm (.slice (.pair (.int .i64) (.pair (.int .i64) .str))) r_2.2.1]], [], .tup [(false, [.imm (.opt (.pair (.slice (.pair (.int .i64) (.int .i64))) (.int .i64))) r_21.1]), (false, [.val (.int .i64 r_21.2)])], [], [], 5⟩)] [] (calls_cons (factor_Inserted_spec K r_2.1 r_2.2.1 r_21 h_22) (by kernel_rfl) calls_nil) 5 [1, 3, 4, 5, 6, 7, 9, 10, 11] [1, 2, 3] ⟨[(1, .c (.h 1)), (3, .c (.h 2)), (4, .c (.imm (.opt (.pair (.slice (.pair (.int .i64) (.int .i64))) (.int .i64))) r_9.2.2.1)), (5, .c (.val (.int .i64 r_9.2.2.2))), (6, .c (.h 3)), (7, .c (.val (.int .i64 r_13.2.2))), (9, .c (.val (.int .i64 r_17.2.2))), (10, .c (.imm (.opt (.pair (.slice (.pair (.int .i64) (.int .i64))) (.int .i64))) r_21.1)), (11, .c (.val (.int .i64 r_21.2)))], [(1, .box [.val (.int .i64 r_2.1), .imm (.slice (.pair (.int .i64) (.pair (.int .i64) .str))) r_2.2.1]), (2, .box [.val (.int .i64 r_9.1), .imm (.slice (.pair (.int .i64) (.pair (.int .i64) .str))) r_9.2.1]), (3, .box [.val (.int .i64 r_13.1), .imm (.slice (.pair (.int .i64) (.pair (.int .i64) .str))) r_13.2.1])], 5⟩ [] (by kernel_rfl) rfl rfl ap0 (by kernel_rfl) (by kernel_rfl) ?_
    refine V_run hN hn 1 5 [1, 3, 4, 5, 6, 7, 9, 10, 11] [1, 2, 3] ⟨[(1, .c (.h 1)), (3, .c (.h 2)), (4, .c (.imm (.opt (.pair (.slice (.pair (.int .i64) (.int .i64))) (.int .i64))) r_9.2.2.1)), (5, .c (.val (.int .i64 r_9.2.2.2))), (6, .c (.h 3)), (7, .c (.val (.int .i64 r_13.2.2))), (9, .c (.val (.int .i64 r_17.2.2))), (10, .c (.imm (.opt (.pair (.slice (.pair (.int .i64) (.int .i64))) (.int .i64))) r_21.1)), (11, .c (.val (.int .i64 r_21.2)))], [(1, .box [.val (.int .i64 r_2.1), .imm (.slice (.pair (.int .i64) (.pair (.int .i64) .str))) r_2.2.1]), (2, .box [.val (.int .i64 r_9.1), .imm (.slice (.pair (.int .i64) (.pair (.int .i64) .str))) r_9.2.1]), (3, .box [.val (.int .i64 r_13.1), .imm (.slice (.pair (.int .i64) (.pair (.int .i64) .str))) r_13.2.1])], 5⟩ [] (by kernel_rfl) rfl rfl ap0 ?_
    obtain ⟨r_25, h_26, H_73⟩ := of_bind H_72
    refine V_reg hN hn [(1, ⟨12, 0, [.agg [.val (.int .i64 (-1 : Int)), .val (.slice none 0 0)]], [], .tup [(false, [.imm (.opt (.pair (.slice (.pair (.int .i64) (.int .i64))) (.int .i64))) r_25.1]), (false, [.val (.int .i64 r_25.2)])], [], [], 5⟩)] [] (calls_cons (factor_Deleted_sgn_spec K (-1 : Int) r_25 h_26) (by kernel_rfl) calls_nil) 5 [1, 3, 4, 5, 6, 7, 9, 10, 11, 13] [1, 2, 3] ⟨[(1, .c (.h 1)), (3, .c (.h 2)), (4, .c (.imm (.opt (.pair (.slice (.pair (.int .i64) (.int .i64))) (.int .i64))) r_9.2.2.1)), (5, .c (.val (.int .i64 r_9.2.2.2))), (6, .c (.h 3)), (7, .c (.val (.int .i64 r_13.2.2))), (9, .c (.val (.int .i64 r_17.2.2))), (10, .c (.imm (.opt (.pair (.slice (.pair (.int .i64) (.int .i64))) (.int .i64))) r_21.1)), (11, .c (.val (.int .i64 r_21.2))), (13, .c (.val (.int .i64 r_25.2)))], [(1, .box [.val (.int .i64 r_2.1), .imm (.slice (.pair (.int .i64) (.pair (.int .i64) .str))) r_2.2.1]), (2, .box [.val (.int .i64 r_9.1), .imm (.slice (.pair (.int .i64) (.pair (.int .i64) .str))) r_9.2.1]), (3, .box [.val (.int .i64 r_13.1), .imm (.slice (.pair (.int .i64) (.pair (.int .i64) .str))) r_13.2.1])], 5⟩ [] (by kernel_rfl) rfl rfl ap0 (by kernel_rfl) (by kernel_rfl) ?_
    refine V_run hN hn 1 5 [1, 3, 4, 5, 6, 7, 9, 10, 11, 13] [1, 2, 3] ⟨[(1, .c (.h 1)), (3, .c (.h 2)), (4, .c (.imm (.opt (.pair (.slice (.pair (.int .i64) (.int .i64))) (.int .i64))) r_9.2.2.1)), (5, .c (.val (.int .i64 r_9.2.2.2))), (6, .c (.h 3)), (7, .c (.val (.int .i64 r_13.2.2))), (9, .c (.val (.int .i64 r_17.2.2))), (10, .c (.imm (.opt (.pair (.slice (.pair (.int .i64) (.int .i64))) (.int .i64))) r_21.1)), (11, .c (.val (.int .i64 r_21.2))), (13, .c (.val (.int .i64 r_25.2)))], [(1, .box [.val (.int .i64 r_2.1), .imm (.slice (.pair (.int .i64) (.pair (.int .i64) .str))) r_2.2.1]), (2, .box [.val (.int .i64 r_9.1), .imm (.slice (.pair (.int .i64) (.pair (.int .i64) .str))) r_9.2.1]), (3, .box [.val (.int .i64 r_13.1), .imm (.slice (.pair (.int .i64) (.pair (.int .i64) .str))) r_13.2.1])], 5⟩ [] (by kernel_rfl) rfl rfl ap0 ?_
    rcases Bool.eq_false_or_eq_true ((r_9.2.2.2 == (0 : Int))) with b_29 | b_29
    · have H_74 := of_t H_73 b_29
      rcases Bool.eq_false_or_eq_true (((((List.length r_9.2.1) : Nat) : Int) == (3 : Int))) with b_30 | b_30
      · have H_76 := of_t H_74 b_30
        rcases Bool.eq_false_or_eq_true (((List.getD r_9.2.1 0 ((0 : Int), ((0 : Int), ByteArray.empty))).2.1 == (1 : Int))) with b_31 | b_31
        · have H_78 := of_t H_76 b_31
          rcases Bool.eq_false_or_eq_true (((List.getD r_9.2.1 2 ((0 : Int), ((0 : Int), ByteArray.empty))).1 == (1 : Int))) with b_32 | b_32
          · have H_80 := of_t H_78 b_32
            obtain ⟨r_33, h_34, H_82⟩ := of_bind H_80
            rcases Bool.eq_false_or_eq_true ((r_33 == (1 : Int))) with b_35 | b_35
            · have H_83 := of_t H_82 b_35
              obtain ⟨r_36, h_37, H_85⟩ := of_bind H_83
              rcases Bool.eq_false_or_eq_true ((r_36 == (1 : Int))) with b_38 | b_38
              · have H_86 := of_t H_85 b_38
                rcases Bool.eq_false_or_eq_true ((r_13.2.2 == (0 : Int))) with b_39 | b_39
                · have H_88 := of_t H_86 b_39
                  obtain ⟨r_40, h_41, H_90⟩ := of_bind H_88
                  rcases Bool.eq_false_or_eq_true (r_40) with b_42 | b_42
                  · have H_91 := of_t H_90 b_42
                    rcases Bool.eq_false_or_eq_true ((r_17.2.2 == (12 : Int))) with b_43 | b_43
                    · have H_93 := of_t H_91 b_43
                      rcases Bool.eq_false_or_eq_true ((r_21.2 == (0 : Int))) with b_44 | b_44
                      · have H_95 := of_t H_93 b_44
                        obtain ⟨r_45, h_46, H_97⟩ := of_bind H_95
                        rcases Bool.eq_false_or_eq_true ((r_45 == (1 : Int))) with b_47 | b_47
                        · have H_98 := of_t H_97 b_47
                          obtain ⟨r_48, h_49, H_100⟩ := of_bind H_98
                          rcases Bool.eq_false_or_eq_true ((r_48 == (1 : Int))) with b_50 | b_50
                          · have H_101 := of_t H_100 b_50
                            obtain ⟨c_51, H_103⟩ := of_if H_101
                            refine V_reg hN hn [(26, ⟨38, 0, [.c (.imm (.opt (.pair (.slice (.pair (.int .i64) (.int .i64))) (.int .i64))) r_9.2.2.1), .c (.val (.int .i64 (1 : Int)))], [], .c (.val (.int .i64 r_33)), [], [], 5⟩), (31, ⟨20, 0, [.c (.imm (.opt (.pair (.slice (.pair (.int .i64) (.int .i64))) (.int .i64))) r_9.2.2.1)], [], .c (.val (.int .i64 r_36)), [], [], 5⟩), (41, ⟨32, 0, [.agg [.val (.int .i64 r_13.1), .imm (.slice (.pair (.int .i64) (.pair (.int .i64) .str))) r_13.2.1], .agg [.val (.int .i64 r_2.1), .imm (.slice (.pair (.int .i64) (.pair (.int .i64) .str))) r_2.2.1]], [], .c (.val (.bool r_40)), [], [], 5⟩), (53, ⟨38, 0, [.c (.imm (.opt (.pair (.slice (.pair (.int .i64) (.int .i64))) (.int .i64))) r_21.1), .c (.val (.int .i64 (1 : Int)))], [], .c (.val (.int .i64 r_45)), [], [], 5⟩), (58, ⟨20, 0, [.c (.imm (.opt (.pair (.slice (.pair (.int .i64) (.int .i64))) (.int .i64))) r_21.1)], [], .c (.val (.int .i64 r_48)), [], [], 5⟩)] [(52, true), (58, true), (66, true), (74, true), (79, true), (84, true), (88, true), (93, true), (97, true), (101, true), (106, true), (111, true)] (calls_cons (subset_Subset_Count_spec K r_9.2.2.1 (1 : Int) r_33 h_34) (by kernel_rfl) (calls_cons (subset_Subset_Size_spec K r_9.2.2.1 r_36 h_37) (by kernel_rfl) (calls_cons (delta_Same_spec K r_13.1 r_13.2.1 r_2.1 r_2.2.1 r_40 h_41) (by kernel_rfl) (calls_cons (subset_Subset_Count_spec K r_21.1 (1 : Int) r_45 h_46) (by kernel_rfl) (calls_cons (subset_Subset_Size_spec K r_21.1 r_48 h_49) (by kernel_rfl) calls_nil))))) 5 [0] [] ⟨[(0, .c (.val (.bool (r_25.2 == (12 : Int)))))], [], 5⟩ [(r_9.2.2.2 == (0 : Int)) = true, ((((List.length r_9.2.1) : Nat) : Int) == (3 : Int)) = true, (0 : Int) ≤ (0 : Int), (0 : Int) < (((List.length r_9.2.1) : Nat) : Int), ((List.getD r_9.2.1 0 ((0 : Int), ((0 : Int), ByteArray.empty))).2.1 == (1 : Int)) = true, (0 : Int) ≤ (2 : Int), (2 : Int) < (((List.length r_9.2.1) : Nat) : Int), ((List.getD r_9.2.1 2 ((0 : Int), ((0 : Int), ByteArray.empty))).1 == (1 : Int)) = true, (r_33 == (1 : Int)) = true, (r_36 == (1 : Int)) = true, (r_13.2.2 == (0 : Int)) = true, r_40 = true, (r_17.2.2 == (12 : Int)) = true, (r_21.2 == (0 : Int)) = true, (r_45 == (1 : Int)) = true, (r_48 == (1 : Int)) = true] (by kernel_rfl) rfl rfl (ap2 b_29 (ap2 b_30 (ap2 (by decide) (ap2 c_51.1 (ap2 b_31 (ap2 (by decide) (ap2 c_51.2 (ap2 b_32 (ap2 b_35 (ap2 b_38 (ap2 b_39 (ap2 b_42 (ap2 b_43 (ap2 b_44 (ap2 b_47 (ap1 b_50)))))))))))))))) (by kernel_rfl) (by kernel_rfl) ?_
                            have H_104 := Option.some.inj (show some (r_25.2 == (12 : Int)) = some r from H_103); subst H_104
                            refine VL_ret ?_
                            exact P_to [(0, .c (.val (.bool (r_25.2 == (12 : Int)))))] [] [] hn (by kernel_rfl) (by kernel_rfl) rfl rfl rfl (QF_retS (by kernel_rfl) (by kernel_rfl) rfl)
                          · have H_102 := of_f H_100 b_50
                            obtain ⟨c_52, H_105⟩ := of_if H_102
                            refine V_reg hN hn [(26, ⟨38, 0, [.c (.imm (.opt (.pair (.slice (.pair (.int .i64) (.int .i64))) (.int .i64))) r_9.2.2.1), .c (.val (.int .i64 (1 : Int)))], [], .c (.val (.int .i64 r_33)), [], [], 5⟩), (31, ⟨20, 0, [.c (.imm (.opt (.pair (.slice (.pair (.int .i64) (.int .i64))) (.int .i64))) r_9.2.2.1)], [], .c (.val (.int .i64 r_36)), [], [], 5⟩), (41, ⟨32, 0, [.agg [.val (.int .i64 r_13.1), .imm (.slice (.pair (.int .i64) (.pair (.int .i64) .str))) r_13.2.1], .agg [.val (.int .i64 r_2.1), .imm (.slice (.pair (.int .i64) (.pair (.int .i64) .str))) r_2.2.1]], [], .c (.val (.bool r_40)), [], [], 5⟩), (53, ⟨38, 0, [.c (.imm (.opt (.pair (.slice (.pair (.int .i64) (.int .i64))) (.int .i64))) r_21.1), .c (.val (.int .i64 (1 : Int)))], [], .c (.val (.int .i64 r_45)), [], [], 5⟩), (58, ⟨20, 0, [.c (.imm (.opt (.pair (.slice (.pair (.int .i64) (.int .i64))) (.int .i64))) r_21.1)], [], .c (.val (.int .i64 r_48)), [], [], 5⟩)] [(52, true), (58, true), (66, true), (74, true), (79, true), (84, true), (88, true), (93, true), (97, true), (101, true), (106, true), (111, false)] (calls_cons (subset_Subset_Count_spec K r_9.2.2.1 (1 : Int) r_33 h_34) (by kernel_rfl) (calls_cons (subset_Subset_Size_spec K r_9.2.2.1 r_36 h_37) (by kernel_rfl) (calls_cons (delta_Same_spec K r_13.1 r_13.2.1 r_2.1 r_2.2.1 r_40 h_41) (by kernel_rfl) (calls_cons (subset_Subset_Count_spec K r_21.1 (1 : Int) r_45 h_46) (by kernel_rfl) (calls_cons (subset_Subset_Size_spec K r_21.1 r_48 h_49) (by kernel_rfl) calls_nil))))) 5 [0] [] ⟨[(0, .c (.val (.bool false)))], [], 5⟩ [(r_9.2.2.2 == (0 : Int)) = true, ((((List.length r_9.2.1) : Nat) : Int) == (3 : Int)) = true, (0 : Int) ≤ (0 : Int), (0 : Int) < (((List.length r_9.2.1) : Nat) : Int), ((List.getD r_9.2.1 0 ((0 : Int), ((0 : Int), ByteArray.empty))).2.1 == (1 : Int)) = true, (0 : Int) ≤ (2 : Int), (2 : Int) < (((List.length r_9.2.1) : Nat) : Int), ((List.getD r_9.2.1 2 ((0 : Int), ((0 : Int), ByteArray.empty))).1 == (1 : Int)) = true, (r_33 == (1 : Int)) = true, (r_36 == (1 : Int)) = true, (r_13.2.2 == (0 : Int)) = true, r_40 = true, (r_17.2.2 == (12 : Int)) = true, (r_21.2 == (0 : Int)) = true, (r_45 == (1 : Int)) = true, (r_48 == (1 : Int)) = false] (by kernel_rfl) rfl rfl (ap2 b_29 (ap2 b_30 (ap2 (by decide) (ap2 c_52.1 (ap2 b_31 (ap2 (by decide) (ap2 c_52.2 (ap2 b_32 (ap2 b_35 (ap2 b_38 (ap2 b_39 (ap2 b_42 (ap2 b_43 (ap2 b_44 (ap2 b_47 (ap1 b_50)))))))))))))))) (by kernel_rfl) (by kernel_rfl) ?_
                            have H_106 := Option.some.inj (show some false = some r from H_105); subst H_106
                            refine VL_ret ?_
                            exact P_to [(0, .c (.val (.bool false)))] [] [] hn (by kernel_rfl) (by kernel_rfl) rfl rfl rfl (QF_retS (by kernel_rfl) (by kernel_rfl) rfl)
                        · have H_99 := of_f H_97 b_47
                          obtain ⟨c_53, H_107⟩ := of_if H_99
                          refine V_reg hN hn [(26, ⟨38, 0, [.c (.imm (.opt (.pair (.slice (.pair (.int .i64) (.int .i64))) (.int .i64))) r_9.2.2.1), .c (.val (.int .i64 (1 : Int)))], [], .c (.val (.int .i64 r_33)), [], [], 5⟩), (31, ⟨20, 0, [.c (.imm (.opt (.pair (.slice (.pair (.int .i64) (.int .i64))) (.int .i64))) r_9.2.2.1)], [], .c (.val (.int .i64 r_36)), [], [], 5⟩), (41, ⟨32, 0, [.agg [.val (.int .i64 r_13.1), .imm (.slice (.pair (.int .i64) (.pair (.int .i64) .str))) r_13.2.1], .agg [.val (.int .i64 r_2.1), .imm (.slice (.pair (.int .i64) (.pair (.int .i64) .str))) r_2.2.1]], [], .c (.val (.bool r_40)), [], [], 5⟩), (53, ⟨38, 0, [.c (.imm (.opt (.pair (.slice (.pair (.int .i64) (.int .i64))) (.int .i64))) r_21.1), .c (.val (.int .i64 (1 : Int)))], [], .c (.val (.int .i64 r_45)), [], [], 5⟩)] [(52, true), (58, true), (66, true), (74, true), (79, true), (84, true), (88, true), (93, true), (97, true), (101, true), (106, false)] (calls_cons (subset_Subset_Count_spec K r_9.2.2.1 (1 : Int) r_33 h_34) (by kernel_rfl) (calls_cons (subset_Subset_Size_spec K r_9.2.2.1 r_36 h_37) (by kernel_rfl) (calls_cons (delta_Same_spec K r_13.1 r_13.2.1 r_2.1 r_2.2.1 r_40 h_41) (by kernel_rfl) (calls_cons (subset_Subset_Count_spec K r_21.1 (1 : Int) r_45 h_46) (by kernel_rfl) calls_nil)))) 5 [0] [] ⟨[(0, .c (.val (.bool false)))], [], 5⟩ [(r_9.2.2.2 == (0 : Int)) = true, ((((List.length r_9.2.1) : Nat) : Int) == (3 : Int)) = true, (0 : Int) ≤ (0 : Int), (0 : Int) < (((List.length r_9.2.1) : Nat) : Int), ((List.getD r_9.2.1 0 ((0 : Int), ((0 : Int), ByteArray.empty))).2.1 == (1 : Int)) = true, (0 : Int) ≤ (2 : Int), (2 : Int) < (((List.length r_9.2.1) : Nat) : Int), ((List.getD r_9.2.1 2 ((0 : Int), ((0 : Int), ByteArray.empty))).1 == (1 : Int)) = true, (r_33 == (1 : Int)) = true, (r_36 == (1 : Int)) = true, (r_13.2.2 == (0 : Int)) = true, r_40 = true, (r_17.2.2 == (12 : Int)) = true, (r_21.2 == (0 : Int)) = true, (r_45 == (1 : Int)) = false] (by kernel_rfl) rfl rfl (ap2 b_29 (ap2 b_30 (ap2 (by decide) (ap2 c_53.1 (ap2 b_31 (ap2 (by decide) (ap2 c_53.2 (ap2 b_32 (ap2 b_35 (ap2 b_38 (ap2 b_39 (ap2 b_42 (ap2 b_43 (ap2 b_44 (ap1 b_47))))))))))))))) (by kernel_rfl) (by kernel_rfl) ?_
                          have H_108 := Option.some.inj (show some false = some r from H_107); subst H_108
                          refine VL_ret ?_
                          exact P_to [(0, .c (.val (.bool false)))] [] [] hn (by kernel_rfl) (by kernel_rfl) rfl rfl rfl (QF_retS (by kernel_rfl) (by kernel_rfl) rfl)
                      · have H_96 := of_f H_93 b_44
                        obtain ⟨c_54, H_109⟩ := of_if H_96
                        refine V_reg hN hn [(26, ⟨38, 0, [.c (.imm (.opt (.pair (.slice (.pair (.int .i64) (.int .i64))) (.int .i64))) r_9.2.2.1), .c (.val (.int .i64 (1 : Int)))], [], .c (.val (.int .i64 r_33)), [], [], 5⟩), (31, ⟨20, 0, [.c (.imm (.opt (.pair (.slice (.pair (.int .i64) (.int .i64))) (.int .i64))) r_9.2.2.1)], [], .c (.val (.int .i64 r_36)), [], [], 5⟩), (41, ⟨32, 0, [.agg [.val (.int .i64 r_13.1), .imm (.slice (.pair (.int .i64) (.pair (.int .i64) .str))) r_13.2.1], .agg [.val (.int .i64 r_2.1), .imm (.slice (.pair (.int .i64) (.pair (.int .i64) .str))) r_2.2.1]], [], .c (.val (.bool r_40)), [], [], 5⟩)] [(52, true), (58, true), (66, true), (74, true), (79, true), (84, true), (88, true), (93, true), (97, true), (101, false)] (calls_cons (subset_Subset_Count_spec K r_9.2.2.1 (1 : Int) r_33 h_34) (by kernel_rfl) (calls_cons (subset_Subset_Size_spec K r_9.2.2.1 r_36 h_37) (by kernel_rfl) (calls_cons (delta_Same_spec K r_13.1 r_13.2.1 r_2.1 r_2.2.1 r_40 h_41) (by kernel_rfl) calls_nil))) 5 [0] [] ⟨[(0, .c (.val (.bool false)))], [], 5⟩ [(r_9.2.2.2 == (0 : Int)) = true, ((((List.length r_9.2.1) : Nat) : Int) == (3 : Int)) = true, (0 : Int) ≤ (0 : Int), (0 : Int) < (((List.length r_9.2.1) : Nat) : Int), ((List.getD r_9.2.1 0 ((0 : Int), ((0 : Int), ByteArray.empty))).2.1 == (1 : Int)) = true, (0 : Int) ≤ (2 : Int), (2 : Int) < (((List.length r_9.2.1) : Nat) : Int), ((List.getD r_9.2.1 2 ((0 : Int), ((0 : Int), ByteArray.empty))).1 == (1 : Int)) = true, (r_33 == (1 : Int)) = true, (r_36 == (1 : Int)) = true, (r_13.2.2 == (0 : Int)) = true, r_40 = true, (r_17.2.2 == (12 : Int)) = true, (r_21.2 == (0 : Int)) = false] (by kernel_rfl) rfl rfl (ap2 b_29 (ap2 b_30 (ap2 (by decide) (ap2 c_54.1 (ap2 b_31 (ap2 (by decide) (ap2 c_54.2 (ap2 b_32 (ap2 b_35 (ap2 b_38 (ap2 b_39 (ap2 b_42 (ap2 b_43 (ap1 b_44)))))))))))))) (by kernel_rfl) (by kernel_rfl) ?_
                        have H_110 := Option.some.inj (show some false = some r from H_109); subst H_110
                        refine VL_ret ?_
                        exact P_to [(0, .c (.val (.bool false)))] [] [] hn (by kernel_rfl) (by kernel_rfl) rfl rfl rfl (QF_retS (by kernel_rfl) (by kernel_rfl) rfl)
                    · have H_94 := of_f H_91 b_43
                      obtain ⟨c_55, H_111⟩ := of_if H_94
                      refine V_reg hN hn [(26, ⟨38, 0, [.c (.imm (.opt (.pair (.slice (.pair (.int .i64) (.int .i64))) (.int .i64))) r_9.2.2.1), .c (.val (.int .i64 (1 : Int)))], [], .c (.val (.int .i64 r_33)), [], [], 5⟩), (31, ⟨20, 0, [.c (.imm (.opt (.pair (.slice (.pair (.int .i64) (.int .i64))) (.int .i64))) r_9.2.2.1)], [], .c (.val (.int .i64 r_36)), [], [], 5⟩), (41, ⟨32, 0, [.agg [.val (.int .i64 r_13.1), .imm (.slice (.pair (.int .i64) (.pair (.int .i64) .str))) r_13.2.1], .agg [.val (.int .i64 r_2.1), .imm (.slice (.pair (.int .i64) (.pair (.int .i64) .str))) r_2.2.1]], [], .c (.val (.bool r_40)), [], [], 5⟩)] [(52, true), (58, true), (66, true), (74, true), (79, true), (84, true), (88, true), (93, true), (97, false)] (calls_cons (subset_Subset_Count_spec K r_9.2.2.1 (1 : Int) r_33 h_34) (by kernel_rfl) (calls_cons (subset_Subset_Size_spec K r_9.2.2.1 r_36 h_37) (by kernel_rfl) (calls_cons (delta_Same_spec K r_13.1 r_13.2.1 r_2.1 r_2.2.1 r_40 h_41) (by kernel_rfl) calls_nil))) 5 [0] [] ⟨[(0, .c (.val (.bool false)))], [], 5⟩ [(r_9.2.2.2 == (0 : Int)) = true, ((((List.length r_9.2.1) : Nat) : Int) == (3 : Int)) = true, (0 : Int) ≤ (0 : Int), (0 : Int) < (((List.length r_9.2.1) : Nat) : Int), ((List.getD r_9.2.1 0 ((0 : Int), ((0 : Int), ByteArray.empty))).2.1 == (1 : Int)) = true, (0 : Int) ≤ (2 : Int), (2 : Int) < (((List.length r_9.2.1) : Nat) : Int), ((List.getD r_9.2.1 2 ((0 : Int), ((0 : Int), ByteArray.empty))).1 == (1 : Int)) = true, (r_33 == (1 : Int)) = true, (r_36 == (1 : Int)) = true, (r_13.2.2 == (0 : Int)) = true, r_40 = true, (r_17.2.2 == (12 : Int)) = false] (by kernel_rfl) rfl rfl (ap2 b_29 (ap2 b_30 (ap2 (by decide) (ap2 c_55.1 (ap2 b_31 (ap2 (by decide) (ap2 c_55.2 (ap2 b_32 (ap2 b_35 (ap2 b_38 (ap2 b_39 (ap2 b_42 (ap1 b_43))))))))))))) (by kernel_rfl) (by kernel_rfl) ?_
                      have H_112 := Option.some.inj (show some false = some r from H_111); subst H_112
                      refine VL_ret ?_
                      exact P_to [(0, .c (.val (.bool false)))] [] [] hn (by kernel_rfl) (by kernel_rfl) rfl rfl rfl (QF_retS (by kernel_rfl) (by kernel_rfl) rfl)
                  · have H_92 := of_f H_90 b_42
                    obtain ⟨c_56, H_113⟩ := of_if H_92
                    refine V_reg hN hn [(26, ⟨38, 0, [.c (.imm (.opt (.pair (.slice (.pair (.int .i64) (.int .i64))) (.int .i64))) r_9.2.2.1), .c (.val (.int .i64 (1 : Int)))], [], .c (.val (.int .i64 r_33)), [], [], 5⟩), (31, ⟨20, 0, [.c (.imm (.opt (.pair (.slice (.pair (.int .i64) (.int .i64))) (.int .i64))) r_9.2.2.1)], [], .c (.val (.int .i64 r_36)), [], [], 5⟩), (41, ⟨32, 0, [.agg [.val (.int .i64 r_13.1), .imm (.slice (.pair (.int .i64) (.pair (.int .i64) .str))) r_13.2.1], .agg [.val (.int .i64 r_2.1), .imm (.slice (.pair (.int .i64) (.pair (.int .i64) .str))) r_2.2.1]], [], .c (.val (.bool r_40)), [], [], 5⟩)] [(52, true), (58, true), (66, true), (74, true), (79, true), (84, true), (88, true), (93, false)] (calls_cons (subset_Subset_Count_spec K r_9.2.2.1 (1 : Int) r_33 h_34) (by kernel_rfl) (calls_cons (subset_Subset_Size_spec K r_9.2.2.1 r_36 h_37) (by kernel_rfl) (calls_cons (delta_Same_spec K r_13.1 r_13.2.1 r_2.1 r_2.2.1 r_40 h_41) (by kernel_rfl) calls_nil))) 5 [0] [] ⟨[(0, .c (.val (.bool false)))], [], 5⟩ [(r_9.2.2.2 == (0 : Int)) = true, ((((List.length r_9.2.1) : Nat) : Int) == (3 : Int)) = true, (0 : Int) ≤ (0 : Int), (0 : Int) < (((List.length r_9.2.1) : Nat) : Int), ((List.getD r_9.2.1 0 ((0 : Int), ((0 : Int), ByteArray.empty))).2.1 == (1 : Int)) = true, (0 : Int) ≤ (2 : Int), (2 : Int) < (((List.length r_9.2.1) : Nat) : Int), ((List.getD r_9.2.1 2 ((0 : Int), ((0 : Int), ByteArray.empty))).1 == (1 : Int)) = true, (r_33 == (1 : Int)) = true, (r_36 == (1 : Int)) = true, (r_13.2.2 == (0 : Int)) = true, r_40 = false] (by kernel_rfl) rfl rfl (ap2 b_29 (ap2 b_30 (ap2 (by decide) (ap2 c_56.1 (ap2 b_31 (ap2 (by decide) (ap2 c_56.2 (ap2 b_32 (ap2 b_35 (ap2 b_38 (ap2 b_39 (ap1 b_42)))))))))))) (by kernel_rfl) (by kernel_rfl) ?_
                    have H_114 := Option.some.inj (show some false = some r from H_113); subst H_114
                    refine VL_ret ?_
                    exact P_to [(0, .c (.val (.bool false)))] [] [] hn (by kernel_rfl) (by kernel_rfl) rfl rfl rfl (QF_retS (by kernel_rfl) (by kernel_rfl) rfl)
                · have H_89 := of_f H_86 b_39
                  obtain ⟨c_57, H_115⟩ := of_if H_89
                  refine V_reg hN hn [(26, ⟨38, 0, [.c (.imm (.opt (.pair (.slice (.pair (.int .i64) (.int .i64))) (.int .i64))) r_9.2.2.1), .c (.val (.int .i64 (1 : Int)))], [], .c (.val (.int .i64 r_33)), [], [], 5⟩), (31, ⟨20, 0, [.c (.imm (.opt (.pair (.slice (.pair (.int .i64) (.int .i64))) (.int .i64))) r_9.2.2.1)], [], .c (.val (.int .i64 r_36)), [], [], 5⟩)] [(52, true), (58, true), (66, true), (74, true), (79, true), (84, true), (88, false)] (calls_cons (subset_Subset_Count_spec K r_9.2.2.1 (1 : Int) r_33 h_34) (by kernel_rfl) (calls_cons (subset_Subset_Size_spec K r_9.2.2.1 r_36 h_37) (by kernel_rfl) calls_nil)) 5 [0] [] ⟨[(0, .c (.val (.bool false)))], [], 5⟩ [(r_9.2.2.2 == (0 : Int)) = true, ((((List.length r_9.2.1) : Nat) : Int) == (3 : Int)) = true, (0 : Int) ≤ (0 : Int), (0 : Int) < (((List.length r_9.2.1) : Nat) : Int), ((List.getD r_9.2.1 0 ((0 : Int), ((0 : Int), ByteArray.empty))).2.1 == (1 : Int)) = true, (0 : Int) ≤ (2 : Int), (2 : Int) < (((List.length r_9.2.1) : Nat) : Int), ((List.getD r_9.2.1 2 ((0 : Int), ((0 : Int), ByteArray.empty))).1 == (1 : Int)) = true, (r_33 == (1 : Int)) = true, (r_36 == (1 : Int)) = true, (r_13.2.2 == (0 : Int)) = false] (by kernel_rfl) rfl rfl (ap2 b_29 (ap2 b_30 (ap2 (by decide) (ap2 c_57.1 (ap2 b_31 (ap2 (by decide) (ap2 c_57.2 (ap2 b_32 (ap2 b_35 (ap2 b_38 (ap1 b_39))))))))))) (by kernel_rfl) (by kernel_rfl) ?_
                  have H_116 := Option.some.inj (show some false = some r from H_115); subst H_116
                  refine VL_ret ?_
                  exact P_to [(0, .c (.val (.bool false)))] [] [] hn (by kernel_rfl) (by kernel_rfl) rfl rfl rfl (QF_retS (by kernel_rfl) (by kernel_rfl) rfl)
              · have H_87 := of_f H_85 b_38
                obtain ⟨c_58, H_117⟩ := of_if H_87
                refine V_reg hN hn [(26, ⟨38, 0, [.c (.imm (.opt (.pair (.slice (.pair (.int .i64) (.int .i64))) (.int .i64))) r_9.2.2.1), .c (.val (.int .i64 (1 : Int)))], [], .c (.val (.int .i64 r_33)), [], [], 5⟩), (31, ⟨20, 0, [.c (.imm (.opt (.pair (.slice (.pair (.int .i64) (.int .i64))) (.int .i64))) r_9.2.2.1)], [], .c (.val (.int .i64 r_36)), [], [], 5⟩)] [(52, true), (58, true), (66, true), (74, true), (79, true), (84, false)] (calls_cons (subset_Subset_Count_spec K r_9.2.2.1 (1 : Int) r_33 h_34) (by kernel_rfl) (calls_cons (subset_Subset_Size_spec K r_9.2.2.1 r_36 h_37) (by kernel_rfl) calls_nil)) 5 [0] [] ⟨[(0, .c (.val (.bool false)))], [], 5⟩ [(r_9.2.2.2 == (0 : Int)) = true, ((((List.length r_9.2.1) : Nat) : Int) == (3 : Int)) = true, (0 : Int) ≤ (0 : Int), (0 : Int) < (((List.length r_9.2.1) : Nat) : Int), ((List.getD r_9.2.1 0 ((0 : Int), ((0 : Int), ByteArray.empty))).2.1 == (1 : Int)) = true, (0 : Int) ≤ (2 : Int), (2 : Int) < (((List.length r_9.2.1) : Nat) : Int), ((List.getD r_9.2.1 2 ((0 : Int), ((0 : Int), ByteArray.empty))).1 == (1 : Int)) = true, (r_33 == (1 : Int)) = true, (r_36 == (1 : Int)) = false] (by kernel_rfl) rfl rfl (ap2 b_29 (ap2 b_30 (ap2 (by decide) (ap2 c_58.1 (ap2 b_31 (ap2 (by decide) (ap2 c_58.2 (ap2 b_32 (ap2 b_35 (ap1 b_38)))))))))) (by kernel_rfl) (by kernel_rfl) ?_
                have H_118 := Option.some.inj (show some false = some r from H_117); subst H_118
                refine VL_ret ?_
                exact P_to [(0, .c (.val (.bool false)))] [] [] hn (by kernel_rfl) (by kernel_rfl) rfl rfl rfl (QF_retS (by kernel_rfl) (by kernel_rfl) rfl)
            · have H_84 := of_f H_82 b_35
              obtain ⟨c_59, H_119⟩ := of_if H_84
              refine V_reg hN hn [(26, ⟨38, 0, [.c (.imm (.opt (.pair (.slice (.pair (.int .i64) (.int .i64))) (.int .i64))) r_9.2.2.1), .c (.val (.int .i64 (1 : Int)))], [], .c (.val (.int .i64 r_33)), [], [], 5⟩)] [(52, true), (58, true), (66, true), (74, true), (79, false)] (calls_cons (subset_Subset_Count_spec K r_9.2.2.1 (1 : Int) r_33 h_34) (by kernel_rfl) calls_nil) 5 [0] [] ⟨[(0, .c (.val (.bool false)))], [], 5⟩ [(r_9.2.2.2 == (0 : Int)) = true, ((((List.length r_9.2.1) : Nat) : Int) == (3 : Int)) = true, (0 : Int) ≤ (0 : Int), (0 : Int) < (((List.length r_9.2.1) : Nat) : Int), ((List.getD r_9.2.1 0 ((0 : Int), ((0 : Int), ByteArray.empty))).2.1 == (1 : Int)) = true, (0 : Int) ≤ (2 : Int), (2 : Int) < (((List.length r_9.2.1) : Nat) : Int), ((List.getD r_9.2.1 2 ((0 : Int), ((0 : Int), ByteArray.empty))).1 == (1 : Int)) = true, (r_33 == (1 : Int)) = false] (by kernel_rfl) rfl rfl (ap2 b_29 (ap2 b_30 (ap2 (by decide) (ap2 c_59.1 (ap2 b_31 (ap2 (by decide) (ap2 c_59.2 (ap2 b_32 (ap1 b_35))))))))) (by kernel_rfl) (by kernel_rfl) ?_
              have H_120 := Option.some.inj (show some false = some r from H_119); subst H_120
              refine VL_ret ?_
              exact P_to [(0, .c (.val (.bool false)))] [] [] hn (by kernel_rfl) (by kernel_rfl) rfl rfl rfl (QF_retS (by kernel_rfl) (by kernel_rfl) rfl)
          · have H_81 := of_f H_78 b_32
            obtain ⟨c_60, H_121⟩ := of_if H_81
            refine V_reg hN hn [] [(52, true), (58, true), (66, true), (74, false)] calls_nil 5 [0] [] ⟨[(0, .c (.val (.bool false)))], [], 5⟩ [(r_9.2.2.2 == (0 : Int)) = true, ((((List.length r_9.2.1) : Nat) : Int) == (3 : Int)) = true, (0 : Int) ≤ (0 : Int), (0 : Int) < (((List.length r_9.2.1) : Nat) : Int), ((List.getD r_9.2.1 0 ((0 : Int), ((0 : Int), ByteArray.empty))).2.1 == (1 : Int)) = true, (0 : Int) ≤ (2 : Int), (2 : Int) < (((List.length r_9.2.1) : Nat) : Int), ((List.getD r_9.2.1 2 ((0 : Int), ((0 : Int), ByteArray.empty))).1 == (1 : Int)) = false] (by kernel_rfl) rfl rfl (ap2 b_29 (ap2 b_30 (ap2 (by decide) (ap2 c_60.1 (ap2 b_31 (ap2 (by decide) (ap2 c_60.2 (ap1 b_32)))))))) (by kernel_rfl) (by kernel_rfl) ?_
            have H_122 := Option.some.inj (show some false = some r from H_121); subst H_122
            refine VL_ret ?_
            exact P_to [(0, .c (.val (.bool false)))] [] [] hn (by kernel_rfl) (by kernel_rfl) rfl rfl rfl (QF_retS (by kernel_rfl) (by kernel_rfl) rfl)
        · have H_79 := of_f H_76 b_31
          obtain ⟨c_61, H_123⟩ := of_if H_79
          refine V_reg hN hn [] [(52, true), (58, true), (66, false)] calls_nil 5 [0] [] ⟨[(0, .c (.val (.bool false)))], [], 5⟩ [(r_9.2.2.2 == (0 : Int)) = true, ((((List.length r_9.2.1) : Nat) : Int) == (3 : Int)) = true, (0 : Int) ≤ (0 : Int), (0 : Int) < (((List.length r_9.2.1) : Nat) : Int), ((List.getD r_9.2.1 0 ((0 : Int), ((0 : Int), ByteArray.empty))).2.1 == (1 : Int)) = false] (by kernel_rfl) rfl rfl (ap2 b_29 (ap2 b_30 (ap2 (by decide) (ap2 c_61 (ap1 b_31))))) (by kernel_rfl) (by kernel_rfl) ?_
          have H_124 := Option.some.inj (show some false = some r from H_123); subst H_124
          refine VL_ret ?_
          exact P_to [(0, .c (.val (.bool false)))] [] [] hn (by kernel_rfl) (by kernel_rfl) rfl rfl rfl (QF_retS (by kernel_rfl) (by kernel_rfl) rfl)
      · have H_77 := of_f H_74 b_30
        refine V_reg hN hn [] [(52, true), (58, false)] calls_nil 5 [0] [] ⟨[(0, .c (.val (.bool false)))], [], 5⟩ [(r_9.2.2.2 == (0 : Int)) = true, ((((List.length r_9.2.1) : Nat) : Int) == (3 : Int)) = false] (by kernel_rfl) rfl rfl (ap2 b_29 (ap1 b_30)) (by kernel_rfl) (by kernel_rfl) ?_
        have H_125 := Option.some.inj (show some false = some r from H_77); subst H_125
        refine VL_ret ?_
        exact P_to [(0, .c (.val (.bool false)))] [] [] hn (by kernel_rfl) (by kernel_rfl) rfl rfl rfl (QF_retS (by kernel_rfl) (by kernel_rfl) rfl)
    · have H_75 := of_f H_73 b_29
      refine V_reg hN hn [] [(52, false)] calls_nil 5 [0] [] ⟨[(0, .c (.val (.bool false)))], [], 5⟩ [(r_9.2.2.2 == (0 : Int)) = false] (by kernel_rfl) rfl rfl (ap1 b_29) (by kernel_rfl) (by kernel_rfl) ?_
      have H_126 := Option.some.inj (show some false = some r from H_75); subst H_126
      refine VL_ret ?_
      exact P_to [(0, .c (.val (.bool false)))] [] [] hn (by kernel_rfl) (by kernel_rfl) rfl rfl rfl (QF_retS (by kernel_rfl) (by kernel_rfl) rfl)

theorem delta_Ordered_spec (K : Nat) (l_1 : (List (Int × (Int × ByteArray)))) (r : Bool) (H : delta_Ordered_r K l_1 = some r) : Spec Try.prog 60 0 [.c (.imm (.slice (.pair (.int .i64) (.pair (.int .i64) .str))) l_1)] [] (.c (.val (.bool r))) [] := by
  refine Spec_mk (fn := Try.f60) (c := (Try.f60.body).get!) Try.func60 (by kernel_rfl) rfl ?_
  intro C hN hn
  replace hN : C.N = 40 := hN
  unfold delta_Ordered_r at H
  refine V_run hN hn 5 0 [0, 3] [] ⟨[(0, .c (.imm (.slice (.pair (.int .i64) (.pair (.int .i64) .str))) l_1)), (3, .c (.val (.int .i64 (1 : Int))))], [], 0⟩ [] (by kernel_rfl) rfl rfl ap0 ?_
  refine VL_block ?_
  refine V_to [(0, .c (.imm (.slice (.pair (.int .i64) (.pair (.int .i64) .str))) l_1)), (3, .c (.val (.int .i64 (1 : Int))))] [] [] hn (by kernel_rfl) (by kernel_rfl) rfl rfl rfl ?_
  refine VL_loop (X := Int) (fun x => [(0, .c (.imm (.slice (.pair (.int .i64) (.pair (.int .i64) .str))) l_1)), (3, .c (.val (.int .i64 x)))]) (fun x => []) (fun k x => delta_Ordered_r.l0 K l_1 k x = some r) K (1 : Int) H (fun _ h => no_none h) ?_
  intro k_4 i_3 H_25
  have H_26 : delta_Ordered_r.l0 K l_1 (k_4 + 1) i_3 = some r := H_25
  rw [delta_Ordered_r.l0] at H_26
  refine V_run hN hn 3 0 [0, 3, 9] [] ⟨[(0, .c (.imm (.slice (.pair (.int .i64) (.pair (.int .i64) .str))) l_1)), (3, .c (.val (.int .i64 i_3))), (9, .c (.val (.bool (decide (i_3 < (((List.length l_1) : Nat) : Int))))))], [], 0⟩ [] (by kernel_rfl) rfl rfl ap0 ?_
  refine VL_cond ((decide (i_3 < (((List.length l_1) : Nat) : Int)))) (by kernel_rfl) ?_ ?_
  · intro b_6; have H_27 := of_t H_26 b_6
    refine V_run hN hn 2 0 [0, 3, 9] [] ⟨[(0, .c (.imm (.slice (.pair (.int .i64) (.pair (.int .i64) .str))) l_1)), (3, .c (.val (.int .i64 i_3))), (9, .c (.val (.bool (decide (i_3 < (((List.length l_1) : Nat) : Int))))))], [], 0⟩ [] (by kernel_rfl) rfl rfl ap0 ?_
    refine VL_block ?_
    refine V_run hN hn 1 0 [0, 3, 9] [] ⟨[(0, .c (.imm (.slice (.pair (.int .i64) (.pair (.int .i64) .str))) l_1)), (3, .c (.val (.int .i64 i_3))), (9, .c (.val (.bool (decide (i_3 < (((List.length l_1) : Nat) : Int))))))], [], 0⟩ [] (by kernel_rfl) rfl rfl ap0 ?_
    obtain ⟨c_9, H_29⟩ := of_if H_27
    refine V_draw hN hn (by kernel_rfl) [] [] calls_nil 0 [0, 3, 4, 5] [0, 1] ⟨[(0, .c (.imm (.slice (.pair (.int .i64) (.pair (.int .i64) .str))) l_1)), (3, .c (.val (.int .i64 i_3))), (4, .c (.h 0)), (5, .c (.h 1))], [(0, .box [.val (.int .i64 (List.getD l_1 (Int.toNat (IntKind.wrap .i64 (i_3 - (1 : Int)))) ((0 : Int), ((0 : Int), ByteArray.empty))).1), .val (.int .i64 (List.getD l_1 (Int.toNat (IntKind.wrap .i64 (i_3 - (1 : Int)))) ((0 : Int), ((0 : Int), ByteArray.empty))).2.1), .val (.string (List.getD l_1 (Int.toNat (IntKind.wrap .i64 (i_3 - (1 : Int)))) ((0 : Int), ((0 : Int), ByteArray.empty))).2.2)]), (1, .box [.val (.int .i64 (List.getD l_1 (Int.toNat i_3) ((0 : Int), ((0 : Int), ByteArray.empty))).1), .val (.int .i64 (List.getD l_1 (Int.toNat i_3) ((0 : Int), ((0 : Int), ByteArray.empty))).2.1), .val (.string (List.getD l_1 (Int.toNat i_3) ((0 : Int), ((0 : Int), ByteArray.empty))).2.2)])], 2⟩ [0 ≤ (IntKind.wrap .i64 (i_3 - (1 : Int))), (IntKind.wrap .i64 (i_3 - (1 : Int))) < (((List.length l_1) : Nat) : Int), 0 ≤ (IntKind.wrap .i64 (i_3 - (1 : Int))), (IntKind.wrap .i64 (i_3 - (1 : Int))) < (((List.length l_1) : Nat) : Int), 0 ≤ (IntKind.wrap .i64 (i_3 - (1 : Int))), (IntKind.wrap .i64 (i_3 - (1 : Int))) < (((List.length l_1) : Nat) : Int), 0 ≤ (IntKind.wrap .i64 (i_3 - (1 : Int))), (IntKind.wrap .i64 (i_3 - (1 : Int))) < (((List.length l_1) : Nat) : Int), 0 ≤ i_3, i_3 < (((List.length l_1) : Nat) : Int), 0 ≤ i_3, i_3 < (((List.length l_1) : Nat) : Int), 0 ≤ i_3, i_3 < (((List.length l_1) : Nat) : Int), 0 ≤ i_3, i_3 < (((List.length l_1) : Nat) : Int), 0 ≤ i_3, i_3 < (((List.length l_1) : Nat) : Int)] (by kernel_rfl) rfl rfl (ap2 c_9.1 (ap2 c_9.2.1 (ap2 c_9.1 (ap2 c_9.2.1 (ap2 c_9.1 (ap2 c_9.2.1 (ap2 c_9.1 (ap2 c_9.2.1 (ap2 c_9.2.2.1 (ap2 c_9.2.2.2 (ap2 c_9.2.2.1 (ap2 c_9.2.2.2 (ap2 c_9.2.2.1 (ap2 c_9.2.2.2 (ap2 c_9.2.2.1 (ap2 c_9.2.2.2 (ap2 c_9.2.2.1 (ap1 c_9.2.2.2)))))))))))))))))) (by kernel_rfl) (by kernel_rfl) ?_
    refine V_run hN hn 1 2 [0, 3, 4, 5] [0, 1] ⟨[(0, .c (.imm (.slice (.pair (.int .i64) (.pair (.int .i64) .str))) l_1)), (3, .c (.val (.int .i64 i_3))), (4, .c (.h 0)), (5, .c (.h 1))], [(0, .box [.val (.int .i64 (List.getD l_1 (Int.toNat (IntKind.wrap .i64 (i_3 - (1 : Int)))) ((0 : Int), ((0 : Int), ByteArray.empty))).1), .val (.int .i64 (List.getD l_1 (Int.toNat (IntKind.wrap .i64 (i_3 - (1 : Int)))) ((0 : Int), ((0 : Int), ByteArray.empty))).2.1), .val (.string (List.getD l_1 (Int.toNat (IntKind.wrap .i64 (i_3 - (1 : Int)))) ((0 : Int), ((0 : Int), ByteArray.empty))).2.2)]), (1, .box [.val (.int .i64 (List.getD l_1 (Int.toNat i_3) ((0 : Int), ((0 : Int), ByteArray.empty))).1), .val (.int .i64 (List.getD l_1 (Int.toNat i_3) ((0 : Int), ((0 : Int), ByteArray.empty))).2.1), .val (.string (List.getD l_1 (Int.toNat i_3) ((0 : Int), ((0 : Int), ByteArray.empty))).2.2)])], 2⟩ [] (by kernel_rfl) rfl rfl ap0 ?_
    obtain ⟨q_30, H_31, H_32⟩ := of_bind H_29
    refine V_cut (Y := Bool) (R := Bool) q_30 (fun y => y) (fun y => [(0, .c (.imm (.slice (.pair (.int .i64) (.pair (.int .i64) .str))) l_1)), (3, .c (.val (.int .i64 i_3))), (39, .c (.val (.bool y)))]) (fun y => []) ?_ ?_
    · skip
      rcases Bool.eq_false_or_eq_true ((decide ((List.getD l_1 (Int.toNat i_3) ((0 : Int), ((0 : Int), ByteArray.empty))).1 < (List.getD l_1 (Int.toNat (IntKind.wrap .i64 (i_3 - (1 : Int)))) ((0 : Int), ((0 : Int), ByteArray.empty))).2.1))) with b_11 | b_11
      · have H_34 := of_t H_31 b_11
        refine V_reg hN hn [] [(26, true)] calls_nil 2 [0, 3, 39] [] ⟨[(0, .c (.imm (.slice (.pair (.int .i64) (.pair (.int .i64) .str))) l_1)), (3, .c (.val (.int .i64 i_3))), (39, .c (.val (.bool true)))], [], 2⟩ [(decide ((List.getD l_1 (Int.toNat i_3) ((0 : Int), ((0 : Int), ByteArray.empty))).1 < (List.getD l_1 (Int.toNat (IntKind.wrap .i64 (i_3 - (1 : Int)))) ((0 : Int), ((0 : Int), ByteArray.empty))).2.1)) = true] (by kernel_rfl) rfl rfl (ap1 b_11) (by kernel_rfl) (by kernel_rfl) ?_
        have H_36 := Option.some.inj (show some true = some q_30 from H_34); subst H_36
        refine VL_nil ?_
        exact QP_end true rfl [] hn (by kernel_rfl) (by kernel_rfl) rfl rfl rfl
      · have H_35 := of_f H_31 b_11
        rcases Bool.eq_false_or_eq_true (((List.getD l_1 (Int.toNat (IntKind.wrap .i64 (i_3 - (1 : Int)))) ((0 : Int), ((0 : Int), ByteArray.empty))).1 == (List.getD l_1 (Int.toNat i_3) ((0 : Int), ((0 : Int), ByteArray.empty))).1)) with b_13 | b_13
        · have H_37 := of_t H_35 b_13
          refine V_reg hN hn [] [(26, false), (32, true)] calls_nil 2 [0, 3, 39] [] ⟨[(0, .c (.imm (.slice (.pair (.int .i64) (.pair (.int .i64) .str))) l_1)), (3, .c (.val (.int .i64 i_3))), (39, .c (.val (.bool ((List.getD l_1 (Int.toNat (IntKind.wrap .i64 (i_3 - (1 : Int)))) ((0 : Int), ((0 : Int), ByteArray.empty))).2.1 == (List.getD l_1 (Int.toNat i_3) ((0 : Int), ((0 : Int), ByteArray.empty))).1))))], [], 2⟩ [(decide ((List.getD l_1 (Int.toNat i_3) ((0 : Int), ((0 : Int), ByteArray.empty))).1 < (List.getD l_1 (Int.toNat (IntKind.wrap .i64 (i_3 - (1 : Int)))) ((0 : Int), ((0 : Int), ByteArray.empty))).2.1)) = false, ((List.getD l_1 (Int.toNat (IntKind.wrap .i64 (i_3 - (1 : Int)))) ((0 : Int), ((0 : Int), ByteArray.empty))).1 == (List.getD l_1 (Int.toNat i_3) ((0 : Int), ((0 : Int), ByteArray.empty))).1) = true] (by kernel_rfl) rfl rfl (ap2 b_11 (ap1 b_13)) (by kernel_rfl) (by kernel_rfl) ?_
          have H_39 := Option.some.inj (show some ((List.getD l_1 (Int.toNat (IntKind.wrap .i64 (i_3 - (1 : Int)))) ((0 : Int), ((0 : Int), ByteArray.empty))).2.1 == (List.getD l_1 (Int.toNat i_3) ((0 : Int), ((0 : Int), ByteArray.empty))).1) = some q_30 from H_37); subst H_39
          refine VL_nil ?_
          exact QP_end ((List.getD l_1 (Int.toNat (IntKind.wrap .i64 (i_3 - (1 : Int)))) ((0 : Int), ((0 : Int), ByteArray.empty))).2.1 == (List.getD l_1 (Int.toNat i_3) ((0 : Int), ((0 : Int), ByteArray.empty))).1) rfl [] hn (by kernel_rfl) (by kernel_rfl) rfl rfl rfl
        · have H_38 := of_f H_35 b_13
          refine V_reg hN hn [] [(26, false), (32, false)] calls_nil 2 [0, 3, 39] [] ⟨[(0, .c (.imm (.slice (.pair (.int .i64) (.pair (.int .i64) .str))) l_1)), (3, .c (.val (.int .i64 i_3))), (39, .c (.val (.bool false)))], [], 2⟩ [(decide ((List.getD l_1 (Int.toNat i_3) ((0 : Int), ((0 : Int), ByteArray.empty))).1 < (List.getD l_1 (Int.toNat (IntKind.wrap .i64 (i_3 - (1 : Int)))) ((0 : Int), ((0 : Int), ByteArray.empty))).2.1)) = false, ((List.getD l_1 (Int.toNat (IntKind.wrap .i64 (i_3 - (1 : Int)))) ((0 : Int), ((0 : Int), ByteArray.empty))).1 == (List.getD l_1 (Int.toNat i_3) ((0 : Int), ((0 : Int), ByteArray.empty))).1) = false] (by kernel_rfl) rfl rfl (ap2 b_11 (ap1 b_13)) (by kernel_rfl) (by kernel_rfl) ?_
          have H_40 := Option.some.inj (show some false = some q_30 from H_38); subst H_40
          refine VL_nil ?_
          exact QP_end false rfl [] hn (by kernel_rfl) (by kernel_rfl) rfl rfl rfl
    · intro y_33 hy; subst hy
      skip
      skip
      refine VL_cond (y_33) (by kernel_rfl) ?_ ?_
      · intro b_17; have H_41 := of_t H_32 b_17
        refine V_run hN hn 2 2 [2] [] ⟨[(2, .c (.val (.bool false)))], [], 2⟩ [] (by kernel_rfl) rfl rfl ap0 ?_
        have H_43 := Option.some.inj (show some false = some r from H_41); subst H_43
        refine VL_ret ?_
        refine QB_ret ?_
        refine QL_ret ?_
        refine QB_ret ?_
        exact P_to [(2, .c (.val (.bool false)))] [] [] hn (by kernel_rfl) (by kernel_rfl) rfl rfl rfl (QF_retS (by kernel_rfl) (by kernel_rfl) rfl)
      · intro b_17; have H_42 := of_f H_32 b_17
        refine V_run hN hn 1 2 [0, 3, 39] [] ⟨[(0, .c (.imm (.slice (.pair (.int .i64) (.pair (.int .i64) .str))) l_1)), (3, .c (.val (.int .i64 i_3))), (39, .c (.val (.bool y_33)))], [], 2⟩ [] (by kernel_rfl) rfl rfl ap0 ?_
        refine VL_nil (QB_end ?_)
        refine V_run hN hn 1 2 [0, 3] [] ⟨[(0, .c (.imm (.slice (.pair (.int .i64) (.pair (.int .i64) .str))) l_1)), (3, .c (.val (.int .i64 (IntKind.wrap .i64 (i_3 + (1 : Int))))))], [], 2⟩ [] (by kernel_rfl) rfl rfl ap0 ?_
        refine VL_nil ?_
        exact V_roundEnd (IntKind.wrap .i64 (i_3 + (1 : Int))) H_42 [] hn (by kernel_rfl) (by kernel_rfl) rfl rfl rfl
  · intro b_6; have H_28 := of_f H_26 b_6
    refine VL_exit ?_
    refine QL_exit ?_
    refine QB_here ?_
    refine V_run hN hn 2 0 [2] [] ⟨[(2, .c (.val (.bool true)))], [], 0⟩ [] (by kernel_rfl) rfl rfl ap0 ?_
    have H_44 := Option.some.inj (show some true = some r from H_28); subst H_44
    refine VL_ret ?_
    exact P_to [(2, .c (.val (.bool true)))] [] [] hn (by kernel_rfl) (by kernel_rfl) rfl rfl rfl (QF_retS (by kernel_rfl) (by kernel_rfl) rfl)

theorem delta_long_spec (K : Nat) (base_1 : Int) (l_2 : (List (Int × (Int × ByteArray)))) (r : Int) (H : delta_long_gr K base_1 l_2 = some r) : Spec Try.prog 62 0 [.c (.val (.int .i64 base_1)), .c (.imm (.slice (.pair (.int .i64) (.pair (.int .i64) .str))) l_2)] [] (.c (.val (.int .i64 r))) [] := by
  refine Spec_mk (fn := Try.f62) (c := (Try.f62.body).get!) Try.func62 (by kernel_rfl) rfl ?_
  intro C hN hn
  replace hN : C.N = 43 := hN
  unfold delta_long_gr at H
  refine V_run hN hn 7 0 [1, 5, 12, 13, 14] [] ⟨[(1, .c (.imm (.slice (.pair (.int .i64) (.pair (.int .i64) .str))) l_2)), (5, .c (.val (.int .i64 (IntKind.wrap .i64 ((20000 : Int) - base_1))))), (12, .c (.imm (.slice (.pair (.int .i64) (.pair (.int .i64) .str))) l_2)), (13, .c (.val (.int .i64 (((List.length l_2) : Nat) : Int)))), (14, .c (.val (.int .i64 (0 : Int))))], [], 0⟩ [] (by kernel_rfl) rfl rfl ap0 ?_
  obtain ⟨q_28, H_29, H_30⟩ := of_bind H
  refine V_cut (Y := Int) (R := Int) q_28 (fun y => y) (fun y => [(1, .c (.imm (.slice (.pair (.int .i64) (.pair (.int .i64) .str))) l_2)), (5, .c (.val (.int .i64 y)))]) (fun y => []) ?_ ?_
  · skip
    refine VL_block ?_
    refine V_to [(1, .c (.imm (.slice (.pair (.int .i64) (.pair (.int .i64) .str))) l_2)), (5, .c (.val (.int .i64 (IntKind.wrap .i64 ((20000 : Int) - base_1))))), (12, .c (.imm (.slice (.pair (.int .i64) (.pair (.int .i64) .str))) l_2)), (13, .c (.val (.int .i64 (((List.length l_2) : Nat) : Int)))), (14, .c (.val (.int .i64 (0 : Int))))] [] [] hn (by kernel_rfl) (by kernel_rfl) rfl rfl rfl ?_
    refine VL_loop (X := (Int × Int)) (fun x => [(1, .c (.imm (.slice (.pair (.int .i64) (.pair (.int .i64) .str))) l_2)), (5, .c (.val (.int .i64 x.1))), (12, .c (.imm (.slice (.pair (.int .i64) (.pair (.int .i64) .str))) l_2)), (13, .c (.val (.int .i64 (((List.length l_2) : Nat) : Int)))), (14, .c (.val (.int .i64 x.2)))]) (fun x => []) (fun k x => delta_long_gr.l0 K l_2 k x.1 x.2 = some q_28) K ((IntKind.wrap .i64 ((20000 : Int) - base_1)), (0 : Int)) H_29 (fun _ h => no_none h) ?_
    intro k_6 x_6 H_32
    obtain ⟨left_4, t_5⟩ := x_6
    have H_33 : delta_long_gr.l0 K l_2 (k_6 + 1) left_4 t_5 = some q_28 := H_32
    rw [delta_long_gr.l0] at H_33
    refine V_run hN hn 3 0 [1, 5, 12, 13, 14, 15] [] ⟨[(1, .c (.imm (.slice (.pair (.int .i64) (.pair (.int .i64) .str))) l_2)), (5, .c (.val (.int .i64 left_4))), (12, .c (.imm (.slice (.pair (.int .i64) (.pair (.int .i64) .str))) l_2)), (13, .c (.val (.int .i64 (((List.length l_2) : Nat) : Int)))), (14, .c (.val (.int .i64 t_5))), (15, .c (.val (.bool (decide (t_5 < (((List.length l_2) : Nat) : Int))))))], [], 0⟩ [] (by kernel_rfl) rfl rfl ap0 ?_
    refine VL_cond ((decide (t_5 < (((List.length l_2) : Nat) : Int)))) (by kernel_rfl) ?_ ?_
    · intro b_8; have H_34 := of_t H_33 b_8
      refine V_run hN hn 2 0 [1, 5, 12, 13, 14, 15] [] ⟨[(1, .c (.imm (.slice (.pair (.int .i64) (.pair (.int .i64) .str))) l_2)), (5, .c (.val (.int .i64 left_4))), (12, .c (.imm (.slice (.pair (.int .i64) (.pair (.int .i64) .str))) l_2)), (13, .c (.val (.int .i64 (((List.length l_2) : Nat) : Int)))), (14, .c (.val (.int .i64 t_5))), (15, .c (.val (.bool (decide (t_5 < (((List.length l_2) : Nat) : Int))))))], [], 0⟩ [] (by kernel_rfl) rfl rfl ap0 ?_
      refine VL_block ?_
      obtain ⟨c_10, H_36⟩ := of_if H_34
      refine V_run hN hn 3 0 [1, 5, 12, 13, 14] [] ⟨[(1, .c (.imm (.slice (.pair (.int .i64) (.pair (.int .i64) .str))) l_2)), (5, .c (.val (.int .i64 (IntKind.wrap .i64 (left_4 + (IntKind.wrap .i64 ((List.getD l_2 (Int.toNat t_5) ((0 : Int), ((0 : Int), ByteArray.empty))).2.1 - (List.getD l_2 (Int.toNat t_5) ((0 : Int), ((0 : Int), ByteArray.empty))).1))))))), (12, .c (.imm (.slice (.pair (.int .i64) (.pair (.int .i64) .str))) l_2)), (13, .c (.val (.int .i64 (((List.length l_2) : Nat) : Int)))), (14, .c (.val (.int .i64 t_5)))], [], 1⟩ [0 ≤ t_5, t_5 < (((List.length l_2) : Nat) : Int)] (by kernel_rfl) rfl rfl (ap2 c_10.1 (ap1 c_10.2)) ?_
      refine VL_nil (QB_end ?_)
      refine V_run hN hn 1 1 [1, 5, 12, 13, 14] [] ⟨[(1, .c (.imm (.slice (.pair (.int .i64) (.pair (.int .i64) .str))) l_2)), (5, .c (.val (.int .i64 (IntKind.wrap .i64 (left_4 + (IntKind.wrap .i64 ((List.getD l_2 (Int.toNat t_5) ((0 : Int), ((0 : Int), ByteArray.empty))).2.1 - (List.getD l_2 (Int.toNat t_5) ((0 : Int), ((0 : Int), ByteArray.empty))).1))))))), (12, .c (.imm (.slice (.pair (.int .i64) (.pair (.int .i64) .str))) l_2)), (13, .c (.val (.int .i64 (((List.length l_2) : Nat) : Int)))), (14, .c (.val (.int .i64 (IntKind.wrap .i64 (t_5 + (1 : Int))))))], [], 1⟩ [] (by kernel_rfl) rfl rfl ap0 ?_
      refine VL_nil ?_
      exact V_roundEnd ((IntKind.wrap .i64 (left_4 + (IntKind.wrap .i64 ((List.getD l_2 (Int.toNat t_5) ((0 : Int), ((0 : Int), ByteArray.empty))).2.1 - (List.getD l_2 (Int.toNat t_5) ((0 : Int), ((0 : Int), ByteArray.empty))).1)))), (IntKind.wrap .i64 (t_5 + (1 : Int)))) H_36 [] hn (by kernel_rfl) (by kernel_rfl) rfl rfl rfl
    · intro b_8; have H_35 := of_f H_33 b_8
      refine VL_exit ?_
      refine QL_exit ?_
      refine QB_here ?_
      have H_37 := Option.some.inj (show some left_4 = some q_28 from H_35); subst H_37
      refine VL_nil ?_
      exact QP_end left_4 rfl [] hn (by kernel_rfl) (by kernel_rfl) rfl rfl rfl
  · intro y_31 hy; subst hy
    skip
    skip
    refine V_run hN hn 3 0 [5, 26, 27, 28] [] ⟨[(5, .c (.val (.int .i64 y_31))), (26, .c (.imm (.slice (.pair (.int .i64) (.pair (.int .i64) .str))) l_2)), (27, .c (.val (.int .i64 (((List.length l_2) : Nat) : Int)))), (28, .c (.val (.int .i64 (0 : Int))))], [], 0⟩ [] (by kernel_rfl) rfl rfl ap0 ?_
    refine VL_block ?_
    refine V_to [(5, .c (.val (.int .i64 y_31))), (26, .c (.imm (.slice (.pair (.int .i64) (.pair (.int .i64) .str))) l_2)), (27, .c (.val (.int .i64 (((List.length l_2) : Nat) : Int)))), (28, .c (.val (.int .i64 (0 : Int))))] [] [] hn (by kernel_rfl) (by kernel_rfl) rfl rfl rfl ?_
    refine VL_loop (X := (Int × Int)) (fun x => [(5, .c (.val (.int .i64 x.1))), (26, .c (.imm (.slice (.pair (.int .i64) (.pair (.int .i64) .str))) l_2)), (27, .c (.val (.int .i64 (((List.length l_2) : Nat) : Int)))), (28, .c (.val (.int .i64 x.2)))]) (fun x => []) (fun k x => delta_long_gr.l1 K l_2 k x.1 x.2 = some r) K (y_31, (0 : Int)) H_30 (fun _ h => no_none h) ?_
    intro k_16 x_16 H_38
    obtain ⟨left_14, t_15⟩ := x_16
    have H_39 : delta_long_gr.l1 K l_2 (k_16 + 1) left_14 t_15 = some r := H_38
    rw [delta_long_gr.l1] at H_39
    refine V_run hN hn 3 0 [5, 26, 27, 28, 29] [] ⟨[(5, .c (.val (.int .i64 left_14))), (26, .c (.imm (.slice (.pair (.int .i64) (.pair (.int .i64) .str))) l_2)), (27, .c (.val (.int .i64 (((List.length l_2) : Nat) : Int)))), (28, .c (.val (.int .i64 t_15))), (29, .c (.val (.bool (decide (t_15 < (((List.length l_2) : Nat) : Int))))))], [], 0⟩ [] (by kernel_rfl) rfl rfl ap0 ?_
    refine VL_cond ((decide (t_15 < (((List.length l_2) : Nat) : Int)))) (by kernel_rfl) ?_ ?_
    · intro b_18; have H_40 := of_t H_39 b_18
      refine V_run hN hn 2 0 [5, 26, 27, 28, 29] [] ⟨[(5, .c (.val (.int .i64 left_14))), (26, .c (.imm (.slice (.pair (.int .i64) (.pair (.int .i64) .str))) l_2)), (27, .c (.val (.int .i64 (((List.length l_2) : Nat) : Int)))), (28, .c (.val (.int .i64 t_15))), (29, .c (.val (.bool (decide (t_15 < (((List.length l_2) : Nat) : Int))))))], [], 0⟩ [] (by kernel_rfl) rfl rfl ap0 ?_
      refine VL_block ?_
      obtain ⟨c_20, H_42⟩ := of_if H_40
      refine V_run hN hn 5 0 [5, 9, 26, 27, 28, 36] [0] ⟨[(5, .c (.val (.int .i64 left_14))), (9, .c (.h 0)), (26, .c (.imm (.slice (.pair (.int .i64) (.pair (.int .i64) .str))) l_2)), (27, .c (.val (.int .i64 (((List.length l_2) : Nat) : Int)))), (28, .c (.val (.int .i64 t_15))), (36, .c (.val (.bool (decide ((((ByteArray.size (List.getD l_2 (Int.toNat t_15) ((0 : Int), ((0 : Int), ByteArray.empty))).2.2) : Nat) : Int) > left_14)))))], [(0, .box [.val (.int .i64 (List.getD l_2 (Int.toNat t_15) ((0 : Int), ((0 : Int), ByteArray.empty))).1), .val (.int .i64 (List.getD l_2 (Int.toNat t_15) ((0 : Int), ((0 : Int), ByteArray.empty))).2.1), .val (.string (List.getD l_2 (Int.toNat t_15) ((0 : Int), ((0 : Int), ByteArray.empty))).2.2)])], 1⟩ [0 ≤ t_15, t_15 < (((List.length l_2) : Nat) : Int)] (by kernel_rfl) rfl rfl (ap2 c_20.1 (ap1 c_20.2)) ?_
      refine VL_cond ((decide ((((ByteArray.size (List.getD l_2 (Int.toNat t_15) ((0 : Int), ((0 : Int), ByteArray.empty))).2.2) : Nat) : Int) > left_14))) (by kernel_rfl) ?_ ?_
      · intro b_21; have H_43 := of_t H_42 b_21
        refine V_run hN hn 2 1 [4] [] ⟨[(4, .c (.val (.int .i64 (13 : Int))))], [], 1⟩ [] (by kernel_rfl) rfl rfl ap0 ?_
        have H_45 := Option.some.inj (show some (13 : Int) = some r from H_43); subst H_45
        refine VL_ret ?_
        refine QB_ret ?_
        refine QL_ret ?_
        refine QB_ret ?_
        exact P_to [(4, .c (.val (.int .i64 (13 : Int))))] [] [] hn (by kernel_rfl) (by kernel_rfl) rfl rfl rfl (QF_retS (by kernel_rfl) (by kernel_rfl) rfl)
      · intro b_21; have H_44 := of_f H_42 b_21
        refine V_run hN hn 2 1 [5, 26, 27, 28] [] ⟨[(5, .c (.val (.int .i64 (IntKind.wrap .i64 (left_14 - (((ByteArray.size (List.getD l_2 (Int.toNat t_15) ((0 : Int), ((0 : Int), ByteArray.empty))).2.2) : Nat) : Int)))))), (26, .c (.imm (.slice (.pair (.int .i64) (.pair (.int .i64) .str))) l_2)), (27, .c (.val (.int .i64 (((List.length l_2) : Nat) : Int)))), (28, .c (.val (.int .i64 t_15)))], [], 1⟩ [] (by kernel_rfl) rfl rfl ap0 ?_
        refine VL_nil (QB_end ?_)
        refine V_run hN hn 1 1 [5, 26, 27, 28] [] ⟨[(5, .c (.val (.int .i64 (IntKind.wrap .i64 (left_14 - (((ByteArray.size (List.getD l_2 (Int.toNat t_15) ((0 : Int), ((0 : Int), ByteArray.empty))).2.2) : Nat) : Int)))))), (26, .c (.imm (.slice (.pair (.int .i64) (.pair (.int .i64) .str))) l_2)), (27, .c (.val (.int .i64 (((List.length l_2) : Nat) : Int)))), (28, .c (.val (.int .i64 (IntKind.wrap .i64 (t_15 + (1 : Int))))))], [], 1⟩ [] (by kernel_rfl) rfl rfl ap0 ?_
        refine VL_nil ?_
        exact V_roundEnd ((IntKind.wrap .i64 (left_14 - (((ByteArray.size (List.getD l_2 (Int.toNat t_15) ((0 : Int), ((0 : Int), ByteArray.empty))).2.2) : Nat) : Int))), (IntKind.wrap .i64 (t_15 + (1 : Int)))) H_44 [] hn (by kernel_rfl) (by kernel_rfl) rfl rfl rfl
    · intro b_18; have H_41 := of_f H_39 b_18
      refine VL_exit ?_
      refine QL_exit ?_
      refine QB_here ?_
      refine V_run hN hn 2 0 [4] [] ⟨[(4, .c (.val (.int .i64 (0 : Int))))], [], 0⟩ [] (by kernel_rfl) rfl rfl ap0 ?_
      have H_46 := Option.some.inj (show some (0 : Int) = some r from H_41); subst H_46
      refine VL_ret ?_
      exact P_to [(4, .c (.val (.int .i64 (0 : Int))))] [] [] hn (by kernel_rfl) (by kernel_rfl) rfl rfl rfl (QF_retS (by kernel_rfl) (by kernel_rfl) rfl)

theorem delta_check_spec (K : Nat) (base_1 : Int) (l_2 : (List (Int × (Int × ByteArray)))) (r : Int) (H : delta_check_gr K base_1 l_2 = some r) : Spec Try.prog 47 0 [.c (.val (.int .i64 base_1)), .c (.imm (.slice (.pair (.int .i64) (.pair (.int .i64) .str))) l_2)] [] (.c (.val (.int .i64 r))) [] := by
  refine Spec_mk (fn := Try.f47) (c := (Try.f47.body).get!) Try.func47 (by kernel_rfl) rfl ?_
  intro C hN hn
  replace hN : C.N = 55 := hN
  unfold delta_check_gr at H
  refine V_run hN hn 4 0 [0, 1] [] ⟨[(0, .c (.val (.int .i64 base_1))), (1, .c (.imm (.slice (.pair (.int .i64) (.pair (.int .i64) .str))) l_2))], [], 0⟩ [] (by kernel_rfl) rfl rfl ap0 ?_
  obtain ⟨q_59, H_60, H_61⟩ := of_bind H
  refine V_cut (Y := Bool) (R := Bool) q_59 (fun y => y) (fun y => [(0, .c (.val (.int .i64 base_1))), (1, .c (.imm (.slice (.pair (.int .i64) (.pair (.int .i64) .str))) l_2)), (14, .c (.val (.bool y)))]) (fun y => []) ?_ ?_
  · skip
    rcases Bool.eq_false_or_eq_true ((decide (base_1 < (0 : Int)))) with b_4 | b_4
    · have H_63 := of_t H_60 b_4
      refine V_reg hN hn [] [(11, true)] calls_nil 0 [0, 1, 14] [] ⟨[(0, .c (.val (.int .i64 base_1))), (1, .c (.imm (.slice (.pair (.int .i64) (.pair (.int .i64) .str))) l_2)), (14, .c (.val (.bool true)))], [], 0⟩ [(decide (base_1 < (0 : Int))) = true] (by kernel_rfl) rfl rfl (ap1 b_4) (by kernel_rfl) (by kernel_rfl) ?_
      have H_65 := Option.some.inj (show some true = some q_59 from H_63); subst H_65
      refine VL_nil ?_
      exact QP_end true rfl [] hn (by kernel_rfl) (by kernel_rfl) rfl rfl rfl
    · have H_64 := of_f H_60 b_4
      refine V_reg hN hn [] [(11, false)] calls_nil 0 [0, 1, 14] [] ⟨[(0, .c (.val (.int .i64 base_1))), (1, .c (.imm (.slice (.pair (.int .i64) (.pair (.int .i64) .str))) l_2)), (14, .c (.val (.bool (decide (base_1 > (20000 : Int))))))], [], 0⟩ [(decide (base_1 < (0 : Int))) = false] (by kernel_rfl) rfl rfl (ap1 b_4) (by kernel_rfl) (by kernel_rfl) ?_
      have H_66 := Option.some.inj (show some (decide (base_1 > (20000 : Int))) = some q_59 from H_64); subst H_66
      refine VL_nil ?_
      exact QP_end (decide (base_1 > (20000 : Int))) rfl [] hn (by kernel_rfl) (by kernel_rfl) rfl rfl rfl
  · intro y_62 hy; subst hy
    skip
    skip
    refine VL_cond (y_62) (by kernel_rfl) ?_ ?_
    · intro b_8; have H_67 := of_t H_61 b_8
      refine V_run hN hn 2 0 [4] [] ⟨[(4, .c (.val (.int .i64 (10 : Int))))], [], 0⟩ [] (by kernel_rfl) rfl rfl ap0 ?_
      have H_69 := Option.some.inj (show some (10 : Int) = some r from H_67); subst H_69
      refine VL_ret ?_
      exact P_to [(4, .c (.val (.int .i64 (10 : Int))))] [] [] hn (by kernel_rfl) (by kernel_rfl) rfl rfl rfl (QF_retS (by kernel_rfl) (by kernel_rfl) rfl)
    · intro b_8; have H_68 := of_f H_61 b_8
      refine V_run hN hn 4 0 [0, 1, 15, 16, 17] [] ⟨[(0, .c (.val (.int .i64 base_1))), (1, .c (.imm (.slice (.pair (.int .i64) (.pair (.int .i64) .str))) l_2)), (15, .c (.imm (.slice (.pair (.int .i64) (.pair (.int .i64) .str))) l_2)), (16, .c (.val (.int .i64 (((List.length l_2) : Nat) : Int)))), (17, .c (.val (.int .i64 (0 : Int))))], [], 0⟩ [] (by kernel_rfl) rfl rfl ap0 ?_
      obtain ⟨q_70, H_71, H_72⟩ := of_bind H_68
      refine V_cut (Y := Unit) (R := (Int ⊕ Unit)) q_70 (fun y => (Sum.inr y)) (fun y => [(0, .c (.val (.int .i64 base_1))), (1, .c (.imm (.slice (.pair (.int .i64) (.pair (.int .i64) .str))) l_2))]) (fun y => []) ?_ ?_
      · skip
        refine VL_block ?_
        refine V_to [(0, .c (.val (.int .i64 base_1))), (1, .c (.imm (.slice (.pair (.int .i64) (.pair (.int .i64) .str))) l_2)), (15, .c (.imm (.slice (.pair (.int .i64) (.pair (.int .i64) .str))) l_2)), (16, .c (.val (.int .i64 (((List.length l_2) : Nat) : Int)))), (17, .c (.val (.int .i64 (0 : Int))))] [] [] hn (by kernel_rfl) (by kernel_rfl) rfl rfl rfl ?_
        refine VL_loop (X := Int) (fun x => [(0, .c (.val (.int .i64 base_1))), (1, .c (.imm (.slice (.pair (.int .i64) (.pair (.int .i64) .str))) l_2)), (15, .c (.imm (.slice (.pair (.int .i64) (.pair (.int .i64) .str))) l_2)), (16, .c (.val (.int .i64 (((List.length l_2) : Nat) : Int)))), (17, .c (.val (.int .i64 x)))]) (fun x => []) (fun k x => delta_check_gr.l0 K l_2 base_1 k x = some q_70) K (0 : Int) H_71 (fun _ h => no_none h) ?_
        intro k_12 t_11 H_74
        have H_75 : delta_check_gr.l0 K l_2 base_1 (k_12 + 1) t_11 = some q_70 := H_74
        rw [delta_check_gr.l0] at H_75
        refine V_run hN hn 3 0 [0, 1, 15, 16, 17, 18] [] ⟨[(0, .c (.val (.int .i64 base_1))), (1, .c (.imm (.slice (.pair (.int .i64) (.pair (.int .i64) .str))) l_2)), (15, .c (.imm (.slice (.pair (.int .i64) (.pair (.int .i64) .str))) l_2)), (16, .c (.val (.int .i64 (((List.length l_2) : Nat) : Int)))), (17, .c (.val (.int .i64 t_11))), (18, .c (.val (.bool (decide (t_11 < (((List.length l_2) : Nat) : Int))))))], [], 0⟩ [] (by kernel_rfl) rfl rfl ap0 ?_
        refine VL_cond ((decide (t_11 < (((List.length l_2) : Nat) : Int)))) (by kernel_rfl) ?_ ?_
        · intro b_14; have H_76 := of_t H_75 b_14
          refine V_run hN hn 2 0 [0, 1, 15, 16, 17, 18] [] ⟨[(0, .c (.val (.int .i64 base_1))), (1, .c (.imm (.slice (.pair (.int .i64) (.pair (.int .i64) .str))) l_2)), (15, .c (.imm (.slice (.pair (.int .i64) (.pair (.int .i64) .str))) l_2)), (16, .c (.val (.int .i64 (((List.length l_2) : Nat) : Int)))), (17, .c (.val (.int .i64 t_11))), (18, .c (.val (.bool (decide (t_11 < (((List.length l_2) : Nat) : Int))))))], [], 0⟩ [] (by kernel_rfl) rfl rfl ap0 ?_
          refine VL_block ?_
          obtain ⟨c_16, H_78⟩ := of_if H_76
          refine V_run hN hn 3 0 [0, 1, 6, 15, 16, 17] [0] ⟨[(0, .c (.val (.int .i64 base_1))), (1, .c (.imm (.slice (.pair (.int .i64) (.pair (.int .i64) .str))) l_2)), (6, .c (.h 0)), (15, .c (.imm (.slice (.pair (.int .i64) (.pair (.int .i64) .str))) l_2)), (16, .c (.val (.int .i64 (((List.length l_2) : Nat) : Int)))), (17, .c (.val (.int .i64 t_11)))], [(0, .box [.val (.int .i64 (List.getD l_2 (Int.toNat t_11) ((0 : Int), ((0 : Int), ByteArray.empty))).1), .val (.int .i64 (List.getD l_2 (Int.toNat t_11) ((0 : Int), ((0 : Int), ByteArray.empty))).2.1), .val (.string (List.getD l_2 (Int.toNat t_11) ((0 : Int), ((0 : Int), ByteArray.empty))).2.2)])], 1⟩ [0 ≤ t_11, t_11 < (((List.length l_2) : Nat) : Int)] (by kernel_rfl) rfl rfl (ap2 c_16.1 (ap1 c_16.2)) ?_
          obtain ⟨q_79, H_80, H_81⟩ := of_bind H_78
          refine V_cut (Y := Bool) (R := Bool) q_79 (fun y => y) (fun y => [(0, .c (.val (.int .i64 base_1))), (1, .c (.imm (.slice (.pair (.int .i64) (.pair (.int .i64) .str))) l_2)), (15, .c (.imm (.slice (.pair (.int .i64) (.pair (.int .i64) .str))) l_2)), (16, .c (.val (.int .i64 (((List.length l_2) : Nat) : Int)))), (17, .c (.val (.int .i64 t_11))), (36, .c (.val (.bool y)))]) (fun y => []) ?_ ?_
          · skip
            rcases Bool.eq_false_or_eq_true ((decide ((List.getD l_2 (Int.toNat t_11) ((0 : Int), ((0 : Int), ByteArray.empty))).1 < (0 : Int)))) with b_17 | b_17
            · have H_83 := of_t H_80 b_17
              refine V_reg hN hn [] [(24, true)] calls_nil 1 [0, 1, 15, 16, 17, 36] [] ⟨[(0, .c (.val (.int .i64 base_1))), (1, .c (.imm (.slice (.pair (.int .i64) (.pair (.int .i64) .str))) l_2)), (15, .c (.imm (.slice (.pair (.int .i64) (.pair (.int .i64) .str))) l_2)), (16, .c (.val (.int .i64 (((List.length l_2) : Nat) : Int)))), (17, .c (.val (.int .i64 t_11))), (36, .c (.val (.bool true)))], [], 1⟩ [(decide ((List.getD l_2 (Int.toNat t_11) ((0 : Int), ((0 : Int), ByteArray.empty))).1 < (0 : Int))) = true] (by kernel_rfl) rfl rfl (ap1 b_17) (by kernel_rfl) (by kernel_rfl) ?_
              have H_85 := Option.some.inj (show some true = some q_79 from H_83); subst H_85
              refine VL_nil ?_
              exact QP_end true rfl [] hn (by kernel_rfl) (by kernel_rfl) rfl rfl rfl
            · have H_84 := of_f H_80 b_17
              rcases Bool.eq_false_or_eq_true ((decide ((List.getD l_2 (Int.toNat t_11) ((0 : Int), ((0 : Int), ByteArray.empty))).1 > (List.getD l_2 (Int.toNat t_11) ((0 : Int), ((0 : Int), ByteArray.empty))).2.1))) with b_19 | b_19
              · have H_86 := of_t H_84 b_19
                refine V_reg hN hn [] [(24, false), (31, true)] calls_nil 1 [0, 1, 15, 16, 17, 36] [] ⟨[(0, .c (.val (.int .i64 base_1))), (1, .c (.imm (.slice (.pair (.int .i64) (.pair (.int .i64) .str))) l_2)), (15, .c (.imm (.slice (.pair (.int .i64) (.pair (.int .i64) .str))) l_2)), (16, .c (.val (.int .i64 (((List.length l_2) : Nat) : Int)))), (17, .c (.val (.int .i64 t_11))), (36, .c (.val (.bool true)))], [], 1⟩ [(decide ((List.getD l_2 (Int.toNat t_11) ((0 : Int), ((0 : Int), ByteArray.empty))).1 < (0 : Int))) = false, (decide ((List.getD l_2 (Int.toNat t_11) ((0 : Int), ((0 : Int), ByteArray.empty))).1 > (List.getD l_2 (Int.toNat t_11) ((0 : Int), ((0 : Int), ByteArray.empty))).2.1)) = true] (by kernel_rfl) rfl rfl (ap2 b_17 (ap1 b_19)) (by kernel_rfl) (by kernel_rfl) ?_
                have H_88 := Option.some.inj (show some true = some q_79 from H_86); subst H_88
                refine VL_nil ?_
                exact QP_end true rfl [] hn (by kernel_rfl) (by kernel_rfl) rfl rfl rfl
              · have H_87 := of_f H_84 b_19
                refine V_reg hN hn [] [(24, false), (31, false)] calls_nil 1 [0, 1, 15, 16, 17, 36] [] ⟨[(0, .c (.val (.int .i64 base_1))), (1, .c (.imm (.slice (.pair (.int .i64) (.pair (.int .i64) .str))) l_2)), (15, .c (.imm (.slice (.pair (.int .i64) (.pair (.int .i64) .str))) l_2)), (16, .c (.val (.int .i64 (((List.length l_2) : Nat) : Int)))), (17, .c (.val (.int .i64 t_11))), (36, .c (.val (.bool (decide ((List.getD l_2 (Int.toNat t_11) ((0 : Int), ((0 : Int), ByteArray.empty))).2.1 > base_1)))))], [], 1⟩ [(decide ((List.getD l_2 (Int.toNat t_11) ((0 : Int), ((0 : Int), ByteArray.empty))).1 < (0 : Int))) = false, (decide ((List.getD l_2 (Int.toNat t_11) ((0 : Int), ((0 : Int), ByteArray.empty))).1 > (List.getD l_2 (Int.toNat t_11) ((0 : Int), ((0 : Int), ByteArray.empty))).2.1)) = false] (by kernel_rfl) rfl rfl (ap2 b_17 (ap1 b_19)) (by kernel_rfl) (by kernel_rfl) ?_
                have H_89 := Option.some.inj (show some (decide ((List.getD l_2 (Int.toNat t_11) ((0 : Int), ((0 : Int), ByteArray.empty))).2.1 > base_1)) = some q_79 from H_87); subst H_89
                refine VL_nil ?_
                exact QP_end (decide ((List.getD l_2 (Int.toNat t_11) ((0 : Int), ((0 : Int), ByteArray.empty))).2.1 > base_1)) rfl [] hn (by kernel_rfl) (by kernel_rfl) rfl rfl rfl
          · intro y_82 hy; subst hy
            skip
            skip
            refine VL_cond (y_82) (by kernel_rfl) ?_ ?_
            · intro b_23; have H_90 := of_t H_81 b_23
              refine V_run hN hn 2 1 [4] [] ⟨[(4, .c (.val (.int .i64 (10 : Int))))], [], 1⟩ [] (by kernel_rfl) rfl rfl ap0 ?_
              have H_92 := Option.some.inj (show some (Sum.inl (10 : Int)) = some q_70 from H_90); subst H_92
              have H_93 := Option.some.inj (show some (10 : Int) = some r from H_72); subst H_93
              refine VL_ret ?_
              refine QB_ret ?_
              refine QL_ret ?_
              refine QB_ret ?_
              refine QP_ret ?_
              exact P_to [(4, .c (.val (.int .i64 (10 : Int))))] [] [] hn (by kernel_rfl) (by kernel_rfl) rfl rfl rfl (QF_retS (by kernel_rfl) (by kernel_rfl) rfl)
            · intro b_23; have H_91 := of_f H_81 b_23
              refine V_run hN hn 1 1 [0, 1, 15, 16, 17, 36] [] ⟨[(0, .c (.val (.int .i64 base_1))), (1, .c (.imm (.slice (.pair (.int .i64) (.pair (.int .i64) .str))) l_2)), (15, .c (.imm (.slice (.pair (.int .i64) (.pair (.int .i64) .str))) l_2)), (16, .c (.val (.int .i64 (((List.length l_2) : Nat) : Int)))), (17, .c (.val (.int .i64 t_11))), (36, .c (.val (.bool y_82)))], [], 1⟩ [] (by kernel_rfl) rfl rfl ap0 ?_
              refine VL_nil (QB_end ?_)
              refine V_run hN hn 1 1 [0, 1, 15, 16, 17] [] ⟨[(0, .c (.val (.int .i64 base_1))), (1, .c (.imm (.slice (.pair (.int .i64) (.pair (.int .i64) .str))) l_2)), (15, .c (.imm (.slice (.pair (.int .i64) (.pair (.int .i64) .str))) l_2)), (16, .c (.val (.int .i64 (((List.length l_2) : Nat) : Int)))), (17, .c (.val (.int .i64 (IntKind.wrap .i64 (t_11 + (1 : Int))))))], [], 1⟩ [] (by kernel_rfl) rfl rfl ap0 ?_
              refine VL_nil ?_
              exact V_roundEnd (IntKind.wrap .i64 (t_11 + (1 : Int))) H_91 [] hn (by kernel_rfl) (by kernel_rfl) rfl rfl rfl
        · intro b_14; have H_77 := of_f H_75 b_14
          refine VL_exit ?_
          refine QL_exit ?_
          refine QB_here ?_
          have H_94 := Option.some.inj (show some (Sum.inr ()) = some q_70 from H_77); subst H_94
          refine VL_nil ?_
          exact QP_end () rfl [] hn (by kernel_rfl) (by kernel_rfl) rfl rfl rfl
      · intro y_73 hy; subst hy
        skip
        refine V_run hN hn 2 0 [0, 1] [] ⟨[(0, .c (.val (.int .i64 base_1))), (1, .c (.imm (.slice (.pair (.int .i64) (.pair (.int .i64) .str))) l_2))], [], 0⟩ [] (by kernel_rfl) rfl rfl ap0 ?_
        obtain ⟨r_28, h_29, H_95⟩ := of_bind H_72
        refine V_reg hN hn [(1, ⟨60, 0, [.c (.imm (.slice (.pair (.int .i64) (.pair (.int .i64) .str))) l_2)], [], .c (.val (.bool r_28)), [], [], 0⟩)] [] (calls_cons (delta_Ordered_spec K l_2 r_28 h_29) (by kernel_rfl) calls_nil) 0 [0, 1, 40] [] ⟨[(0, .c (.val (.int .i64 base_1))), (1, .c (.imm (.slice (.pair (.int .i64) (.pair (.int .i64) .str))) l_2)), (40, .c (.val (.bool (!r_28))))], [], 0⟩ [] (by kernel_rfl) rfl rfl ap0 (by kernel_rfl) (by kernel_rfl) ?_
        refine VL_cond ((!r_28)) (by kernel_rfl) ?_ ?_
        · intro b_31; have H_96 := of_t H_95 b_31
          refine V_run hN hn 2 0 [4] [] ⟨[(4, .c (.val (.int .i64 (180 : Int))))], [], 0⟩ [] (by kernel_rfl) rfl rfl ap0 ?_
          have H_98 := Option.some.inj (show some (180 : Int) = some r from H_96); subst H_98
          refine VL_ret ?_
          exact P_to [(4, .c (.val (.int .i64 (180 : Int))))] [] [] hn (by kernel_rfl) (by kernel_rfl) rfl rfl rfl (QF_retS (by kernel_rfl) (by kernel_rfl) rfl)
        · intro b_31; have H_97 := of_f H_95 b_31
          refine V_run hN hn 4 0 [0, 1, 41, 42, 43] [] ⟨[(0, .c (.val (.int .i64 base_1))), (1, .c (.imm (.slice (.pair (.int .i64) (.pair (.int .i64) .str))) l_2)), (41, .c (.imm (.slice (.pair (.int .i64) (.pair (.int .i64) .str))) l_2)), (42, .c (.val (.int .i64 (((List.length l_2) : Nat) : Int)))), (43, .c (.val (.int .i64 (0 : Int))))], [], 0⟩ [] (by kernel_rfl) rfl rfl ap0 ?_
          obtain ⟨q_99, H_100, H_101⟩ := of_bind H_97
          refine V_cut (Y := Unit) (R := (Int ⊕ Unit)) q_99 (fun y => (Sum.inr y)) (fun y => [(0, .c (.val (.int .i64 base_1))), (1, .c (.imm (.slice (.pair (.int .i64) (.pair (.int .i64) .str))) l_2))]) (fun y => []) ?_ ?_
          · skip
            refine VL_block ?_
            refine V_to [(0, .c (.val (.int .i64 base_1))), (1, .c (.imm (.slice (.pair (.int .i64) (.pair (.int .i64) .str))) l_2)), (41, .c (.imm (.slice (.pair (.int .i64) (.pair (.int .i64) .str))) l_2)), (42, .c (.val (.int .i64 (((List.length l_2) : Nat) : Int)))), (43, .c (.val (.int .i64 (0 : Int))))] [] [] hn (by kernel_rfl) (by kernel_rfl) rfl rfl rfl ?_
            refine VL_loop (X := Int) (fun x => [(0, .c (.val (.int .i64 base_1))), (1, .c (.imm (.slice (.pair (.int .i64) (.pair (.int .i64) .str))) l_2)), (41, .c (.imm (.slice (.pair (.int .i64) (.pair (.int .i64) .str))) l_2)), (42, .c (.val (.int .i64 (((List.length l_2) : Nat) : Int)))), (43, .c (.val (.int .i64 x)))]) (fun x => []) (fun k x => delta_check_gr.l1 K l_2 k x = some q_99) K (0 : Int) H_100 (fun _ h => no_none h) ?_
            intro k_35 t_34 H_103
            have H_104 : delta_check_gr.l1 K l_2 (k_35 + 1) t_34 = some q_99 := H_103
            rw [delta_check_gr.l1] at H_104
            refine V_run hN hn 3 0 [0, 1, 41, 42, 43, 44] [] ⟨[(0, .c (.val (.int .i64 base_1))), (1, .c (.imm (.slice (.pair (.int .i64) (.pair (.int .i64) .str))) l_2)), (41, .c (.imm (.slice (.pair (.int .i64) (.pair (.int .i64) .str))) l_2)), (42, .c (.val (.int .i64 (((List.length l_2) : Nat) : Int)))), (43, .c (.val (.int .i64 t_34))), (44, .c (.val (.bool (decide (t_34 < (((List.length l_2) : Nat) : Int))))))], [], 0⟩ [] (by kernel_rfl) rfl rfl ap0 ?_
            refine VL_cond ((decide (t_34 < (((List.length l_2) : Nat) : Int)))) (by kernel_rfl) ?_ ?_
            · intro b_37; have H_105 := of_t H_104 b_37
              refine V_run hN hn 2 0 [0, 1, 41, 42, 43, 44] [] ⟨[(0, .c (.val (.int .i64 base_1))), (1, .c (.imm (.slice (.pair (.int .i64) (.pair (.int .i64) .str))) l_2)), (41, .c (.imm (.slice (.pair (.int .i64) (.pair (.int .i64) .str))) l_2)), (42, .c (.val (.int .i64 (((List.length l_2) : Nat) : Int)))), (43, .c (.val (.int .i64 t_34))), (44, .c (.val (.bool (decide (t_34 < (((List.length l_2) : Nat) : Int))))))], [], 0⟩ [] (by kernel_rfl) rfl rfl ap0 ?_
              refine VL_block ?_
              obtain ⟨c_39, H_107⟩ := of_if H_105
              refine V_run hN hn 3 0 [0, 1, 8, 41, 42, 43] [0] ⟨[(0, .c (.val (.int .i64 base_1))), (1, .c (.imm (.slice (.pair (.int .i64) (.pair (.int .i64) .str))) l_2)), (8, .c (.h 0)), (41, .c (.imm (.slice (.pair (.int .i64) (.pair (.int .i64) .str))) l_2)), (42, .c (.val (.int .i64 (((List.length l_2) : Nat) : Int)))), (43, .c (.val (.int .i64 t_34)))], [(0, .box [.val (.int .i64 (List.getD l_2 (Int.toNat t_34) ((0 : Int), ((0 : Int), ByteArray.empty))).1), .val (.int .i64 (List.getD l_2 (Int.toNat t_34) ((0 : Int), ((0 : Int), ByteArray.empty))).2.1), .val (.string (List.getD l_2 (Int.toNat t_34) ((0 : Int), ((0 : Int), ByteArray.empty))).2.2)])], 1⟩ [0 ≤ t_34, t_34 < (((List.length l_2) : Nat) : Int)] (by kernel_rfl) rfl rfl (ap2 c_39.1 (ap1 c_39.2)) ?_
              obtain ⟨r_40, h_41, H_108⟩ := of_bind H_107
              refine V_reg hN hn [(2, ⟨61, 0, [.c (.val (.string (List.getD l_2 (Int.toNat t_34) ((0 : Int), ((0 : Int), ByteArray.empty))).2.2))], [], .c (.val (.bool r_40)), [], [], 1⟩)] [] (calls_cons (utf_Valid_spec K (List.getD l_2 (Int.toNat t_34) ((0 : Int), ((0 : Int), ByteArray.empty))).2.2 r_40 h_41) (by kernel_rfl) calls_nil) 1 [0, 1, 41, 42, 43, 50] [] ⟨[(0, .c (.val (.int .i64 base_1))), (1, .c (.imm (.slice (.pair (.int .i64) (.pair (.int .i64) .str))) l_2)), (41, .c (.imm (.slice (.pair (.int .i64) (.pair (.int .i64) .str))) l_2)), (42, .c (.val (.int .i64 (((List.length l_2) : Nat) : Int)))), (43, .c (.val (.int .i64 t_34))), (50, .c (.val (.bool (!r_40))))], [], 1⟩ [] (by kernel_rfl) rfl rfl ap0 (by kernel_rfl) (by kernel_rfl) ?_
              refine VL_cond ((!r_40)) (by kernel_rfl) ?_ ?_
              · intro b_43; have H_109 := of_t H_108 b_43
                refine V_run hN hn 2 1 [4] [] ⟨[(4, .c (.val (.int .i64 (12 : Int))))], [], 1⟩ [] (by kernel_rfl) rfl rfl ap0 ?_
                have H_111 := Option.some.inj (show some (Sum.inl (12 : Int)) = some q_99 from H_109); subst H_111
                have H_112 := Option.some.inj (show some (12 : Int) = some r from H_101); subst H_112
                refine VL_ret ?_
                refine QB_ret ?_
                refine QL_ret ?_
                refine QB_ret ?_
                refine QP_ret ?_
                exact P_to [(4, .c (.val (.int .i64 (12 : Int))))] [] [] hn (by kernel_rfl) (by kernel_rfl) rfl rfl rfl (QF_retS (by kernel_rfl) (by kernel_rfl) rfl)
              · intro b_43; have H_110 := of_f H_108 b_43
                refine V_run hN hn 1 1 [0, 1, 41, 42, 43, 50] [] ⟨[(0, .c (.val (.int .i64 base_1))), (1, .c (.imm (.slice (.pair (.int .i64) (.pair (.int .i64) .str))) l_2)), (41, .c (.imm (.slice (.pair (.int .i64) (.pair (.int .i64) .str))) l_2)), (42, .c (.val (.int .i64 (((List.length l_2) : Nat) : Int)))), (43, .c (.val (.int .i64 t_34))), (50, .c (.val (.bool (!r_40))))], [], 1⟩ [] (by kernel_rfl) rfl rfl ap0 ?_
                refine VL_nil (QB_end ?_)
                refine V_run hN hn 1 1 [0, 1, 41, 42, 43] [] ⟨[(0, .c (.val (.int .i64 base_1))), (1, .c (.imm (.slice (.pair (.int .i64) (.pair (.int .i64) .str))) l_2)), (41, .c (.imm (.slice (.pair (.int .i64) (.pair (.int .i64) .str))) l_2)), (42, .c (.val (.int .i64 (((List.length l_2) : Nat) : Int)))), (43, .c (.val (.int .i64 (IntKind.wrap .i64 (t_34 + (1 : Int))))))], [], 1⟩ [] (by kernel_rfl) rfl rfl ap0 ?_
                refine VL_nil ?_
                exact V_roundEnd (IntKind.wrap .i64 (t_34 + (1 : Int))) H_110 [] hn (by kernel_rfl) (by kernel_rfl) rfl rfl rfl
            · intro b_37; have H_106 := of_f H_104 b_37
              refine VL_exit ?_
              refine QL_exit ?_
              refine QB_here ?_
              have H_113 := Option.some.inj (show some (Sum.inr ()) = some q_99 from H_106); subst H_113
              refine VL_nil ?_
              exact QP_end () rfl [] hn (by kernel_rfl) (by kernel_rfl) rfl rfl rfl
          · intro y_102 hy; subst hy
            skip
            refine V_run hN hn 1 0 [0, 1] [] ⟨[(0, .c (.val (.int .i64 base_1))), (1, .c (.imm (.slice (.pair (.int .i64) (.pair (.int .i64) .str))) l_2))], [], 0⟩ [] (by kernel_rfl) rfl rfl ap0 ?_
            obtain ⟨r_48, h_49, H_114⟩ := of_bind H_101
            refine V_reg hN hn [(2, ⟨62, 0, [.c (.val (.int .i64 base_1)), .c (.imm (.slice (.pair (.int .i64) (.pair (.int .i64) .str))) l_2)], [], .c (.val (.int .i64 r_48)), [], [], 0⟩)] [] (calls_cons (delta_long_spec K base_1 l_2 r_48 h_49) (by kernel_rfl) calls_nil) 0 [4] [] ⟨[(4, .c (.val (.int .i64 r_48)))], [], 0⟩ [] (by kernel_rfl) rfl rfl ap0 (by kernel_rfl) (by kernel_rfl) ?_
            have H_115 := Option.some.inj (show some r_48 = some r from H_114); subst H_115
            refine VL_ret ?_
            exact P_to [(4, .c (.val (.int .i64 r_48)))] [] [] hn (by kernel_rfl) (by kernel_rfl) rfl rfl rfl (QF_retS (by kernel_rfl) (by kernel_rfl) rfl)

theorem delta_Build_spec (K : Nat) (base_1 : Int) (l_2 : (List (Int × (Int × ByteArray)))) (r : (Int × (List (Int × (Int × ByteArray))) × Int)) (H : delta_Build_gr K base_1 l_2 = some r) : Spec Try.prog 19 0 [.c (.val (.int .i64 base_1)), .c (.imm (.slice (.pair (.int .i64) (.pair (.int .i64) .str))) l_2)] [] (.tup [(true, [.val (.int .i64 r.1), .imm (.slice (.pair (.int .i64) (.pair (.int .i64) .str))) r.2.1]), (false, [.val (.int .i64 r.2.2)])]) [] := by
  refine Spec_mk (fn := Try.f19) (c := (Try.f19.body).get!) Try.func19 (by kernel_rfl) rfl ?_
  intro C hN hn
  replace hN : C.N = 46 := hN
  unfold delta_Build_gr at H
  refine V_run hN hn 4 0 [0, 1, 4] [0] ⟨[(0, .c (.val (.int .i64 base_1))), (1, .c (.imm (.slice (.pair (.int .i64) (.pair (.int .i64) .str))) l_2)), (4, .c (.h 0))], [(0, .box [.val (.int .i64 (0 : Int)), .val (.slice none 0 0)])], 1⟩ [] (by kernel_rfl) rfl rfl ap0 ?_
  obtain ⟨r_4, h_5, H_60⟩ := of_bind H
  refine V_reg hN hn [(2, ⟨47, 0, [.c (.val (.int .i64 base_1)), .c (.imm (.slice (.pair (.int .i64) (.pair (.int .i64) .str))) l_2)], [], .c (.val (.int .i64 r_4)), [], [], 1⟩)] [] (calls_cons (delta_check_spec K base_1 l_2 r_4 h_5) (by kernel_rfl) calls_nil) 1 [0, 1, 4, 6] [0] ⟨[(0, .c (.val (.int .i64 base_1))), (1, .c (.imm (.slice (.pair (.int .i64) (.pair (.int .i64) .str))) l_2)), (4, .c (.h 0)), (6, .c (.val (.int .i64 r_4)))], [(0, .box [.val (.int .i64 (0 : Int)), .val (.slice none 0 0)])], 1⟩ [] (by kernel_rfl) rfl rfl ap0 (by kernel_rfl) (by kernel_rfl) ?_
  refine V_run hN hn 2 1 [0, 1, 4, 6, 15] [0] ⟨[(0, .c (.val (.int .i64 base_1))), (1, .c (.imm (.slice (.pair (.int .i64) (.pair (.int .i64) .str))) l_2)), (4, .c (.h 0)), (6, .c (.val (.int .i64 r_4))), (15, .c (.val (.bool (r_4 != (0 : Int)))))], [(0, .box [.val (.int .i64 (0 : Int)), .val (.slice none 0 0)])], 1⟩ [] (by kernel_rfl) rfl rfl ap0 ?_
  refine VL_cond ((r_4 != (0 : Int))) (by kernel_rfl) ?_ ?_
  · intro b_8; have H_61 := of_t H_60 b_8
    refine V_run hN hn 2 1 [4, 5] [0] ⟨[(4, .c (.h 0)), (5, .c (.val (.int .i64 r_4)))], [(0, .box [.val (.int .i64 (0 : Int)), .val (.slice none 0 0)])], 1⟩ [] (by kernel_rfl) rfl rfl ap0 ?_
    have H_63 := Option.some.inj (show some ((0 : Int), ([] : List (Int × (Int × ByteArray))), r_4) = some r from H_61); subst H_63
    refine VL_ret ?_
    refine P_ghost [.readCell 0 1 (.slice (.pair (.int .i64) (.pair (.int .i64) .str)))] 1 hn [4, 5] [0] ⟨[(4, .c (.h 0)), (5, .c (.val (.int .i64 r_4)))], [(0, .box [.val (.int .i64 (0 : Int)), .imm (.slice (.pair (.int .i64) (.pair (.int .i64) .str))) ([] : List (Int × (Int × ByteArray)))])], 1⟩ (by kernel_rfl) rfl rfl ?_
    exact P_to [(4, .c (.h 0)), (5, .c (.val (.int .i64 r_4)))] [(0, .box [.val (.int .i64 (0 : Int)), .imm (.slice (.pair (.int .i64) (.pair (.int .i64) .str))) ([] : List (Int × (Int × ByteArray)))])] [(0, 0)] hn (by kernel_rfl) (by kernel_rfl) rfl rfl rfl (QF_retS (by kernel_rfl) (by kernel_rfl) rfl)
  · intro b_8; have H_62 := of_f H_60 b_8
    refine V_run hN hn 2 1 [0, 1, 4, 6, 15] [0] ⟨[(0, .c (.val (.int .i64 base_1))), (1, .c (.imm (.slice (.pair (.int .i64) (.pair (.int .i64) .str))) l_2)), (4, .c (.h 0)), (6, .c (.val (.int .i64 r_4))), (15, .c (.val (.bool (r_4 != (0 : Int)))))], [(0, .box [.val (.int .i64 (0 : Int)), .val (.slice none 0 0)])], 1⟩ [] (by kernel_rfl) rfl rfl ap0 ?_
    obtain ⟨r_11, h_12, H_64⟩ := of_bind H_62
    refine V_reg hN hn [(1, ⟨39, 0, [.c (.val (.int .i64 base_1))], [], .c (.h 0), [(0, .box [.val (.int .i64 base_1), .val (.slice none 0 0)])], [(0, 1)], 2⟩)] [] (calls_cons (delta_NewMaker_spec K base_1 r_11 h_12) (by kernel_rfl) calls_nil) 1 [0, 1, 4, 7] [0, 1] ⟨[(0, .c (.val (.int .i64 base_1))), (1, .c (.imm (.slice (.pair (.int .i64) (.pair (.int .i64) .str))) l_2)), (4, .c (.h 0)), (7, .c (.h 1))], [(0, .box [.val (.int .i64 (0 : Int)), .val (.slice none 0 0)]), (1, .box [.val (.int .i64 base_1), .val (.slice none 0 0)])], 2⟩ [] (by kernel_rfl) rfl rfl ap0 (by kernel_rfl) (by kernel_rfl) ?_
    refine V_run hN hn 5 2 [0, 4, 7, 8, 20, 21, 22] [0, 1] ⟨[(0, .c (.val (.int .i64 base_1))), (4, .c (.h 0)), (7, .c (.h 1)), (8, .c (.val (.int .i64 (0 : Int)))), (20, .c (.imm (.slice (.pair (.int .i64) (.pair (.int .i64) .str))) l_2)), (21, .c (.val (.int .i64 (((List.length l_2) : Nat) : Int)))), (22, .c (.val (.int .i64 (0 : Int))))], [(0, .box [.val (.int .i64 (0 : Int)), .val (.slice none 0 0)]), (1, .box [.val (.int .i64 base_1), .val (.slice none 0 0)])], 2⟩ [] (by kernel_rfl) rfl rfl ap0 ?_
    obtain ⟨q_65, H_66, H_67⟩ := of_bind H_64
    refine V_cut (Y := ((List (Int × (Int × ByteArray))) × Int)) (R := ((List (Int × (Int × ByteArray))) × Int)) q_65 (fun y => y) (fun y => [(0, .c (.val (.int .i64 base_1))), (4, .c (.h 0)), (7, .c (.h 1)), (8, .c (.val (.int .i64 y.2)))]) (fun y => [(0, .box [.val (.int .i64 (0 : Int)), .val (.slice none 0 0)]), (1, .box [.val (.int .i64 base_1), .h 5]), (5, .row (.pair (.int .i64) (.pair (.int .i64) .str)) y.1)]) ?_ ?_
    · skip
      refine VL_block ?_
      refine V_ghost [.nilCell 1 1 (.pair (.int .i64) (.pair (.int .i64) .str))] 2 hn [0, 4, 7, 8, 20, 21, 22] [0, 1, 2] ⟨[(0, .c (.val (.int .i64 base_1))), (4, .c (.h 0)), (7, .c (.h 1)), (8, .c (.val (.int .i64 (0 : Int)))), (20, .c (.imm (.slice (.pair (.int .i64) (.pair (.int .i64) .str))) l_2)), (21, .c (.val (.int .i64 (((List.length l_2) : Nat) : Int)))), (22, .c (.val (.int .i64 (0 : Int))))], [(0, .box [.val (.int .i64 (0 : Int)), .val (.slice none 0 0)]), (1, .box [.val (.int .i64 base_1), .h 2]), (2, .row (.pair (.int .i64) (.pair (.int .i64) .str)) ([] : List (Int × (Int × ByteArray))))], 3⟩ (by kernel_rfl) rfl rfl ?_
      refine V_to [(0, .c (.val (.int .i64 base_1))), (4, .c (.h 0)), (7, .c (.h 1)), (8, .c (.val (.int .i64 (0 : Int)))), (20, .c (.imm (.slice (.pair (.int .i64) (.pair (.int .i64) .str))) l_2)), (21, .c (.val (.int .i64 (((List.length l_2) : Nat) : Int)))), (22, .c (.val (.int .i64 (0 : Int))))] [(0, .box [.val (.int .i64 (0 : Int)), .val (.slice none 0 0)]), (1, .box [.val (.int .i64 base_1), .h 5]), (5, .row (.pair (.int .i64) (.pair (.int .i64) .str)) ([] : List (Int × (Int × ByteArray))))] [(0, 0), (1, 1), (5, 2)] hn (by kernel_rfl) (by kernel_rfl) rfl rfl rfl ?_
      refine VL_loop (X := ((List (Int × (Int × ByteArray))) × Int × Int)) (fun x => [(0, .c (.val (.int .i64 base_1))), (4, .c (.h 0)), (7, .c (.h 1)), (8, .c (.val (.int .i64 x.2.1))), (20, .c (.imm (.slice (.pair (.int .i64) (.pair (.int .i64) .str))) l_2)), (21, .c (.val (.int .i64 (((List.length l_2) : Nat) : Int)))), (22, .c (.val (.int .i64 x.2.2)))]) (fun x => [(0, .box [.val (.int .i64 (0 : Int)), .val (.slice none 0 0)]), (1, .box [.val (.int .i64 base_1), .h 5]), (5, .row (.pair (.int .i64) (.pair (.int .i64) .str)) x.1)]) (fun k x => delta_Build_gr.l0 K l_2 base_1 k x.1 x.2.1 x.2.2 = some q_65) K (([] : List (Int × (Int × ByteArray))), (0 : Int), (0 : Int)) H_66 (fun _ h => no_none h) ?_
      intro k_32 x_32 H_69
      obtain ⟨x_31, at_15, t_16⟩ := x_32
      have H_70 : delta_Build_gr.l0 K l_2 base_1 (k_32 + 1) x_31 at_15 t_16 = some q_65 := H_69
      rw [delta_Build_gr.l0] at H_70
      refine V_run hN hn 3 6 [0, 4, 7, 8, 20, 21, 22, 23] [0, 1, 5] ⟨[(0, .c (.val (.int .i64 base_1))), (4, .c (.h 0)), (7, .c (.h 1)), (8, .c (.val (.int .i64 at_15))), (20, .c (.imm (.slice (.pair (.int .i64) (.pair (.int .i64) .str))) l_2)), (21, .c (.val (.int .i64 (((List.length l_2) : Nat) : Int)))), (22, .c (.val (.int .i64 t_16))), (23, .c (.val (.bool (decide (t_16 < (((List.length l_2) : Nat) : Int))))))], [(0, .box [.val (.int .i64 (0 : Int)), .val (.slice none 0 0)]), (1, .box [.val (.int .i64 base_1), .h 5]), (5, .row (.pair (.int .i64) (.pair (.int .i64) .str)) x_31)], 6⟩ [] (by kernel_rfl) rfl rfl ap0 ?_
      refine VL_cond ((decide (t_16 < (((List.length l_2) : Nat) : Int)))) (by kernel_rfl) ?_ ?_
      · intro b_34; have H_71 := of_t H_70 b_34
        refine V_run hN hn 2 6 [0, 4, 7, 8, 20, 21, 22, 23] [0, 1, 5] ⟨[(0, .c (.val (.int .i64 base_1))), (4, .c (.h 0)), (7, .c (.h 1)), (8, .c (.val (.int .i64 at_15))), (20, .c (.imm (.slice (.pair (.int .i64) (.pair (.int .i64) .str))) l_2)), (21, .c (.val (.int .i64 (((List.length l_2) : Nat) : Int)))), (22, .c (.val (.int .i64 t_16))), (23, .c (.val (.bool (decide (t_16 < (((List.length l_2) : Nat) : Int))))))], [(0, .box [.val (.int .i64 (0 : Int)), .val (.slice none 0 0)]), (1, .box [.val (.int .i64 base_1), .h 5]), (5, .row (.pair (.int .i64) (.pair (.int .i64) .str)) x_31)], 6⟩ [] (by kernel_rfl) rfl rfl ap0 ?_
        refine VL_block ?_
        obtain ⟨c_36, H_73⟩ := of_if H_71
        refine V_run hN hn 3 6 [0, 4, 7, 8, 10, 20, 21, 22] [0, 1, 5, 6] ⟨[(0, .c (.val (.int .i64 base_1))), (4, .c (.h 0)), (7, .c (.h 1)), (8, .c (.val (.int .i64 at_15))), (10, .c (.h 6)), (20, .c (.imm (.slice (.pair (.int .i64) (.pair (.int .i64) .str))) l_2)), (21, .c (.val (.int .i64 (((List.length l_2) : Nat) : Int)))), (22, .c (.val (.int .i64 t_16)))], [(0, .box [.val (.int .i64 (0 : Int)), .val (.slice none 0 0)]), (1, .box [.val (.int .i64 base_1), .h 5]), (5, .row (.pair (.int .i64) (.pair (.int .i64) .str)) x_31), (6, .box [.val (.int .i64 (List.getD l_2 (Int.toNat t_16) ((0 : Int), ((0 : Int), ByteArray.empty))).1), .val (.int .i64 (List.getD l_2 (Int.toNat t_16) ((0 : Int), ((0 : Int), ByteArray.empty))).2.1), .val (.string (List.getD l_2 (Int.toNat t_16) ((0 : Int), ((0 : Int), ByteArray.empty))).2.2)])], 7⟩ [0 ≤ t_16, t_16 < (((List.length l_2) : Nat) : Int)] (by kernel_rfl) rfl rfl (ap2 c_36.1 (ap1 c_36.2)) ?_
        obtain ⟨r_37, h_38, H_74⟩ := of_bind H_73
        refine V_reg hN hn [(4, ⟨41, 2, [.c (.h 0), .c (.val (.int .i64 at_15)), .c (.val (.int .i64 (List.getD l_2 (Int.toNat t_16) ((0 : Int), ((0 : Int), ByteArray.empty))).1))], [(0, .box [.val (.int .i64 base_1), .h 1]), (1, .row (.pair (.int .i64) (.pair (.int .i64) .str)) x_31)], .tup [], [(0, .box [.val (.int .i64 base_1), .h 4]), (4, .row (.pair (.int .i64) (.pair (.int .i64) .str)) r_37)], [(0, 1), (1, 5), (4, 7)], 8⟩)] [] (calls_cons (delta_Maker_Copy_bgg_11dec_spec K base_1 x_31 at_15 (List.getD l_2 (Int.toNat t_16) ((0 : Int), ((0 : Int), ByteArray.empty))).1 r_37 h_38) (by kernel_rfl) calls_nil) 7 [0, 4, 7, 10, 20, 21, 22] [0, 1, 6, 7] ⟨[(0, .c (.val (.int .i64 base_1))), (4, .c (.h 0)), (7, .c (.h 1)), (10, .c (.h 6)), (20, .c (.imm (.slice (.pair (.int .i64) (.pair (.int .i64) .str))) l_2)), (21, .c (.val (.int .i64 (((List.length l_2) : Nat) : Int)))), (22, .c (.val (.int .i64 t_16)))], [(0, .box [.val (.int .i64 (0 : Int)), .val (.slice none 0 0)]), (1, .box [.val (.int .i64 base_1), .h 7]), (6, .box [.val (.int .i64 (List.getD l_2 (Int.toNat t_16) ((0 : Int), ((0 : Int), ByteArray.empty))).1), .val (.int .i64 (List.getD l_2 (Int.toNat t_16) ((0 : Int), ((0 : Int), ByteArray.empty))).2.1), .val (.string (List.getD l_2 (Int.toNat t_16) ((0 : Int), ((0 : Int), ByteArray.empty))).2.2)]), (7, .row (.pair (.int .i64) (.pair (.int .i64) .str)) r_37)], 8⟩ [] (by kernel_rfl) rfl rfl ap0 (by kernel_rfl) (by kernel_rfl) ?_
        refine V_run hN hn 1 8 [0, 4, 7, 10, 20, 21, 22] [0, 1, 6, 7] ⟨[(0, .c (.val (.int .i64 base_1))), (4, .c (.h 0)), (7, .c (.h 1)), (10, .c (.h 6)), (20, .c (.imm (.slice (.pair (.int .i64) (.pair (.int .i64) .str))) l_2)), (21, .c (.val (.int .i64 (((List.length l_2) : Nat) : Int)))), (22, .c (.val (.int .i64 t_16)))], [(0, .box [.val (.int .i64 (0 : Int)), .val (.slice none 0 0)]), (1, .box [.val (.int .i64 base_1), .h 7]), (6, .box [.val (.int .i64 (List.getD l_2 (Int.toNat t_16) ((0 : Int), ((0 : Int), ByteArray.empty))).1), .val (.int .i64 (List.getD l_2 (Int.toNat t_16) ((0 : Int), ((0 : Int), ByteArray.empty))).2.1), .val (.string (List.getD l_2 (Int.toNat t_16) ((0 : Int), ((0 : Int), ByteArray.empty))).2.2)]), (7, .row (.pair (.int .i64) (.pair (.int .i64) .str)) r_37)], 8⟩ [] (by kernel_rfl) rfl rfl ap0 ?_
        obtain ⟨r_41, h_42, H_75⟩ := of_bind H_74
        refine V_reg hN hn [(3, ⟨42, 2, [.c (.h 0), .c (.val (.string (List.getD l_2 (Int.toNat t_16) ((0 : Int), ((0 : Int), ByteArray.empty))).2.2))], [(0, .box [.val (.int .i64 base_1), .h 1]), (1, .row (.pair (.int .i64) (.pair (.int .i64) .str)) r_37)], .tup [], [(0, .box [.val (.int .i64 base_1), .h 4]), (4, .row (.pair (.int .i64) (.pair (.int .i64) .str)) r_41)], [(0, 1), (1, 7), (4, 8)], 9⟩)] [] (calls_cons (delta_Maker_Put_bg_92925_spec K base_1 r_37 (List.getD l_2 (Int.toNat t_16) ((0 : Int), ((0 : Int), ByteArray.empty))).2.2 r_41 h_42) (by kernel_rfl) calls_nil) 8 [0, 4, 7, 10, 20, 21, 22] [0, 1, 6, 8] ⟨[(0, .c (.val (.int .i64 base_1))), (4, .c (.h 0)), (7, .c (.h 1)), (10, .c (.h 6)), (20, .c (.imm (.slice (.pair (.int .i64) (.pair (.int .i64) .str))) l_2)), (21, .c (.val (.int .i64 (((List.length l_2) : Nat) : Int)))), (22, .c (.val (.int .i64 t_16)))], [(0, .box [.val (.int .i64 (0 : Int)), .val (.slice none 0 0)]), (1, .box [.val (.int .i64 base_1), .h 8]), (6, .box [.val (.int .i64 (List.getD l_2 (Int.toNat t_16) ((0 : Int), ((0 : Int), ByteArray.empty))).1), .val (.int .i64 (List.getD l_2 (Int.toNat t_16) ((0 : Int), ((0 : Int), ByteArray.empty))).2.1), .val (.string (List.getD l_2 (Int.toNat t_16) ((0 : Int), ((0 : Int), ByteArray.empty))).2.2)]), (8, .row (.pair (.int .i64) (.pair (.int .i64) .str)) r_41)], 9⟩ [] (by kernel_rfl) rfl rfl ap0 (by kernel_rfl) (by kernel_rfl) ?_
        refine V_run hN hn 1 9 [0, 4, 7, 8, 20, 21, 22] [0, 1, 8] ⟨[(0, .c (.val (.int .i64 base_1))), (4, .c (.h 0)), (7, .c (.h 1)), (8, .c (.val (.int .i64 (List.getD l_2 (Int.toNat t_16) ((0 : Int), ((0 : Int), ByteArray.empty))).2.1))), (20, .c (.imm (.slice (.pair (.int .i64) (.pair (.int .i64) .str))) l_2)), (21, .c (.val (.int .i64 (((List.length l_2) : Nat) : Int)))), (22, .c (.val (.int .i64 t_16)))], [(0, .box [.val (.int .i64 (0 : Int)), .val (.slice none 0 0)]), (1, .box [.val (.int .i64 base_1), .h 8]), (8, .row (.pair (.int .i64) (.pair (.int .i64) .str)) r_41)], 9⟩ [] (by kernel_rfl) rfl rfl ap0 ?_
        refine VL_nil (QB_end ?_)
        refine V_run hN hn 1 9 [0, 4, 7, 8, 20, 21, 22] [0, 1, 8] ⟨[(0, .c (.val (.int .i64 base_1))), (4, .c (.h 0)), (7, .c (.h 1)), (8, .c (.val (.int .i64 (List.getD l_2 (Int.toNat t_16) ((0 : Int), ((0 : Int), ByteArray.empty))).2.1))), (20, .c (.imm (.slice (.pair (.int .i64) (.pair (.int .i64) .str))) l_2)), (21, .c (.val (.int .i64 (((List.length l_2) : Nat) : Int)))), (22, .c (.val (.int .i64 (IntKind.wrap .i64 (t_16 + (1 : Int))))))], [(0, .box [.val (.int .i64 (0 : Int)), .val (.slice none 0 0)]), (1, .box [.val (.int .i64 base_1), .h 8]), (8, .row (.pair (.int .i64) (.pair (.int .i64) .str)) r_41)], 9⟩ [] (by kernel_rfl) rfl rfl ap0 ?_
        refine VL_nil ?_
        exact V_roundEnd (r_41, (List.getD l_2 (Int.toNat t_16) ((0 : Int), ((0 : Int), ByteArray.empty))).2.1, (IntKind.wrap .i64 (t_16 + (1 : Int)))) H_75 [(0, 0), (1, 1), (5, 8)] hn (by kernel_rfl) (by kernel_rfl) rfl rfl rfl
      · intro b_34; have H_72 := of_f H_70 b_34
        refine VL_exit ?_
        refine QL_exit ?_
        refine QB_here ?_
        have H_76 := Option.some.inj (show some (x_31, at_15) = some q_65 from H_72); subst H_76
        refine VL_nil ?_
        exact QP_end (x_31, at_15) rfl [(0, 0), (1, 1), (5, 5)] hn (by kernel_rfl) (by kernel_rfl) rfl rfl rfl
    · intro y_68 hy; subst hy
      obtain ⟨x_46, at_47⟩ := y_68
      refine V_run hN hn 1 6 [0, 4, 7, 8] [0, 1, 5] ⟨[(0, .c (.val (.int .i64 base_1))), (4, .c (.h 0)), (7, .c (.h 1)), (8, .c (.val (.int .i64 at_47)))], [(0, .box [.val (.int .i64 (0 : Int)), .val (.slice none 0 0)]), (1, .box [.val (.int .i64 base_1), .h 5]), (5, .row (.pair (.int .i64) (.pair (.int .i64) .str)) x_46)], 6⟩ [] (by kernel_rfl) rfl rfl ap0 ?_
      obtain ⟨r_49, h_50, H_77⟩ := of_bind H_67
      refine V_reg hN hn [(3, ⟨41, 2, [.c (.h 0), .c (.val (.int .i64 at_47)), .c (.val (.int .i64 base_1))], [(0, .box [.val (.int .i64 base_1), .h 1]), (1, .row (.pair (.int .i64) (.pair (.int .i64) .str)) x_46)], .tup [], [(0, .box [.val (.int .i64 base_1), .h 4]), (4, .row (.pair (.int .i64) (.pair (.int .i64) .str)) r_49)], [(0, 1), (1, 5), (4, 6)], 7⟩)] [] (calls_cons (delta_Maker_Copy_bgg_11dec_spec K base_1 x_46 at_47 base_1 r_49 h_50) (by kernel_rfl) calls_nil) 6 [4, 7] [0, 1, 6] ⟨[(4, .c (.h 0)), (7, .c (.h 1))], [(0, .box [.val (.int .i64 (0 : Int)), .val (.slice none 0 0)]), (1, .box [.val (.int .i64 base_1), .h 6]), (6, .row (.pair (.int .i64) (.pair (.int .i64) .str)) r_49)], 7⟩ [] (by kernel_rfl) rfl rfl ap0 (by kernel_rfl) (by kernel_rfl) ?_
      refine V_run hN hn 1 7 [4, 7] [0, 1, 6] ⟨[(4, .c (.h 0)), (7, .c (.h 1))], [(0, .box [.val (.int .i64 (0 : Int)), .val (.slice none 0 0)]), (1, .box [.val (.int .i64 base_1), .h 6]), (6, .row (.pair (.int .i64) (.pair (.int .i64) .str)) r_49)], 7⟩ [] (by kernel_rfl) rfl rfl ap0 ?_
      refine V_ghost [.shut 6] 7 hn [4, 7] [0, 1] ⟨[(4, .c (.h 0)), (7, .c (.h 1))], [(0, .box [.val (.int .i64 (0 : Int)), .val (.slice none 0 0)]), (1, .box [.val (.int .i64 base_1), .imm (.slice (.pair (.int .i64) (.pair (.int .i64) .str))) r_49])], 7⟩ (by kernel_rfl) rfl rfl ?_
      obtain ⟨r_53, h_54, H_78⟩ := of_bind H_77
      refine V_reg hN hn [(1, ⟨43, 1, [.c (.h 0)], [(0, .box [.val (.int .i64 base_1), .imm (.slice (.pair (.int .i64) (.pair (.int .i64) .str))) r_49])], .tup [(true, [.val (.int .i64 r_53.1), .imm (.slice (.pair (.int .i64) (.pair (.int .i64) .str))) r_53.2.1]), (false, [.val (.int .i64 r_53.2.2)])], [(0, .box [.val (.int .i64 base_1), .imm (.slice (.pair (.int .i64) (.pair (.int .i64) .str))) r_49])], [(0, 1)], 7⟩)] [] (calls_cons (delta_Maker_Delta_b_ee1c6_spec K base_1 r_49 r_53 h_54) (by kernel_rfl) calls_nil) 7 [4, 5] [0] ⟨[(4, .c (.h 0)), (5, .c (.val (.int .i64 r_53.2.2)))], [(0, .box [.val (.int .i64 r_53.1), .imm (.slice (.pair (.int .i64) (.pair (.int .i64) .str))) r_53.2.1])], 7⟩ [] (by kernel_rfl) rfl rfl ap0 (by kernel_rfl) (by kernel_rfl) ?_
      have H_79 := Option.some.inj (show some (r_53.1, r_53.2.1, r_53.2.2) = some r from H_78); subst H_79
      refine VL_ret ?_
      exact P_to [(4, .c (.h 0)), (5, .c (.val (.int .i64 r_53.2.2)))] [(0, .box [.val (.int .i64 r_53.1), .imm (.slice (.pair (.int .i64) (.pair (.int .i64) .str))) r_53.2.1])] [(0, 0)] hn (by kernel_rfl) (by kernel_rfl) rfl rfl rfl (QF_retS (by kernel_rfl) (by kernel_rfl) rfl)

theorem delta_Size_spec (K : Nat) (d_1 : Int) (d_2 : (List (Int × (Int × ByteArray)))) (r : Int) (H : delta_Size K d_1 d_2 = some r) : Spec Try.prog 23 0 [.agg [.val (.int .i64 d_1), .imm (.slice (.pair (.int .i64) (.pair (.int .i64) .str))) d_2]] [] (.c (.val (.int .i64 r))) [] := by
  refine Spec_mk (fn := Try.f23) (c := (Try.f23.body).get!) Try.func23 (by kernel_rfl) rfl ?_
  intro C hN hn
  replace hN : C.N = 13 := hN
  unfold delta_Size at H
  refine V_run hN hn 3 0 [1] [0] ⟨[(1, .c (.h 0))], [(0, .box [.val (.int .i64 d_1), .imm (.slice (.pair (.int .i64) (.pair (.int .i64) .str))) d_2])], 1⟩ [] (by kernel_rfl) rfl rfl ap0 ?_
  obtain ⟨r_4, h_5, H_9⟩ := of_bind H
  refine V_reg hN hn [(1, ⟨48, 0, [.agg [.val (.int .i64 d_1), .imm (.slice (.pair (.int .i64) (.pair (.int .i64) .str))) d_2]], [], .tup [(false, [.val (.int .i64 r_4.1)]), (false, [.val (.int .i64 r_4.2)])], [], [], 1⟩)] [] (calls_cons (delta_sums_spec K d_1 d_2 r_4 h_5) (by kernel_rfl) calls_nil) 1 [3, 4] [] ⟨[(3, .c (.val (.int .i64 r_4.1))), (4, .c (.val (.int .i64 r_4.2)))], [], 1⟩ [] (by kernel_rfl) rfl rfl ap0 (by kernel_rfl) (by kernel_rfl) ?_
  refine V_run hN hn 2 1 [2] [] ⟨[(2, .c (.val (.int .i64 (IntKind.wrap .i64 (r_4.1 + r_4.2)))))], [], 1⟩ [] (by kernel_rfl) rfl rfl ap0 ?_
  have H_10 := Option.some.inj (show some (IntKind.wrap .i64 (r_4.1 + r_4.2)) = some r from H_9); subst H_10
  refine VL_ret ?_
  exact P_to [(2, .c (.val (.int .i64 (IntKind.wrap .i64 (r_4.1 + r_4.2)))))] [] [] hn (by kernel_rfl) (by kernel_rfl) rfl rfl rfl (QF_retS (by kernel_rfl) (by kernel_rfl) rfl)

theorem palinodelaw12_FactorCounts_spec (K : Nat) (n_1 : Int) (l_2 : (List (Int × (Int × ByteArray)))) (r : Bool) (H : palinodelaw12_FactorCounts K n_1 l_2 = some r) : Spec Try.prog 4 0 [.c (.val (.int .u8 n_1)), .c (.imm (.slice (.pair (.int .i64) (.pair (.int .i64) .str))) l_2)] [] (.c (.val (.bool r))) [] := by
  refine Spec_mk (fn := Try.f4) (c := (Try.f4.body).get!) Try.func4 (by kernel_rfl) rfl ?_
  intro C hN hn
  replace hN : C.N = 83 := hN
  unfold palinodelaw12_FactorCounts at H
  refine V_run hN hn 4 0 [0, 1] [] ⟨[(0, .c (.val (.int .u8 n_1))), (1, .c (.imm (.slice (.pair (.int .i64) (.pair (.int .i64) .str))) l_2))], [], 0⟩ [] (by kernel_rfl) rfl rfl ap0 ?_
  obtain ⟨r_4, h_5, H_67⟩ := of_bind H
  refine V_reg hN hn [(0, ⟨8, 0, [], [], .c (.val (.bool r_4)), [], [], 0⟩)] [] (calls_cons (palinodelaw12_known_spec K  r_4 h_5) (by kernel_rfl) calls_nil) 0 [0, 1, 13] [] ⟨[(0, .c (.val (.int .u8 n_1))), (1, .c (.imm (.slice (.pair (.int .i64) (.pair (.int .i64) .str))) l_2)), (13, .c (.val (.bool (!r_4))))], [], 0⟩ [] (by kernel_rfl) rfl rfl ap0 (by kernel_rfl) (by kernel_rfl) ?_
  refine VL_cond ((!r_4)) (by kernel_rfl) ?_ ?_
  · intro b_7; have H_68 := of_t H_67 b_7
    refine V_run hN hn 2 0 [4] [] ⟨[(4, .c (.val (.bool false)))], [], 0⟩ [] (by kernel_rfl) rfl rfl ap0 ?_
    have H_70 := Option.some.inj (show some false = some r from H_68); subst H_70
    refine VL_ret ?_
    exact P_to [(4, .c (.val (.bool false)))] [] [] hn (by kernel_rfl) (by kernel_rfl) rfl rfl rfl (QF_retS (by kernel_rfl) (by kernel_rfl) rfl)
  · intro b_7; have H_69 := of_f H_67 b_7
    refine V_run hN hn 4 0 [0, 1, 16] [] ⟨[(0, .c (.val (.int .u8 n_1))), (1, .c (.imm (.slice (.pair (.int .i64) (.pair (.int .i64) .str))) l_2)), (16, .c (.val (.bool (decide ((((List.length l_2) : Nat) : Int) > (12 : Int))))))], [], 0⟩ [] (by kernel_rfl) rfl rfl ap0 ?_
    refine VL_cond ((decide ((((List.length l_2) : Nat) : Int) > (12 : Int)))) (by kernel_rfl) ?_ ?_
    · intro b_10; have H_71 := of_t H_69 b_10
      refine V_run hN hn 2 0 [4] [] ⟨[(4, .c (.val (.bool true)))], [], 0⟩ [] (by kernel_rfl) rfl rfl ap0 ?_
      have H_73 := Option.some.inj (show some true = some r from H_71); subst H_73
      refine VL_ret ?_
      exact P_to [(4, .c (.val (.bool true)))] [] [] hn (by kernel_rfl) (by kernel_rfl) rfl rfl rfl (QF_retS (by kernel_rfl) (by kernel_rfl) rfl)
    · intro b_10; have H_72 := of_f H_69 b_10
      refine V_run hN hn 4 0 [0, 1, 5] [] ⟨[(0, .c (.val (.int .u8 n_1))), (1, .c (.imm (.slice (.pair (.int .i64) (.pair (.int .i64) .str))) l_2)), (5, .c (.val (.int .i64 (0 : Int))))], [], 0⟩ [] (by kernel_rfl) rfl rfl ap0 ?_
      obtain ⟨q_74, H_75, H_76⟩ := of_bind H_72
      refine V_cut (Y := Unit) (R := (Bool ⊕ Unit)) q_74 (fun y => (Sum.inr y)) (fun y => [(0, .c (.val (.int .u8 n_1))), (1, .c (.imm (.slice (.pair (.int .i64) (.pair (.int .i64) .str))) l_2))]) (fun y => []) ?_ ?_
      · skip
        refine VL_block ?_
        refine V_to [(0, .c (.val (.int .u8 n_1))), (1, .c (.imm (.slice (.pair (.int .i64) (.pair (.int .i64) .str))) l_2)), (5, .c (.val (.int .i64 (0 : Int))))] [] [] hn (by kernel_rfl) (by kernel_rfl) rfl rfl rfl ?_
        refine VL_loop (X := Int) (fun x => [(0, .c (.val (.int .u8 n_1))), (1, .c (.imm (.slice (.pair (.int .i64) (.pair (.int .i64) .str))) l_2)), (5, .c (.val (.int .i64 x)))]) (fun x => []) (fun k x => palinodelaw12_FactorCounts.l0 K l_2 k x = some q_74) K (0 : Int) H_75 (fun _ h => no_none h) ?_
        intro k_14 i_13 H_78
        have H_79 : palinodelaw12_FactorCounts.l0 K l_2 (k_14 + 1) i_13 = some q_74 := H_78
        rw [palinodelaw12_FactorCounts.l0] at H_79
        refine V_run hN hn 3 0 [0, 1, 5, 20] [] ⟨[(0, .c (.val (.int .u8 n_1))), (1, .c (.imm (.slice (.pair (.int .i64) (.pair (.int .i64) .str))) l_2)), (5, .c (.val (.int .i64 i_13))), (20, .c (.val (.bool (decide (i_13 < (((List.length l_2) : Nat) : Int))))))], [], 0⟩ [] (by kernel_rfl) rfl rfl ap0 ?_
        refine VL_cond ((decide (i_13 < (((List.length l_2) : Nat) : Int)))) (by kernel_rfl) ?_ ?_
        · intro b_16; have H_80 := of_t H_79 b_16
          refine V_run hN hn 2 0 [0, 1, 5, 20] [] ⟨[(0, .c (.val (.int .u8 n_1))), (1, .c (.imm (.slice (.pair (.int .i64) (.pair (.int .i64) .str))) l_2)), (5, .c (.val (.int .i64 i_13))), (20, .c (.val (.bool (decide (i_13 < (((List.length l_2) : Nat) : Int))))))], [], 0⟩ [] (by kernel_rfl) rfl rfl ap0 ?_
          refine VL_block ?_
          obtain ⟨c_18, H_82⟩ := of_if H_80
          refine V_run hN hn 2 0 [0, 1, 5, 29] [] ⟨[(0, .c (.val (.int .u8 n_1))), (1, .c (.imm (.slice (.pair (.int .i64) (.pair (.int .i64) .str))) l_2)), (5, .c (.val (.int .i64 i_13))), (29, .c (.val (.bool (decide ((((ByteArray.size (List.getD l_2 (Int.toNat i_13) ((0 : Int), ((0 : Int), ByteArray.empty))).2.2) : Nat) : Int) > (40 : Int))))))], [], 0⟩ [0 ≤ i_13, i_13 < (((List.length l_2) : Nat) : Int)] (by kernel_rfl) rfl rfl (ap2 c_18.1 (ap1 c_18.2)) ?_
          refine VL_cond ((decide ((((ByteArray.size (List.getD l_2 (Int.toNat i_13) ((0 : Int), ((0 : Int), ByteArray.empty))).2.2) : Nat) : Int) > (40 : Int)))) (by kernel_rfl) ?_ ?_
          · intro b_19; have H_83 := of_t H_82 b_19
            refine V_run hN hn 2 0 [4] [] ⟨[(4, .c (.val (.bool true)))], [], 0⟩ [] (by kernel_rfl) rfl rfl ap0 ?_
            have H_85 := Option.some.inj (show some (Sum.inl true) = some q_74 from H_83); subst H_85
            have H_86 := Option.some.inj (show some true = some r from H_76); subst H_86
            refine VL_ret ?_
            refine QB_ret ?_
            refine QL_ret ?_
            refine QB_ret ?_
            refine QP_ret ?_
            exact P_to [(4, .c (.val (.bool true)))] [] [] hn (by kernel_rfl) (by kernel_rfl) rfl rfl rfl (QF_retS (by kernel_rfl) (by kernel_rfl) rfl)
          · intro b_19; have H_84 := of_f H_82 b_19
            refine V_run hN hn 1 0 [0, 1, 5, 29] [] ⟨[(0, .c (.val (.int .u8 n_1))), (1, .c (.imm (.slice (.pair (.int .i64) (.pair (.int .i64) .str))) l_2)), (5, .c (.val (.int .i64 i_13))), (29, .c (.val (.bool (decide ((((ByteArray.size (List.getD l_2 (Int.toNat i_13) ((0 : Int), ((0 : Int), ByteArray.empty))).2.2) : Nat) : Int) > (40 : Int))))))], [], 0⟩ [] (by kernel_rfl) rfl rfl ap0 ?_
            refine VL_nil (QB_end ?_)
            refine V_run hN hn 1 0 [0, 1, 5] [] ⟨[(0, .c (.val (.int .u8 n_1))), (1, .c (.imm (.slice (.pair (.int .i64) (.pair (.int .i64) .str))) l_2)), (5, .c (.val (.int .i64 (IntKind.wrap .i64 (i_13 + (1 : Int))))))], [], 0⟩ [] (by kernel_rfl) rfl rfl ap0 ?_
            refine VL_nil ?_
            exact V_roundEnd (IntKind.wrap .i64 (i_13 + (1 : Int))) H_84 [] hn (by kernel_rfl) (by kernel_rfl) rfl rfl rfl
        · intro b_16; have H_81 := of_f H_79 b_16
          refine VL_exit ?_
          refine QL_exit ?_
          refine QB_here ?_
          have H_87 := Option.some.inj (show some (Sum.inr ()) = some q_74 from H_81); subst H_87
          refine VL_nil ?_
          exact QP_end () rfl [] hn (by kernel_rfl) (by kernel_rfl) rfl rfl rfl
      · intro y_77 hy; subst hy
        skip
        refine V_run hN hn 1 0 [0, 1] [] ⟨[(0, .c (.val (.int .u8 n_1))), (1, .c (.imm (.slice (.pair (.int .i64) (.pair (.int .i64) .str))) l_2))], [], 0⟩ [] (by kernel_rfl) rfl rfl ap0 ?_
        obtain ⟨r_24, h_25, H_88⟩ := of_bind H_76
        refine V_reg hN hn [(3, ⟨19, 0, [.c (.val (.int .i64 (IntKind.wrap .i64 n_1))), .c (.imm (.slice (.pair (.int .i64) (.pair (.int .i64) .str))) l_2)], [], .tup [(true, [.val (.int .i64 r_24.1), .imm (.slice (.pair (.int .i64) (.pair (.int .i64) .str))) r_24.2.1]), (false, [.val (.int .i64 r_24.2.2)])], [], [], 0⟩)] [] (calls_cons (delta_Build_spec K (IntKind.wrap .i64 n_1) l_2 r_24 h_25) (by kernel_rfl) calls_nil) 0 [0, 6, 7] [0] ⟨[(0, .c (.val (.int .u8 n_1))), (6, .c (.h 0)), (7, .c (.val (.int .i64 r_24.2.2)))], [(0, .box [.val (.int .i64 r_24.1), .imm (.slice (.pair (.int .i64) (.pair (.int .i64) .str))) r_24.2.1])], 1⟩ [] (by kernel_rfl) rfl rfl ap0 (by kernel_rfl) (by kernel_rfl) ?_
        refine V_run hN hn 3 1 [0, 6, 38] [0] ⟨[(0, .c (.val (.int .u8 n_1))), (6, .c (.h 0)), (38, .c (.val (.bool (r_24.2.2 != (0 : Int)))))], [(0, .box [.val (.int .i64 r_24.1), .imm (.slice (.pair (.int .i64) (.pair (.int .i64) .str))) r_24.2.1])], 1⟩ [] (by kernel_rfl) rfl rfl ap0 ?_
        refine VL_cond ((r_24.2.2 != (0 : Int))) (by kernel_rfl) ?_ ?_
        · intro b_28; have H_89 := of_t H_88 b_28
          refine V_run hN hn 2 1 [4] [] ⟨[(4, .c (.val (.bool true)))], [], 1⟩ [] (by kernel_rfl) rfl rfl ap0 ?_
          have H_91 := Option.some.inj (show some true = some r from H_89); subst H_91
          refine VL_ret ?_
          exact P_to [(4, .c (.val (.bool true)))] [] [] hn (by kernel_rfl) (by kernel_rfl) rfl rfl rfl (QF_retS (by kernel_rfl) (by kernel_rfl) rfl)
        · intro b_28; have H_90 := of_f H_88 b_28
          refine V_run hN hn 2 1 [0, 6, 38] [0] ⟨[(0, .c (.val (.int .u8 n_1))), (6, .c (.h 0)), (38, .c (.val (.bool (r_24.2.2 != (0 : Int)))))], [(0, .box [.val (.int .i64 r_24.1), .imm (.slice (.pair (.int .i64) (.pair (.int .i64) .str))) r_24.2.1])], 1⟩ [] (by kernel_rfl) rfl rfl ap0 ?_
          obtain ⟨r_31, h_32, H_92⟩ := of_bind H_90
          refine V_reg hN hn [(1, ⟨11, 0, [.agg [.val (.int .i64 r_24.1), .imm (.slice (.pair (.int .i64) (.pair (.int .i64) .str))) r_24.2.1]], [], .tup [(false, [.imm (.opt (.pair (.slice (.pair (.int .i64) (.int .i64))) (.int .i64))) r_31.1]), (false, [.val (.int .i64 r_31.2)])], [], [], 1⟩)] [] (calls_cons (factor_Inserted_spec K r_24.1 r_24.2.1 r_31 h_32) (by kernel_rfl) calls_nil) 1 [0, 6, 8, 9] [0] ⟨[(0, .c (.val (.int .u8 n_1))), (6, .c (.h 0)), (8, .c (.imm (.opt (.pair (.slice (.pair (.int .i64) (.int .i64))) (.int .i64))) r_31.1)), (9, .c (.val (.int .i64 r_31.2)))], [(0, .box [.val (.int .i64 r_24.1), .imm (.slice (.pair (.int .i64) (.pair (.int .i64) .str))) r_24.2.1])], 1⟩ [] (by kernel_rfl) rfl rfl ap0 (by kernel_rfl) (by kernel_rfl) ?_
          refine V_run hN hn 1 1 [0, 6, 8, 9] [0] ⟨[(0, .c (.val (.int .u8 n_1))), (6, .c (.h 0)), (8, .c (.imm (.opt (.pair (.slice (.pair (.int .i64) (.int .i64))) (.int .i64))) r_31.1)), (9, .c (.val (.int .i64 r_31.2)))], [(0, .box [.val (.int .i64 r_24.1), .imm (.slice (.pair (.int .i64) (.pair (.int .i64) .str))) r_24.2.1])], 1⟩ [] (by kernel_rfl) rfl rfl ap0 ?_
          obtain ⟨r_35, h_36, H_93⟩ := of_bind H_92
          refine V_reg hN hn [(1, ⟨12, 0, [.agg [.val (.int .i64 r_24.1), .imm (.slice (.pair (.int .i64) (.pair (.int .i64) .str))) r_24.2.1]], [], .tup [(false, [.imm (.opt (.pair (.slice (.pair (.int .i64) (.int .i64))) (.int .i64))) r_35.1]), (false, [.val (.int .i64 r_35.2)])], [], [], 1⟩)] [] (calls_cons (factor_Deleted_spec K r_24.1 r_24.2.1 r_35 h_36) (by kernel_rfl) calls_nil) 1 [0, 6, 8, 9, 10, 11] [0] ⟨[(0, .c (.val (.int .u8 n_1))), (6, .c (.h 0)), (8, .c (.imm (.opt (.pair (.slice (.pair (.int .i64) (.int .i64))) (.int .i64))) r_31.1)), (9, .c (.val (.int .i64 r_31.2))), (10, .c (.imm (.opt (.pair (.slice (.pair (.int .i64) (.int .i64))) (.int .i64))) r_35.1)), (11, .c (.val (.int .i64 r_35.2)))], [(0, .box [.val (.int .i64 r_24.1), .imm (.slice (.pair (.int .i64) (.pair (.int .i64) .str))) r_24.2.1])], 1⟩ [] (by kernel_rfl) rfl rfl ap0 (by kernel_rfl) (by kernel_rfl) ?_
          refine V_run hN hn 1 1 [0, 6, 8, 9, 10, 11] [0] ⟨[(0, .c (.val (.int .u8 n_1))), (6, .c (.h 0)), (8, .c (.imm (.opt (.pair (.slice (.pair (.int .i64) (.int .i64))) (.int .i64))) r_31.1)), (9, .c (.val (.int .i64 r_31.2))), (10, .c (.imm (.opt (.pair (.slice (.pair (.int .i64) (.int .i64))) (.int .i64))) r_35.1)), (11, .c (.val (.int .i64 r_35.2)))], [(0, .box [.val (.int .i64 r_24.1), .imm (.slice (.pair (.int .i64) (.pair (.int .i64) .str))) r_24.2.1])], 1⟩ [] (by kernel_rfl) rfl rfl ap0 ?_
          rcases Bool.eq_false_or_eq_true ((r_31.2 == (0 : Int))) with b_39 | b_39
          · have H_94 := of_t H_93 b_39
            rcases Bool.eq_false_or_eq_true ((r_35.2 == (0 : Int))) with b_40 | b_40
            · have H_96 := of_t H_94 b_40
              obtain ⟨r_41, h_42, H_98⟩ := of_bind H_96
              obtain ⟨r_43, h_44, H_99⟩ := of_bind H_98
              rcases Bool.eq_false_or_eq_true ((r_41 == r_43)) with b_45 | b_45
              · have H_100 := of_t H_99 b_45
                obtain ⟨r_46, h_47, H_102⟩ := of_bind H_100
                obtain ⟨r_48, h_49, H_103⟩ := of_bind H_102
                rcases Bool.eq_false_or_eq_true ((r_46 == r_48)) with b_50 | b_50
                · have H_104 := of_t H_103 b_50
                  obtain ⟨r_51, h_52, H_106⟩ := of_bind H_104
                  obtain ⟨r_53, h_54, H_107⟩ := of_bind H_106
                  rcases Bool.eq_false_or_eq_true ((r_51 == r_53)) with b_55 | b_55
                  · have H_108 := of_t H_107 b_55
                    obtain ⟨r_56, h_57, H_110⟩ := of_bind H_108
                    refine V_draw hN hn (by kernel_rfl) [(8, ⟨20, 0, [.c (.imm (.opt (.pair (.slice (.pair (.int .i64) (.int .i64))) (.int .i64))) r_31.1)], [], .c (.val (.int .i64 r_41)), [], [], 1⟩), (10, ⟨21, 0, [.agg [.val (.int .i64 r_24.1), .imm (.slice (.pair (.int .i64) (.pair (.int .i64) .str))) r_24.2.1]], [], .c (.val (.int .i64 r_43)), [], [], 1⟩), (15, ⟨22, 0, [.c (.imm (.opt (.pair (.slice (.pair (.int .i64) (.int .i64))) (.int .i64))) r_31.1)], [], .c (.val (.int .i64 r_46)), [], [], 1⟩), (17, ⟨23, 0, [.agg [.val (.int .i64 r_24.1), .imm (.slice (.pair (.int .i64) (.pair (.int .i64) .str))) r_24.2.1]], [], .c (.val (.int .i64 r_48)), [], [], 1⟩), (22, ⟨20, 0, [.c (.imm (.opt (.pair (.slice (.pair (.int .i64) (.int .i64))) (.int .i64))) r_35.1)], [], .c (.val (.int .i64 r_51)), [], [], 1⟩), (24, ⟨24, 0, [.agg [.val (.int .i64 r_24.1), .imm (.slice (.pair (.int .i64) (.pair (.int .i64) .str))) r_24.2.1]], [], .c (.val (.int .i64 r_53)), [], [], 1⟩), (29, ⟨22, 0, [.c (.imm (.opt (.pair (.slice (.pair (.int .i64) (.int .i64))) (.int .i64))) r_35.1)], [], .c (.val (.int .i64 r_56)), [], [], 1⟩)] [(51, true), (55, true), (62, true), (69, true), (76, true)] (calls_cons (subset_Subset_Size_spec K r_31.1 r_41 h_42) (by kernel_rfl) (calls_cons (delta_Adds_spec K r_24.1 r_24.2.1 r_43 h_44) (by kernel_rfl) (calls_cons (subset_Subset_Len_spec K r_31.1 r_46 h_47) (by kernel_rfl) (calls_cons (delta_Size_spec K r_24.1 r_24.2.1 r_48 h_49) (by kernel_rfl) (calls_cons (subset_Subset_Size_spec K r_35.1 r_51 h_52) (by kernel_rfl) (calls_cons (delta_Drops_spec K r_24.1 r_24.2.1 r_53 h_54) (by kernel_rfl) (calls_cons (subset_Subset_Len_spec K r_35.1 r_56 h_57) (by kernel_rfl) calls_nil))))))) 1 [4] [] ⟨[(4, .c (.val (.bool (r_56 == (IntKind.wrap .i64 n_1)))))], [], 1⟩ [(r_31.2 == (0 : Int)) = true, (r_35.2 == (0 : Int)) = true, (r_41 == r_43) = true, (r_46 == r_48) = true, (r_51 == r_53) = true] (by kernel_rfl) rfl rfl (ap2 b_39 (ap2 b_40 (ap2 b_45 (ap2 b_50 (ap1 b_55))))) (by kernel_rfl) (by kernel_rfl) ?_
                    have H_111 := Option.some.inj (show some (r_56 == (IntKind.wrap .i64 n_1)) = some r from H_110); subst H_111
                    refine VL_ret ?_
                    exact P_to [(4, .c (.val (.bool (r_56 == (IntKind.wrap .i64 n_1)))))] [] [] hn (by kernel_rfl) (by kernel_rfl) rfl rfl rfl (QF_retS (by kernel_rfl) (by kernel_rfl) rfl)
                  · have H_109 := of_f H_107 b_55
                    refine V_draw hN hn (by kernel_rfl) [(8, ⟨20, 0, [.c (.imm (.opt (.pair (.slice (.pair (.int .i64) (.int .i64))) (.int .i64))) r_31.1)], [], .c (.val (.int .i64 r_41)), [], [], 1⟩), (10, ⟨21, 0, [.agg [.val (.int .i64 r_24.1), .imm (.slice (.pair (.int .i64) (.pair (.int .i64) .str))) r_24.2.1]], [], .c (.val (.int .i64 r_43)), [], [], 1⟩), (15, ⟨22, 0, [.c (.imm (.opt (.pair (.slice (.pair (.int .i64) (.int .i64))) (.int .i64))) r_31.1)], [], .c (.val (.int .i64 r_46)), [], [], 1⟩), (17, ⟨23, 0, [.agg [.val (.int .i64 r_24.1), .imm (.slice (.pair (.int .i64) (.pair (.int .i64) .str))) r_24.2.1]], [], .c (.val (.int .i64 r_48)), [], [], 1⟩), (22, ⟨20, 0, [.c (.imm (.opt (.pair (.slice (.pair (.int .i64) (.int .i64))) (.int .i64))) r_35.1)], [], .c (.val (.int .i64 r_51)), [], [], 1⟩), (24, ⟨24, 0, [.agg [.val (.int .i64 r_24.1), .imm (.slice (.pair (.int .i64) (.pair (.int .i64) .str))) r_24.2.1]], [], .c (.val (.int .i64 r_53)), [], [], 1⟩)] [(51, true), (55, true), (62, true), (69, true), (76, false)] (calls_cons (subset_Subset_Size_spec K r_31.1 r_41 h_42) (by kernel_rfl) (calls_cons (delta_Adds_spec K r_24.1 r_24.2.1 r_43 h_44) (by kernel_rfl) (calls_cons (subset_Subset_Len_spec K r_31.1 r_46 h_47) (by kernel_rfl) (calls_cons (delta_Size_spec K r_24.1 r_24.2.1 r_48 h_49) (by kernel_rfl) (calls_cons (subset_Subset_Size_spec K r_35.1 r_51 h_52) (by kernel_rfl) (calls_cons (delta_Drops_spec K r_24.1 r_24.2.1 r_53 h_54) (by kernel_rfl) calls_nil)))))) 1 [4] [] ⟨[(4, .c (.val (.bool false)))], [], 1⟩ [(r_31.2 == (0 : Int)) = true, (r_35.2 == (0 : Int)) = true, (r_41 == r_43) = true, (r_46 == r_48) = true, (r_51 == r_53) = false] (by kernel_rfl) rfl rfl (ap2 b_39 (ap2 b_40 (ap2 b_45 (ap2 b_50 (ap1 b_55))))) (by kernel_rfl) (by kernel_rfl) ?_
                    have H_112 := Option.some.inj (show some false = some r from H_109); subst H_112
                    refine VL_ret ?_
                    exact P_to [(4, .c (.val (.bool false)))] [] [] hn (by kernel_rfl) (by kernel_rfl) rfl rfl rfl (QF_retS (by kernel_rfl) (by kernel_rfl) rfl)
                · have H_105 := of_f H_103 b_50
                  refine V_draw hN hn (by kernel_rfl) [(8, ⟨20, 0, [.c (.imm (.opt (.pair (.slice (.pair (.int .i64) (.int .i64))) (.int .i64))) r_31.1)], [], .c (.val (.int .i64 r_41)), [], [], 1⟩), (10, ⟨21, 0, [.agg [.val (.int .i64 r_24.1), .imm (.slice (.pair (.int .i64) (.pair (.int .i64) .str))) r_24.2.1]], [], .c (.val (.int .i64 r_43)), [], [], 1⟩), (15, ⟨22, 0, [.c (.imm (.opt (.pair (.slice (.pair (.int .i64) (.int .i64))) (.int .i64))) r_31.1)], [], .c (.val (.int .i64 r_46)), [], [], 1⟩), (17, ⟨23, 0, [.agg [.val (.int .i64 r_24.1), .imm (.slice (.pair (.int .i64) (.pair (.int .i64) .str))) r_24.2.1]], [], .c (.val (.int .i64 r_48)), [], [], 1⟩)] [(51, true), (55, true), (62, true), (69, false)] (calls_cons (subset_Subset_Size_spec K r_31.1 r_41 h_42) (by kernel_rfl) (calls_cons (delta_Adds_spec K r_24.1 r_24.2.1 r_43 h_44) (by kernel_rfl) (calls_cons (subset_Subset_Len_spec K r_31.1 r_46 h_47) (by kernel_rfl) (calls_cons (delta_Size_spec K r_24.1 r_24.2.1 r_48 h_49) (by kernel_rfl) calls_nil)))) 1 [4] [] ⟨[(4, .c (.val (.bool false)))], [], 1⟩ [(r_31.2 == (0 : Int)) = true, (r_35.2 == (0 : Int)) = true, (r_41 == r_43) = true, (r_46 == r_48) = false] (by kernel_rfl) rfl rfl (ap2 b_39 (ap2 b_40 (ap2 b_45 (ap1 b_50)))) (by kernel_rfl) (by kernel_rfl) ?_
                  have H_113 := Option.some.inj (show some false = some r from H_105); subst H_113
                  refine VL_ret ?_
                  exact P_to [(4, .c (.val (.bool false)))] [] [] hn (by kernel_rfl) (by kernel_rfl) rfl rfl rfl (QF_retS (by kernel_rfl) (by kernel_rfl) rfl)
              · have H_101 := of_f H_99 b_45
                refine V_draw hN hn (by kernel_rfl) [(8, ⟨20, 0, [.c (.imm (.opt (.pair (.slice (.pair (.int .i64) (.int .i64))) (.int .i64))) r_31.1)], [], .c (.val (.int .i64 r_41)), [], [], 1⟩), (10, ⟨21, 0, [.agg [.val (.int .i64 r_24.1), .imm (.slice (.pair (.int .i64) (.pair (.int .i64) .str))) r_24.2.1]], [], .c (.val (.int .i64 r_43)), [], [], 1⟩)] [(51, true), (55, true), (62, false)] (calls_cons (subset_Subset_Size_spec K r_31.1 r_41 h_42) (by kernel_rfl) (calls_cons (delta_Adds_spec K r_24.1 r_24.2.1 r_43 h_44) (by kernel_rfl) calls_nil)) 1 [4] [] ⟨[(4, .c (.val (.bool false)))], [], 1⟩ [(r_31.2 == (0 : Int)) = true, (r_35.2 == (0 : Int)) = true, (r_41 == r_43) = false] (by kernel_rfl) rfl rfl (ap2 b_39 (ap2 b_40 (ap1 b_45))) (by kernel_rfl) (by kernel_rfl) ?_
                have H_114 := Option.some.inj (show some false = some r from H_101); subst H_114
                refine VL_ret ?_
                exact P_to [(4, .c (.val (.bool false)))] [] [] hn (by kernel_rfl) (by kernel_rfl) rfl rfl rfl (QF_retS (by kernel_rfl) (by kernel_rfl) rfl)
            · have H_97 := of_f H_94 b_40
              refine V_draw hN hn (by kernel_rfl) [] [(51, true), (55, false)] calls_nil 1 [4] [] ⟨[(4, .c (.val (.bool false)))], [], 1⟩ [(r_31.2 == (0 : Int)) = true, (r_35.2 == (0 : Int)) = false] (by kernel_rfl) rfl rfl (ap2 b_39 (ap1 b_40)) (by kernel_rfl) (by kernel_rfl) ?_
              have H_115 := Option.some.inj (show some false = some r from H_97); subst H_115
              refine VL_ret ?_
              exact P_to [(4, .c (.val (.bool false)))] [] [] hn (by kernel_rfl) (by kernel_rfl) rfl rfl rfl (QF_retS (by kernel_rfl) (by kernel_rfl) rfl)
          · have H_95 := of_f H_93 b_39
            refine V_draw hN hn (by kernel_rfl) [] [(51, false)] calls_nil 1 [4] [] ⟨[(4, .c (.val (.bool false)))], [], 1⟩ [(r_31.2 == (0 : Int)) = false] (by kernel_rfl) rfl rfl (ap1 b_39) (by kernel_rfl) (by kernel_rfl) ?_
            have H_116 := Option.some.inj (show some false = some r from H_95); subst H_116
            refine VL_ret ?_
            exact P_to [(4, .c (.val (.bool false)))] [] [] hn (by kernel_rfl) (by kernel_rfl) rfl rfl rfl (QF_retS (by kernel_rfl) (by kernel_rfl) rfl)

end Go.Pal
