/- The Go functions that FactorBack reaches compute what the plain functions say: part 1, printed by a program of this workplace. -/
import Derived.Test.YtmeleoadgjbmfaaChecked
import Derived.Test.YtmeleoadgjbmfaaWalkFactorBack0
namespace Go.Pal
open Go Go.Proofs
set_option maxRecDepth 100000
set_option linter.unusedVariables false

theorem factor_Join_spec (K : Nat) (ins_1 : Int) (ins_2 : (List (Int × (Int × ByteArray)))) (del_3 : (Option ((List (Int × Int)) × Int))) (r : (Int × (List (Int × (Int × ByteArray))) × Int)) (H : factor_Join K ins_1 ins_2 del_3 = some r) : Spec Try.prog 27 0 [.agg [.val (.int .i64 ins_1), .imm (.slice (.pair (.int .i64) (.pair (.int .i64) .str))) ins_2], .c (.imm (.opt (.pair (.slice (.pair (.int .i64) (.int .i64))) (.int .i64))) del_3)] [] (.tup [(true, [.val (.int .i64 r.1), .imm (.slice (.pair (.int .i64) (.pair (.int .i64) .str))) r.2.1]), (false, [.val (.int .i64 r.2.2)])]) [] := by
  refine Spec_mk (fn := Try.f27) (c := (Try.f27.body).get!) Try.func27 (by kernel_rfl) rfl ?_
  intro C hN hn
  replace hN : C.N = 95 := hN
  unfold factor_Join at H
  refine V_run hN hn 4 0 [1, 2, 4] [0, 1] ⟨[(1, .c (.imm (.opt (.pair (.slice (.pair (.int .i64) (.int .i64))) (.int .i64))) del_3)), (2, .c (.h 0)), (4, .c (.h 1))], [(0, .box [.val (.int .i64 ins_1), .imm (.slice (.pair (.int .i64) (.pair (.int .i64) .str))) ins_2]), (1, .box [.val (.int .i64 (0 : Int)), .val (.slice none 0 0)])], 2⟩ [] (by kernel_rfl) rfl rfl ap0 ?_
  obtain ⟨q_142, H_143, H_144⟩ := of_bind H
  refine V_cut (Y := Bool) (R := Bool) q_142 (fun y => y) (fun y => [(1, .c (.imm (.opt (.pair (.slice (.pair (.int .i64) (.int .i64))) (.int .i64))) del_3)), (2, .c (.h 0)), (4, .c (.h 1)), (20, .c (.val (.bool y)))]) (fun y => [(0, .box [.val (.int .i64 ins_1), .imm (.slice (.pair (.int .i64) (.pair (.int .i64) .str))) ins_2]), (1, .box [.val (.int .i64 (0 : Int)), .val (.slice none 0 0)])]) ?_ ?_
  · skip
    obtain ⟨r_5, h_6, H_146⟩ := of_bind H_143
    rcases Bool.eq_false_or_eq_true ((!r_5)) with b_7 | b_7
    · have H_147 := of_t H_146 b_7
      refine V_reg hN hn [(1, ⟨44, 0, [.agg [.val (.int .i64 ins_1), .imm (.slice (.pair (.int .i64) (.pair (.int .i64) .str))) ins_2]], [], .c (.val (.bool r_5)), [], [], 2⟩)] [(16, true)] (calls_cons (delta_Is_spec K ins_1 ins_2 r_5 h_6) (by kernel_rfl) calls_nil) 2 [1, 2, 4, 20] [0, 1] ⟨[(1, .c (.imm (.opt (.pair (.slice (.pair (.int .i64) (.int .i64))) (.int .i64))) del_3)), (2, .c (.h 0)), (4, .c (.h 1)), (20, .c (.val (.bool true)))], [(0, .box [.val (.int .i64 ins_1), .imm (.slice (.pair (.int .i64) (.pair (.int .i64) .str))) ins_2]), (1, .box [.val (.int .i64 (0 : Int)), .val (.slice none 0 0)])], 2⟩ [(!r_5) = true] (by kernel_rfl) rfl rfl (ap1 b_7) (by kernel_rfl) (by kernel_rfl) ?_
      have H_149 := Option.some.inj (show some true = some q_142 from H_147); subst H_149
      refine VL_nil ?_
      exact QP_end true rfl [(0, 0), (1, 1)] hn (by kernel_rfl) (by kernel_rfl) rfl rfl rfl
    · have H_148 := of_f H_146 b_7
      obtain ⟨r_9, h_10, H_150⟩ := of_bind H_148
      refine V_reg hN hn [(1, ⟨44, 0, [.agg [.val (.int .i64 ins_1), .imm (.slice (.pair (.int .i64) (.pair (.int .i64) .str))) ins_2]], [], .c (.val (.bool r_5)), [], [], 2⟩), (5, ⟨24, 0, [.agg [.val (.int .i64 ins_1), .imm (.slice (.pair (.int .i64) (.pair (.int .i64) .str))) ins_2]], [], .c (.val (.int .i64 r_9)), [], [], 2⟩)] [(16, false)] (calls_cons (delta_Is_spec K ins_1 ins_2 r_5 h_6) (by kernel_rfl) (calls_cons (delta_Drops_spec K ins_1 ins_2 r_9 h_10) (by kernel_rfl) calls_nil)) 2 [1, 2, 4, 20] [0, 1] ⟨[(1, .c (.imm (.opt (.pair (.slice (.pair (.int .i64) (.int .i64))) (.int .i64))) del_3)), (2, .c (.h 0)), (4, .c (.h 1)), (20, .c (.val (.bool (decide (r_9 > (0 : Int))))))], [(0, .box [.val (.int .i64 ins_1), .imm (.slice (.pair (.int .i64) (.pair (.int .i64) .str))) ins_2]), (1, .box [.val (.int .i64 (0 : Int)), .val (.slice none 0 0)])], 2⟩ [(!r_5) = false] (by kernel_rfl) rfl rfl (ap1 b_7) (by kernel_rfl) (by kernel_rfl) ?_
      have H_151 := Option.some.inj (show some (decide (r_9 > (0 : Int))) = some q_142 from H_150); subst H_151
      refine VL_nil ?_
      exact QP_end (decide (r_9 > (0 : Int))) rfl [(0, 0), (1, 1)] hn (by kernel_rfl) (by kernel_rfl) rfl rfl rfl
  · intro y_145 hy; subst hy
    skip
    skip
    refine VL_cond (y_145) (by kernel_rfl) ?_ ?_
    · intro b_13; have H_152 := of_t H_144 b_13
      refine V_run hN hn 2 2 [4, 5] [1] ⟨[(4, .c (.h 1)), (5, .c (.val (.int .i64 (12 : Int))))], [(1, .box [.val (.int .i64 (0 : Int)), .val (.slice none 0 0)])], 2⟩ [] (by kernel_rfl) rfl rfl ap0 ?_
      have H_154 := Option.some.inj (show some ((0 : Int), ([] : List (Int × (Int × ByteArray))), (12 : Int)) = some r from H_152); subst H_154
      refine VL_ret ?_
      refine P_ghost [.readCell 1 1 (.slice (.pair (.int .i64) (.pair (.int .i64) .str)))] 2 hn [4, 5] [1] ⟨[(4, .c (.h 1)), (5, .c (.val (.int .i64 (12 : Int))))], [(1, .box [.val (.int .i64 (0 : Int)), .imm (.slice (.pair (.int .i64) (.pair (.int .i64) .str))) ([] : List (Int × (Int × ByteArray)))])], 2⟩ (by kernel_rfl) rfl rfl ?_
      exact P_to [(4, .c (.h 1)), (5, .c (.val (.int .i64 (12 : Int))))] [(1, .box [.val (.int .i64 (0 : Int)), .imm (.slice (.pair (.int .i64) (.pair (.int .i64) .str))) ([] : List (Int × (Int × ByteArray)))])] [(1, 1)] hn (by kernel_rfl) (by kernel_rfl) rfl rfl rfl (QF_retS (by kernel_rfl) (by kernel_rfl) rfl)
    · intro b_13; have H_153 := of_f H_144 b_13
      refine V_run hN hn 2 2 [1, 2, 4, 20] [0, 1] ⟨[(1, .c (.imm (.opt (.pair (.slice (.pair (.int .i64) (.int .i64))) (.int .i64))) del_3)), (2, .c (.h 0)), (4, .c (.h 1)), (20, .c (.val (.bool y_145)))], [(0, .box [.val (.int .i64 ins_1), .imm (.slice (.pair (.int .i64) (.pair (.int .i64) .str))) ins_2]), (1, .box [.val (.int .i64 (0 : Int)), .val (.slice none 0 0)])], 2⟩ [] (by kernel_rfl) rfl rfl ap0 ?_
      obtain ⟨r_16, h_17, H_155⟩ := of_bind H_153
      refine V_reg hN hn [(1, ⟨50, 0, [.c (.imm (.opt (.pair (.slice (.pair (.int .i64) (.int .i64))) (.int .i64))) del_3)], [], .tup [(false, [.val (.int .i64 r_16.1)]), (false, [.h 3])], [(3, .row (.pair (.int .i64) (.int .i64)) r_16.2)], [(3, 2)], 3⟩)] [] (calls_cons (factor_places_spec K del_3 r_16 h_17) (by kernel_rfl) calls_nil) 2 [2, 4, 6, 7] [0, 1, 2] ⟨[(2, .c (.h 0)), (4, .c (.h 1)), (6, .c (.val (.int .i64 r_16.1))), (7, .c (.h 2))], [(0, .box [.val (.int .i64 ins_1), .imm (.slice (.pair (.int .i64) (.pair (.int .i64) .str))) ins_2]), (1, .box [.val (.int .i64 (0 : Int)), .val (.slice none 0 0)]), (2, .row (.pair (.int .i64) (.int .i64)) r_16.2)], 3⟩ [] (by kernel_rfl) rfl rfl ap0 (by kernel_rfl) (by kernel_rfl) ?_
      refine V_run hN hn 3 3 [2, 4, 7, 30] [0, 1, 2] ⟨[(2, .c (.h 0)), (4, .c (.h 1)), (7, .c (.h 2)), (30, .c (.val (.bool (r_16.1 != ins_1))))], [(0, .box [.val (.int .i64 ins_1), .imm (.slice (.pair (.int .i64) (.pair (.int .i64) .str))) ins_2]), (1, .box [.val (.int .i64 (0 : Int)), .val (.slice none 0 0)]), (2, .row (.pair (.int .i64) (.int .i64)) r_16.2)], 3⟩ [] (by kernel_rfl) rfl rfl ap0 ?_
      refine VL_cond ((r_16.1 != ins_1)) (by kernel_rfl) ?_ ?_
      · intro b_20; have H_156 := of_t H_155 b_20
        refine V_run hN hn 2 3 [4, 5] [1] ⟨[(4, .c (.h 1)), (5, .c (.val (.int .i64 (80 : Int))))], [(1, .box [.val (.int .i64 (0 : Int)), .val (.slice none 0 0)])], 3⟩ [] (by kernel_rfl) rfl rfl ap0 ?_
        have H_158 := Option.some.inj (show some ((0 : Int), ([] : List (Int × (Int × ByteArray))), (80 : Int)) = some r from H_156); subst H_158
        refine VL_ret ?_
        refine P_ghost [.readCell 1 1 (.slice (.pair (.int .i64) (.pair (.int .i64) .str)))] 3 hn [4, 5] [1] ⟨[(4, .c (.h 1)), (5, .c (.val (.int .i64 (80 : Int))))], [(1, .box [.val (.int .i64 (0 : Int)), .imm (.slice (.pair (.int .i64) (.pair (.int .i64) .str))) ([] : List (Int × (Int × ByteArray)))])], 3⟩ (by kernel_rfl) rfl rfl ?_
        exact P_to [(4, .c (.h 1)), (5, .c (.val (.int .i64 (80 : Int))))] [(1, .box [.val (.int .i64 (0 : Int)), .imm (.slice (.pair (.int .i64) (.pair (.int .i64) .str))) ([] : List (Int × (Int × ByteArray)))])] [(1, 1)] hn (by kernel_rfl) (by kernel_rfl) rfl rfl rfl (QF_retS (by kernel_rfl) (by kernel_rfl) rfl)
      · intro b_20; have H_157 := of_f H_155 b_20
        refine V_run hN hn 2 3 [2, 4, 7, 30] [0, 1, 2] ⟨[(2, .c (.h 0)), (4, .c (.h 1)), (7, .c (.h 2)), (30, .c (.val (.bool (r_16.1 != ins_1))))], [(0, .box [.val (.int .i64 ins_1), .imm (.slice (.pair (.int .i64) (.pair (.int .i64) .str))) ins_2]), (1, .box [.val (.int .i64 (0 : Int)), .val (.slice none 0 0)]), (2, .row (.pair (.int .i64) (.int .i64)) r_16.2)], 3⟩ [] (by kernel_rfl) rfl rfl ap0 ?_
        obtain ⟨r_23, h_24, H_159⟩ := of_bind H_157
        refine V_reg hN hn [(2, ⟨39, 0, [.c (.val (.int .i64 ins_1))], [], .c (.h 0), [(0, .box [.val (.int .i64 ins_1), .val (.slice none 0 0)])], [(0, 3)], 4⟩)] [] (calls_cons (delta_NewMaker_spec K ins_1 r_23 h_24) (by kernel_rfl) calls_nil) 3 [2, 4, 7, 8] [0, 1, 2, 3] ⟨[(2, .c (.h 0)), (4, .c (.h 1)), (7, .c (.h 2)), (8, .c (.h 3))], [(0, .box [.val (.int .i64 ins_1), .imm (.slice (.pair (.int .i64) (.pair (.int .i64) .str))) ins_2]), (1, .box [.val (.int .i64 (0 : Int)), .val (.slice none 0 0)]), (2, .row (.pair (.int .i64) (.int .i64)) r_16.2), (3, .box [.val (.int .i64 ins_1), .val (.slice none 0 0)])], 4⟩ [] (by kernel_rfl) rfl rfl ap0 (by kernel_rfl) (by kernel_rfl) ?_
        refine V_run hN hn 3 4 [4, 7, 8, 36, 37, 38] [1, 2, 3] ⟨[(4, .c (.h 1)), (7, .c (.h 2)), (8, .c (.h 3)), (36, .c (.imm (.slice (.pair (.int .i64) (.pair (.int .i64) .str))) ins_2)), (37, .c (.val (.int .i64 (((List.length ins_2) : Nat) : Int)))), (38, .c (.val (.int .i64 (0 : Int))))], [(1, .box [.val (.int .i64 (0 : Int)), .val (.slice none 0 0)]), (2, .row (.pair (.int .i64) (.int .i64)) r_16.2), (3, .box [.val (.int .i64 ins_1), .val (.slice none 0 0)])], 4⟩ [] (by kernel_rfl) rfl rfl ap0 ?_
        obtain ⟨q_160, H_161, H_162⟩ := of_bind H_159
        refine V_cut (Y := (List (Int × (Int × ByteArray)))) (R := (List (Int × (Int × ByteArray)))) q_160 (fun y => y) (fun y => [(4, .c (.h 1)), (8, .c (.h 3))]) (fun y => [(1, .box [.val (.int .i64 (0 : Int)), .val (.slice none 0 0)]), (3, .box [.val (.int .i64 ins_1), .h 12]), (12, .row (.pair (.int .i64) (.pair (.int .i64) .str)) y)]) ?_ ?_
        · skip
          refine VL_block ?_
          refine V_ghost [.nilCell 3 1 (.pair (.int .i64) (.pair (.int .i64) .str))] 4 hn [4, 7, 8, 36, 37, 38] [1, 2, 3, 4] ⟨[(4, .c (.h 1)), (7, .c (.h 2)), (8, .c (.h 3)), (36, .c (.imm (.slice (.pair (.int .i64) (.pair (.int .i64) .str))) ins_2)), (37, .c (.val (.int .i64 (((List.length ins_2) : Nat) : Int)))), (38, .c (.val (.int .i64 (0 : Int))))], [(1, .box [.val (.int .i64 (0 : Int)), .val (.slice none 0 0)]), (2, .row (.pair (.int .i64) (.int .i64)) r_16.2), (3, .box [.val (.int .i64 ins_1), .h 4]), (4, .row (.pair (.int .i64) (.pair (.int .i64) .str)) ([] : List (Int × (Int × ByteArray))))], 5⟩ (by kernel_rfl) rfl rfl ?_
          refine V_to [(4, .c (.h 1)), (7, .c (.h 11)), (8, .c (.h 3)), (36, .c (.imm (.slice (.pair (.int .i64) (.pair (.int .i64) .str))) ins_2)), (37, .c (.val (.int .i64 (((List.length ins_2) : Nat) : Int)))), (38, .c (.val (.int .i64 (0 : Int))))] [(1, .box [.val (.int .i64 (0 : Int)), .val (.slice none 0 0)]), (3, .box [.val (.int .i64 ins_1), .h 12]), (11, .row (.pair (.int .i64) (.int .i64)) r_16.2), (12, .row (.pair (.int .i64) (.pair (.int .i64) .str)) ([] : List (Int × (Int × ByteArray))))] [(1, 1), (3, 3), (11, 2), (12, 4)] hn (by kernel_rfl) (by kernel_rfl) rfl rfl rfl ?_
          refine VL_loop (X := ((List (Int × Int)) × (List (Int × (Int × ByteArray))) × Int)) (fun x => [(4, .c (.h 1)), (7, .c (.h 11)), (8, .c (.h 3)), (36, .c (.imm (.slice (.pair (.int .i64) (.pair (.int .i64) .str))) ins_2)), (37, .c (.val (.int .i64 (((List.length ins_2) : Nat) : Int)))), (38, .c (.val (.int .i64 x.2.2)))]) (fun x => [(1, .box [.val (.int .i64 (0 : Int)), .val (.slice none 0 0)]), (3, .box [.val (.int .i64 ins_1), .h 12]), (11, .row (.pair (.int .i64) (.int .i64)) x.1), (12, .row (.pair (.int .i64) (.pair (.int .i64) .str)) x.2.1)]) (fun k x => factor_Join.l0 K ins_2 ins_1 k x.1 x.2.1 x.2.2 = some q_160) K (r_16.2, ([] : List (Int × (Int × ByteArray))), (0 : Int)) H_161 (fun _ h => no_none h) ?_
          intro k_79 x_79 H_164
          obtain ⟨l_77, x_78, t_27⟩ := x_79
          have H_165 : factor_Join.l0 K ins_2 ins_1 (k_79 + 1) l_77 x_78 t_27 = some q_160 := H_164
          rw [factor_Join.l0] at H_165
          refine V_run hN hn 3 13 [4, 7, 8, 36, 37, 38, 39] [1, 3, 11, 12] ⟨[(4, .c (.h 1)), (7, .c (.h 11)), (8, .c (.h 3)), (36, .c (.imm (.slice (.pair (.int .i64) (.pair (.int .i64) .str))) ins_2)), (37, .c (.val (.int .i64 (((List.length ins_2) : Nat) : Int)))), (38, .c (.val (.int .i64 t_27))), (39, .c (.val (.bool (decide (t_27 < (((List.length ins_2) : Nat) : Int))))))], [(1, .box [.val (.int .i64 (0 : Int)), .val (.slice none 0 0)]), (3, .box [.val (.int .i64 ins_1), .h 12]), (11, .row (.pair (.int .i64) (.int .i64)) l_77), (12, .row (.pair (.int .i64) (.pair (.int .i64) .str)) x_78)], 13⟩ [] (by kernel_rfl) rfl rfl ap0 ?_
          refine VL_cond ((decide (t_27 < (((List.length ins_2) : Nat) : Int)))) (by kernel_rfl) ?_ ?_
          · intro b_81; have H_166 := of_t H_165 b_81
            refine V_run hN hn 2 13 [4, 7, 8, 36, 37, 38, 39] [1, 3, 11, 12] ⟨[(4, .c (.h 1)), (7, .c (.h 11)), (8, .c (.h 3)), (36, .c (.imm (.slice (.pair (.int .i64) (.pair (.int .i64) .str))) ins_2)), (37, .c (.val (.int .i64 (((List.length ins_2) : Nat) : Int)))), (38, .c (.val (.int .i64 t_27))), (39, .c (.val (.bool (decide (t_27 < (((List.length ins_2) : Nat) : Int))))))], [(1, .box [.val (.int .i64 (0 : Int)), .val (.slice none 0 0)]), (3, .box [.val (.int .i64 ins_1), .h 12]), (11, .row (.pair (.int .i64) (.int .i64)) l_77), (12, .row (.pair (.int .i64) (.pair (.int .i64) .str)) x_78)], 13⟩ [] (by kernel_rfl) rfl rfl ap0 ?_
            obtain ⟨q_168, H_169, H_170⟩ := of_bind H_166
            refine V_cut (Y := ((List (Int × Int)) × (List (Int × (Int × ByteArray))))) (R := ((List (Int × Int)) × (List (Int × (Int × ByteArray))))) q_168 (fun y => y) (fun y => [(4, .c (.h 1)), (7, .c (.h 18)), (8, .c (.h 3)), (36, .c (.imm (.slice (.pair (.int .i64) (.pair (.int .i64) .str))) ins_2)), (37, .c (.val (.int .i64 (((List.length ins_2) : Nat) : Int)))), (38, .c (.val (.int .i64 t_27)))]) (fun y => [(1, .box [.val (.int .i64 (0 : Int)), .val (.slice none 0 0)]), (3, .box [.val (.int .i64 ins_1), .h 19]), (18, .row (.pair (.int .i64) (.int .i64)) y.1), (19, .row (.pair (.int .i64) (.pair (.int .i64) .str)) y.2)]) ?_ ?_
            · skip
              refine VL_block ?_
              obtain ⟨c_83, H_172⟩ := of_if H_169
              refine V_run hN hn 3 13 [4, 7, 8, 10, 36, 37, 38] [1, 3, 11, 12, 13] ⟨[(4, .c (.h 1)), (7, .c (.h 11)), (8, .c (.h 3)), (10, .c (.h 13)), (36, .c (.imm (.slice (.pair (.int .i64) (.pair (.int .i64) .str))) ins_2)), (37, .c (.val (.int .i64 (((List.length ins_2) : Nat) : Int)))), (38, .c (.val (.int .i64 t_27)))], [(1, .box [.val (.int .i64 (0 : Int)), .val (.slice none 0 0)]), (3, .box [.val (.int .i64 ins_1), .h 12]), (11, .row (.pair (.int .i64) (.int .i64)) l_77), (12, .row (.pair (.int .i64) (.pair (.int .i64) .str)) x_78), (13, .box [.val (.int .i64 (List.getD ins_2 (Int.toNat t_27) ((0 : Int), ((0 : Int), ByteArray.empty))).1), .val (.int .i64 (List.getD ins_2 (Int.toNat t_27) ((0 : Int), ((0 : Int), ByteArray.empty))).2.1), .val (.string (List.getD ins_2 (Int.toNat t_27) ((0 : Int), ((0 : Int), ByteArray.empty))).2.2)])], 14⟩ [0 ≤ t_27, t_27 < (((List.length ins_2) : Nat) : Int)] (by kernel_rfl) rfl rfl (ap2 c_83.1 (ap1 c_83.2)) ?_
              obtain ⟨r_84, h_85, H_173⟩ := of_bind H_172
              refine V_reg hN hn [(3, ⟨42, 2, [.c (.h 0), .c (.val (.string (List.getD ins_2 (Int.toNat t_27) ((0 : Int), ((0 : Int), ByteArray.empty))).2.2))], [(0, .box [.val (.int .i64 ins_1), .h 1]), (1, .row (.pair (.int .i64) (.pair (.int .i64) .str)) x_78)], .tup [], [(0, .box [.val (.int .i64 ins_1), .h 4]), (4, .row (.pair (.int .i64) (.pair (.int .i64) .str)) r_84)], [(0, 3), (1, 12), (4, 14)], 15⟩)] [] (calls_cons (delta_Maker_Put_bg_92925_spec K ins_1 x_78 (List.getD ins_2 (Int.toNat t_27) ((0 : Int), ((0 : Int), ByteArray.empty))).2.2 r_84 h_85) (by kernel_rfl) calls_nil) 14 [4, 7, 8, 10, 36, 37, 38] [1, 3, 11, 13, 14] ⟨[(4, .c (.h 1)), (7, .c (.h 11)), (8, .c (.h 3)), (10, .c (.h 13)), (36, .c (.imm (.slice (.pair (.int .i64) (.pair (.int .i64) .str))) ins_2)), (37, .c (.val (.int .i64 (((List.length ins_2) : Nat) : Int)))), (38, .c (.val (.int .i64 t_27)))], [(1, .box [.val (.int .i64 (0 : Int)), .val (.slice none 0 0)]), (3, .box [.val (.int .i64 ins_1), .h 14]), (11, .row (.pair (.int .i64) (.int .i64)) l_77), (13, .box [.val (.int .i64 (List.getD ins_2 (Int.toNat t_27) ((0 : Int), ((0 : Int), ByteArray.empty))).1), .val (.int .i64 (List.getD ins_2 (Int.toNat t_27) ((0 : Int), ((0 : Int), ByteArray.empty))).2.1), .val (.string (List.getD ins_2 (Int.toNat t_27) ((0 : Int), ((0 : Int), ByteArray.empty))).2.2)]), (14, .row (.pair (.int .i64) (.pair (.int .i64) .str)) r_84)], 15⟩ [] (by kernel_rfl) rfl rfl ap0 (by kernel_rfl) (by kernel_rfl) ?_
              refine V_run hN hn 2 15 [4, 7, 8, 10, 11, 36, 37, 38] [1, 3, 11, 13, 14] ⟨[(4, .c (.h 1)), (7, .c (.h 11)), (8, .c (.h 3)), (10, .c (.h 13)), (11, .c (.val (.int .i64 (List.getD ins_2 (Int.toNat t_27) ((0 : Int), ((0 : Int), ByteArray.empty))).1))), (36, .c (.imm (.slice (.pair (.int .i64) (.pair (.int .i64) .str))) ins_2)), (37, .c (.val (.int .i64 (((List.length ins_2) : Nat) : Int)))), (38, .c (.val (.int .i64 t_27)))], [(1, .box [.val (.int .i64 (0 : Int)), .val (.slice none 0 0)]), (3, .box [.val (.int .i64 ins_1), .h 14]), (11, .row (.pair (.int .i64) (.int .i64)) l_77), (13, .box [.val (.int .i64 (List.getD ins_2 (Int.toNat t_27) ((0 : Int), ((0 : Int), ByteArray.empty))).1), .val (.int .i64 (List.getD ins_2 (Int.toNat t_27) ((0 : Int), ((0 : Int), ByteArray.empty))).2.1), .val (.string (List.getD ins_2 (Int.toNat t_27) ((0 : Int), ((0 : Int), ByteArray.empty))).2.2)]), (14, .row (.pair (.int .i64) (.pair (.int .i64) .str)) r_84)], 15⟩ [] (by kernel_rfl) rfl rfl ap0 ?_
              refine VL_block ?_
              refine V_to [(4, .c (.h 1)), (7, .c (.h 18)), (8, .c (.h 3)), (10, .c (.h 13)), (11, .c (.val (.int .i64 (List.getD ins_2 (Int.toNat t_27) ((0 : Int), ((0 : Int), ByteArray.empty))).1))), (36, .c (.imm (.slice (.pair (.int .i64) (.pair (.int .i64) .str))) ins_2)), (37, .c (.val (.int .i64 (((List.length ins_2) : Nat) : Int)))), (38, .c (.val (.int .i64 t_27)))] [(1, .box [.val (.int .i64 (0 : Int)), .val (.slice none 0 0)]), (3, .box [.val (.int .i64 ins_1), .h 19]), (13, .box [.val (.int .i64 (List.getD ins_2 (Int.toNat t_27) ((0 : Int), ((0 : Int), ByteArray.empty))).1), .val (.int .i64 (List.getD ins_2 (Int.toNat t_27) ((0 : Int), ((0 : Int), ByteArray.empty))).2.1), .val (.string (List.getD ins_2 (Int.toNat t_27) ((0 : Int), ((0 : Int), ByteArray.empty))).2.2)]), (18, .row (.pair (.int .i64) (.int .i64)) l_77), (19, .row (.pair (.int .i64) (.pair (.int .i64) .str)) r_84)] [(1, 1), (3, 3), (13, 13), (18, 11), (19, 14)] hn (by kernel_rfl) (by kernel_rfl) rfl rfl rfl ?_
              refine VL_loop (X := ((List (Int × Int)) × (List (Int × (Int × ByteArray))) × Int)) (fun x => [(4, .c (.h 1)), (7, .c (.h 18)), (8, .c (.h 3)), (10, .c (.h 13)), (11, .c (.val (.int .i64 x.2.2))), (36, .c (.imm (.slice (.pair (.int .i64) (.pair (.int .i64) .str))) ins_2)), (37, .c (.val (.int .i64 (((List.length ins_2) : Nat) : Int)))), (38, .c (.val (.int .i64 t_27)))]) (fun x => [(1, .box [.val (.int .i64 (0 : Int)), .val (.slice none 0 0)]), (3, .box [.val (.int .i64 ins_1), .h 19]), (13, .box [.val (.int .i64 (List.getD ins_2 (Int.toNat t_27) ((0 : Int), ((0 : Int), ByteArray.empty))).1), .val (.int .i64 (List.getD ins_2 (Int.toNat t_27) ((0 : Int), ((0 : Int), ByteArray.empty))).2.1), .val (.string (List.getD ins_2 (Int.toNat t_27) ((0 : Int), ((0 : Int), ByteArray.empty))).2.2)]), (18, .row (.pair (.int .i64) (.int .i64)) x.1), (19, .row (.pair (.int .i64) (.pair (.int .i64) .str)) x.2.1)]) (fun k x => factor_Join.l1 K ins_2 t_27 ins_1 k x.1 x.2.1 x.2.2 = some q_168) K (l_77, r_84, (List.getD ins_2 (Int.toNat t_27) ((0 : Int), ((0 : Int), ByteArray.empty))).1) H_173 (fun _ h => no_none h) ?_
              intro k_108 x_108 H_174
              obtain ⟨l_106, x_107, at_88⟩ := x_108
              have H_175 : factor_Join.l1 K ins_2 t_27 ins_1 (k_108 + 1) l_106 x_107 at_88 = some q_168 := H_174
              rw [factor_Join.l1] at H_175
              refine V_run hN hn 3 20 [4, 7, 8, 10, 11, 36, 37, 38, 51] [1, 3, 13, 18, 19] ⟨[(4, .c (.h 1)), (7, .c (.h 18)), (8, .c (.h 3)), (10, .c (.h 13)), (11, .c (.val (.int .i64 at_88))), (36, .c (.imm (.slice (.pair (.int .i64) (.pair (.int .i64) .str))) ins_2)), (37, .c (.val (.int .i64 (((List.length ins_2) : Nat) : Int)))), (38, .c (.val (.int .i64 t_27))), (51, .c (.val (.bool (decide (at_88 < (List.getD ins_2 (Int.toNat t_27) ((0 : Int), ((0 : Int), ByteArray.empty))).2.1)))))], [(1, .box [.val (.int .i64 (0 : Int)), .val (.slice none 0 0)]), (3, .box [.val (.int .i64 ins_1), .h 19]), (13, .box [.val (.int .i64 (List.getD ins_2 (Int.toNat t_27) ((0 : Int), ((0 : Int), ByteArray.empty))).1), .val (.int .i64 (List.getD ins_2 (Int.toNat t_27) ((0 : Int), ((0 : Int), ByteArray.empty))).2.1), .val (.string (List.getD ins_2 (Int.toNat t_27) ((0 : Int), ((0 : Int), ByteArray.empty))).2.2)]), (18, .row (.pair (.int .i64) (.int .i64)) l_106), (19, .row (.pair (.int .i64) (.pair (.int .i64) .str)) x_107)], 20⟩ [] (by kernel_rfl) rfl rfl ap0 ?_
              refine VL_cond ((decide (at_88 < (List.getD ins_2 (Int.toNat t_27) ((0 : Int), ((0 : Int), ByteArray.empty))).2.1))) (by kernel_rfl) ?_ ?_
              · intro b_110; have H_176 := of_t H_175 b_110
                refine V_run hN hn 1 20 [4, 7, 8, 10, 11, 36, 37, 38, 51] [1, 3, 13, 18, 19] ⟨[(4, .c (.h 1)), (7, .c (.h 18)), (8, .c (.h 3)), (10, .c (.h 13)), (11, .c (.val (.int .i64 at_88))), (36, .c (.imm (.slice (.pair (.int .i64) (.pair (.int .i64) .str))) ins_2)), (37, .c (.val (.int .i64 (((List.length ins_2) : Nat) : Int)))), (38, .c (.val (.int .i64 t_27))), (51, .c (.val (.bool (decide (at_88 < (List.getD ins_2 (Int.toNat t_27) ((0 : Int), ((0 : Int), ByteArray.empty))).2.1)))))], [(1, .box [.val (.int .i64 (0 : Int)), .val (.slice none 0 0)]), (3, .box [.val (.int .i64 ins_1), .h 19]), (13, .box [.val (.int .i64 (List.getD ins_2 (Int.toNat t_27) ((0 : Int), ((0 : Int), ByteArray.empty))).1), .val (.int .i64 (List.getD ins_2 (Int.toNat t_27) ((0 : Int), ((0 : Int), ByteArray.empty))).2.1), .val (.string (List.getD ins_2 (Int.toNat t_27) ((0 : Int), ((0 : Int), ByteArray.empty))).2.2)]), (18, .row (.pair (.int .i64) (.int .i64)) l_106), (19, .row (.pair (.int .i64) (.pair (.int .i64) .str)) x_107)], 20⟩ [] (by kernel_rfl) rfl rfl ap0 ?_
                refine VL_block ?_
                refine V_run hN hn 1 20 [4, 7, 8, 10, 11, 36, 37, 38, 51] [1, 3, 13, 18, 19] ⟨[(4, .c (.h 1)), (7, .c (.h 18)), (8, .c (.h 3)), (10, .c (.h 13)), (11, .c (.val (.int .i64 at_88))), (36, .c (.imm (.slice (.pair (.int .i64) (.pair (.int .i64) .str))) ins_2)), (37, .c (.val (.int .i64 (((List.length ins_2) : Nat) : Int)))), (38, .c (.val (.int .i64 t_27))), (51, .c (.val (.bool (decide (at_88 < (List.getD ins_2 (Int.toNat t_27) ((0 : Int), ((0 : Int), ByteArray.empty))).2.1)))))], [(1, .box [.val (.int .i64 (0 : Int)), .val (.slice none 0 0)]), (3, .box [.val (.int .i64 ins_1), .h 19]), (13, .box [.val (.int .i64 (List.getD ins_2 (Int.toNat t_27) ((0 : Int), ((0 : Int), ByteArray.empty))).1), .val (.int .i64 (List.getD ins_2 (Int.toNat t_27) ((0 : Int), ((0 : Int), ByteArray.empty))).2.1), .val (.string (List.getD ins_2 (Int.toNat t_27) ((0 : Int), ((0 : Int), ByteArray.empty))).2.2)]), (18, .row (.pair (.int .i64) (.int .i64)) l_106), (19, .row (.pair (.int .i64) (.pair (.int .i64) .str)) x_107)], 20⟩ [] (by kernel_rfl) rfl rfl ap0 ?_
                obtain ⟨c_113, H_178⟩ := of_if H_176
                refine V_draw hN hn (by kernel_rfl) [] [] calls_nil 20 [4, 7, 8, 10, 11, 12, 36, 37, 38] [1, 3, 13, 18, 19] ⟨[(4, .c (.h 1)), (7, .c (.h 18)), (8, .c (.h 3)), (10, .c (.h 13)), (11, .c (.val (.int .i64 at_88))), (12, .c (.val (.int .i64 (mn2 (List.getD l_106 0 ((0 : Int), (0 : Int))).1 (IntKind.wrap .i64 ((List.getD ins_2 (Int.toNat t_27) ((0 : Int), ((0 : Int), ByteArray.empty))).2.1 - at_88)))))), (36, .c (.imm (.slice (.pair (.int .i64) (.pair (.int .i64) .str))) ins_2)), (37, .c (.val (.int .i64 (((List.length ins_2) : Nat) : Int)))), (38, .c (.val (.int .i64 t_27)))], [(1, .box [.val (.int .i64 (0 : Int)), .val (.slice none 0 0)]), (3, .box [.val (.int .i64 ins_1), .h 19]), (13, .box [.val (.int .i64 (List.getD ins_2 (Int.toNat t_27) ((0 : Int), ((0 : Int), ByteArray.empty))).1), .val (.int .i64 (List.getD ins_2 (Int.toNat t_27) ((0 : Int), ((0 : Int), ByteArray.empty))).2.1), .val (.string (List.getD ins_2 (Int.toNat t_27) ((0 : Int), ((0 : Int), ByteArray.empty))).2.2)]), (18, .row (.pair (.int .i64) (.int .i64)) l_106), (19, .row (.pair (.int .i64) (.pair (.int .i64) .str)) x_107)], 20⟩ [(0 : Int) ≤ (0 : Int), (0 : Int) < (((List.length l_106) : Nat) : Int)] (by kernel_rfl) rfl rfl (ap2 (by decide) (ap1 c_113)) (by kernel_rfl) (by kernel_rfl) ?_
                refine V_run hN hn 3 20 [4, 7, 8, 10, 11, 12, 36, 37, 38, 65] [1, 3, 13, 18, 19] ⟨[(4, .c (.h 1)), (7, .c (.h 18)), (8, .c (.h 3)), (10, .c (.h 13)), (11, .c (.val (.int .i64 at_88))), (12, .c (.val (.int .i64 (mn2 (List.getD l_106 0 ((0 : Int), (0 : Int))).1 (IntKind.wrap .i64 ((List.getD ins_2 (Int.toNat t_27) ((0 : Int), ((0 : Int), ByteArray.empty))).2.1 - at_88)))))), (36, .c (.imm (.slice (.pair (.int .i64) (.pair (.int .i64) .str))) ins_2)), (37, .c (.val (.int .i64 (((List.length ins_2) : Nat) : Int)))), (38, .c (.val (.int .i64 t_27))), (65, .c (.val (.bool ((List.getD l_106 0 ((0 : Int), (0 : Int))).2 == (0 : Int)))))], [(1, .box [.val (.int .i64 (0 : Int)), .val (.slice none 0 0)]), (3, .box [.val (.int .i64 ins_1), .h 19]), (13, .box [.val (.int .i64 (List.getD ins_2 (Int.toNat t_27) ((0 : Int), ((0 : Int), ByteArray.empty))).1), .val (.int .i64 (List.getD ins_2 (Int.toNat t_27) ((0 : Int), ((0 : Int), ByteArray.empty))).2.1), .val (.string (List.getD ins_2 (Int.toNat t_27) ((0 : Int), ((0 : Int), ByteArray.empty))).2.2)]), (18, .row (.pair (.int .i64) (.int .i64)) l_106), (19, .row (.pair (.int .i64) (.pair (.int .i64) .str)) x_107)], 20⟩ [(0 : Int) ≤ (0 : Int), (0 : Int) < (((List.length l_106) : Nat) : Int)] (by kernel_rfl) rfl rfl (ap2 (by decide) (ap1 c_113)) ?_
                obtain ⟨q_179, H_180, H_181⟩ := of_bind H_178
                refine V_cut (Y := (List (Int × (Int × ByteArray)))) (R := (List (Int × (Int × ByteArray)))) q_179 (fun y => y) (fun y => [(4, .c (.h 1)), (7, .c (.h 18)), (8, .c (.h 3)), (10, .c (.h 13)), (11, .c (.val (.int .i64 at_88))), (12, .c (.val (.int .i64 (mn2 (List.getD l_106 0 ((0 : Int), (0 : Int))).1 (IntKind.wrap .i64 ((List.getD ins_2 (Int.toNat t_27) ((0 : Int), ((0 : Int), ByteArray.empty))).2.1 - at_88)))))), (36, .c (.imm (.slice (.pair (.int .i64) (.pair (.int .i64) .str))) ins_2)), (37, .c (.val (.int .i64 (((List.length ins_2) : Nat) : Int)))), (38, .c (.val (.int .i64 t_27)))]) (fun y => [(1, .box [.val (.int .i64 (0 : Int)), .val (.slice none 0 0)]), (3, .box [.val (.int .i64 ins_1), .h 21]), (13, .box [.val (.int .i64 (List.getD ins_2 (Int.toNat t_27) ((0 : Int), ((0 : Int), ByteArray.empty))).1), .val (.int .i64 (List.getD ins_2 (Int.toNat t_27) ((0 : Int), ((0 : Int), ByteArray.empty))).2.1), .val (.string (List.getD ins_2 (Int.toNat t_27) ((0 : Int), ((0 : Int), ByteArray.empty))).2.2)]), (18, .row (.pair (.int .i64) (.int .i64)) l_106), (21, .row (.pair (.int .i64) (.pair (.int .i64) .str)) y)]) ?_ ?_
                · skip
                  refine VL_cond (((List.getD l_106 0 ((0 : Int), (0 : Int))).2 == (0 : Int))) (by kernel_rfl) ?_ ?_
                  · intro b_115; have H_183 := of_t H_180 b_115
                    obtain ⟨r_116, h_117, H_185⟩ := of_bind H_183
                    refine V_reg hN hn [(5, ⟨41, 2, [.c (.h 0), .c (.val (.int .i64 at_88)), .c (.val (.int .i64 (IntKind.wrap .i64 (at_88 + (mn2 (List.getD l_106 0 ((0 : Int), (0 : Int))).1 (IntKind.wrap .i64 ((List.getD ins_2 (Int.toNat t_27) ((0 : Int), ((0 : Int), ByteArray.empty))).2.1 - at_88)))))))], [(0, .box [.val (.int .i64 ins_1), .h 1]), (1, .row (.pair (.int .i64) (.pair (.int .i64) .str)) x_107)], .tup [], [(0, .box [.val (.int .i64 ins_1), .h 4]), (4, .row (.pair (.int .i64) (.pair (.int .i64) .str)) r_116)], [(0, 3), (1, 19), (4, 20)], 21⟩)] [] (calls_cons (delta_Maker_Copy_bgg_11dec_spec K ins_1 x_107 at_88 (IntKind.wrap .i64 (at_88 + (mn2 (List.getD l_106 0 ((0 : Int), (0 : Int))).1 (IntKind.wrap .i64 ((List.getD ins_2 (Int.toNat t_27) ((0 : Int), ((0 : Int), ByteArray.empty))).2.1 - at_88))))) r_116 h_117) (by kernel_rfl) calls_nil) 20 [4, 7, 8, 10, 11, 12, 36, 37, 38] [1, 3, 13, 18, 20] ⟨[(4, .c (.h 1)), (7, .c (.h 18)), (8, .c (.h 3)), (10, .c (.h 13)), (11, .c (.val (.int .i64 at_88))), (12, .c (.val (.int .i64 (mn2 (List.getD l_106 0 ((0 : Int), (0 : Int))).1 (IntKind.wrap .i64 ((List.getD ins_2 (Int.toNat t_27) ((0 : Int), ((0 : Int), ByteArray.empty))).2.1 - at_88)))))), (36, .c (.imm (.slice (.pair (.int .i64) (.pair (.int .i64) .str))) ins_2)), (37, .c (.val (.int .i64 (((List.length ins_2) : Nat) : Int)))), (38, .c (.val (.int .i64 t_27)))], [(1, .box [.val (.int .i64 (0 : Int)), .val (.slice none 0 0)]), (3, .box [.val (.int .i64 ins_1), .h 20]), (13, .box [.val (.int .i64 (List.getD ins_2 (Int.toNat t_27) ((0 : Int), ((0 : Int), ByteArray.empty))).1), .val (.int .i64 (List.getD ins_2 (Int.toNat t_27) ((0 : Int), ((0 : Int), ByteArray.empty))).2.1), .val (.string (List.getD ins_2 (Int.toNat t_27) ((0 : Int), ((0 : Int), ByteArray.empty))).2.2)]), (18, .row (.pair (.int .i64) (.int .i64)) l_106), (20, .row (.pair (.int .i64) (.pair (.int .i64) .str)) r_116)], 21⟩ [] (by kernel_rfl) rfl rfl ap0 (by kernel_rfl) (by kernel_rfl) ?_
                    have H_186 := Option.some.inj (show some r_116 = some q_179 from H_185); subst H_186
                    refine VL_nil ?_
                    exact QP_end r_116 rfl [(1, 1), (3, 3), (13, 13), (18, 18), (21, 20)] hn (by kernel_rfl) (by kernel_rfl) rfl rfl rfl
                  · intro b_115; have H_184 := of_f H_180 b_115
                    refine V_run hN hn 1 20 [4, 7, 8, 10, 11, 12, 36, 37, 38, 65] [1, 3, 13, 18, 19] ⟨[(4, .c (.h 1)), (7, .c (.h 18)), (8, .c (.h 3)), (10, .c (.h 13)), (11, .c (.val (.int .i64 at_88))), (12, .c (.val (.int .i64 (mn2 (List.getD l_106 0 ((0 : Int), (0 : Int))).1 (IntKind.wrap .i64 ((List.getD ins_2 (Int.toNat t_27) ((0 : Int), ((0 : Int), ByteArray.empty))).2.1 - at_88)))))), (36, .c (.imm (.slice (.pair (.int .i64) (.pair (.int .i64) .str))) ins_2)), (37, .c (.val (.int .i64 (((List.length ins_2) : Nat) : Int)))), (38, .c (.val (.int .i64 t_27))), (65, .c (.val (.bool ((List.getD l_106 0 ((0 : Int), (0 : Int))).2 == (0 : Int)))))], [(1, .box [.val (.int .i64 (0 : Int)), .val (.slice none 0 0)]), (3, .box [.val (.int .i64 ins_1), .h 19]), (13, .box [.val (.int .i64 (List.getD ins_2 (Int.toNat t_27) ((0 : Int), ((0 : Int), ByteArray.empty))).1), .val (.int .i64 (List.getD ins_2 (Int.toNat t_27) ((0 : Int), ((0 : Int), ByteArray.empty))).2.1), .val (.string (List.getD ins_2 (Int.toNat t_27) ((0 : Int), ((0 : Int), ByteArray.empty))).2.2)]), (18, .row (.pair (.int .i64) (.int .i64)) l_106), (19, .row (.pair (.int .i64) (.pair (.int .i64) .str)) x_107)], 20⟩ [] (by kernel_rfl) rfl rfl ap0 ?_
                    have H_187 := Option.some.inj (show some x_107 = some q_179 from H_184); subst H_187
                    refine VL_nil ?_
                    exact QP_end x_107 rfl [(1, 1), (3, 3), (13, 13), (18, 18), (21, 19)] hn (by kernel_rfl) (by kernel_rfl) rfl rfl rfl
                · intro y_182 hy; subst hy
                  skip
                  skip
                  obtain ⟨c_121, H_188⟩ := of_if H_181
                  refine V_run hN hn 6 22 [4, 7, 8, 10, 11, 36, 37, 38, 87] [1, 3, 13, 18, 21] ⟨[(4, .c (.h 1)), (7, .c (.h 18)), (8, .c (.h 3)), (10, .c (.h 13)), (11, .c (.val (.int .i64 (IntKind.wrap .i64 (at_88 + (mn2 (List.getD l_106 0 ((0 : Int), (0 : Int))).1 (IntKind.wrap .i64 ((List.getD ins_2 (Int.toNat t_27) ((0 : Int), ((0 : Int), ByteArray.empty))).2.1 - at_88)))))))), (36, .c (.imm (.slice (.pair (.int .i64) (.pair (.int .i64) .str))) ins_2)), (37, .c (.val (.int .i64 (((List.length ins_2) : Nat) : Int)))), (38, .c (.val (.int .i64 t_27))), (87, .c (.val (.bool ((List.getD (List.set l_106 0 ((IntKind.wrap .i64 ((List.getD l_106 0 ((0 : Int), (0 : Int))).1 - (mn2 (List.getD l_106 0 ((0 : Int), (0 : Int))).1 (IntKind.wrap .i64 ((List.getD ins_2 (Int.toNat t_27) ((0 : Int), ((0 : Int), ByteArray.empty))).2.1 - at_88))))), (List.getD l_106 0 ((0 : Int), (0 : Int))).2)) 0 ((0 : Int), (0 : Int))).1 == (0 : Int)))))], [(1, .box [.val (.int .i64 (0 : Int)), .val (.slice none 0 0)]), (3, .box [.val (.int .i64 ins_1), .h 21]), (13, .box [.val (.int .i64 (List.getD ins_2 (Int.toNat t_27) ((0 : Int), ((0 : Int), ByteArray.empty))).1), .val (.int .i64 (List.getD ins_2 (Int.toNat t_27) ((0 : Int), ((0 : Int), ByteArray.empty))).2.1), .val (.string (List.getD ins_2 (Int.toNat t_27) ((0 : Int), ((0 : Int), ByteArray.empty))).2.2)]), (18, .row (.pair (.int .i64) (.int .i64)) (List.set l_106 0 ((IntKind.wrap .i64 ((List.getD l_106 0 ((0 : Int), (0 : Int))).1 - (mn2 (List.getD l_106 0 ((0 : Int), (0 : Int))).1 (IntKind.wrap .i64 ((List.getD ins_2 (Int.toNat t_27) ((0 : Int), ((0 : Int), ByteArray.empty))).2.1 - at_88))))), (List.getD l_106 0 ((0 : Int), (0 : Int))).2))), (21, .row (.pair (.int .i64) (.pair (.int .i64) .str)) y_182)], 22⟩ [(0 : Int) ≤ (0 : Int), (0 : Int) < (((List.length l_106) : Nat) : Int), (0 : Int) ≤ (0 : Int), (0 : Int) < (((List.length l_106) : Nat) : Int), (0 : Int) ≤ (0 : Int), (0 : Int) < (((List.length (List.set l_106 0 ((IntKind.wrap .i64 ((List.getD l_106 0 ((0 : Int), (0 : Int))).1 - (mn2 (List.getD l_106 0 ((0 : Int), (0 : Int))).1 (IntKind.wrap .i64 ((List.getD ins_2 (Int.toNat t_27) ((0 : Int), ((0 : Int), ByteArray.empty))).2.1 - at_88))))), (List.getD l_106 0 ((0 : Int), (0 : Int))).2))) : Nat) : Int)] (by kernel_rfl) rfl rfl (ap2 (by decide) (ap2 c_113 (ap2 (by decide) (ap2 c_113 (ap2 (by decide) (ap1 c_121)))))) ?_
                  refine VL_cond (((List.getD (List.set l_106 0 ((IntKind.wrap .i64 ((List.getD l_106 0 ((0 : Int), (0 : Int))).1 - (mn2 (List.getD l_106 0 ((0 : Int), (0 : Int))).1 (IntKind.wrap .i64 ((List.getD ins_2 (Int.toNat t_27) ((0 : Int), ((0 : Int), ByteArray.empty))).2.1 - at_88))))), (List.getD l_106 0 ((0 : Int), (0 : Int))).2)) 0 ((0 : Int), (0 : Int))).1 == (0 : Int))) (by kernel_rfl) ?_ ?_
                  · intro b_122; have H_189 := of_t H_188 b_122
                    obtain ⟨c_123, H_191⟩ := of_if H_189
                    refine V_run hN hn 1 22 [4, 7, 8, 10, 11, 36, 37, 38] [1, 3, 13, 18, 21] ⟨[(4, .c (.h 1)), (7, .c (.sub 18 2 1 ((List.length (List.set l_106 0 ((IntKind.wrap .i64 ((List.getD l_106 0 ((0 : Int), (0 : Int))).1 - (mn2 (List.getD l_106 0 ((0 : Int), (0 : Int))).1 (IntKind.wrap .i64 ((List.getD ins_2 (Int.toNat t_27) ((0 : Int), ((0 : Int), ByteArray.empty))).2.1 - at_88))))), (List.getD l_106 0 ((0 : Int), (0 : Int))).2))) - 1))), (8, .c (.h 3)), (10, .c (.h 13)), (11, .c (.val (.int .i64 (IntKind.wrap .i64 (at_88 + (mn2 (List.getD l_106 0 ((0 : Int), (0 : Int))).1 (IntKind.wrap .i64 ((List.getD ins_2 (Int.toNat t_27) ((0 : Int), ((0 : Int), ByteArray.empty))).2.1 - at_88)))))))), (36, .c (.imm (.slice (.pair (.int .i64) (.pair (.int .i64) .str))) ins_2)), (37, .c (.val (.int .i64 (((List.length ins_2) : Nat) : Int)))), (38, .c (.val (.int .i64 t_27)))], [(1, .box [.val (.int .i64 (0 : Int)), .val (.slice none 0 0)]), (3, .box [.val (.int .i64 ins_1), .h 21]), (13, .box [.val (.int .i64 (List.getD ins_2 (Int.toNat t_27) ((0 : Int), ((0 : Int), ByteArray.empty))).1), .val (.int .i64 (List.getD ins_2 (Int.toNat t_27) ((0 : Int), ((0 : Int), ByteArray.empty))).2.1), .val (.string (List.getD ins_2 (Int.toNat t_27) ((0 : Int), ((0 : Int), ByteArray.empty))).2.2)]), (18, .row (.pair (.int .i64) (.int .i64)) (List.set l_106 0 ((IntKind.wrap .i64 ((List.getD l_106 0 ((0 : Int), (0 : Int))).1 - (mn2 (List.getD l_106 0 ((0 : Int), (0 : Int))).1 (IntKind.wrap .i64 ((List.getD ins_2 (Int.toNat t_27) ((0 : Int), ((0 : Int), ByteArray.empty))).2.1 - at_88))))), (List.getD l_106 0 ((0 : Int), (0 : Int))).2))), (21, .row (.pair (.int .i64) (.pair (.int .i64) .str)) y_182)], 22⟩ [(0 : Int) ≤ (1 : Int), (1 : Int) ≤ (((List.length (List.set l_106 0 ((IntKind.wrap .i64 ((List.getD l_106 0 ((0 : Int), (0 : Int))).1 - (mn2 (List.getD l_106 0 ((0 : Int), (0 : Int))).1 (IntKind.wrap .i64 ((List.getD ins_2 (Int.toNat t_27) ((0 : Int), ((0 : Int), ByteArray.empty))).2.1 - at_88))))), (List.getD l_106 0 ((0 : Int), (0 : Int))).2))) : Nat) : Int)] (by kernel_rfl) rfl rfl (ap2 (by decide) (ap1 c_123)) ?_
                    refine VL_nil (QB_end ?_)
                    refine VL_nil ?_
                    refine P_ghost [.own 7] 22 hn [4, 7, 8, 10, 11, 36, 37, 38] [1, 3, 13, 21, 22] ⟨[(4, .c (.h 1)), (7, .c (.h 22)), (8, .c (.h 3)), (10, .c (.h 13)), (11, .c (.val (.int .i64 (IntKind.wrap .i64 (at_88 + (mn2 (List.getD l_106 0 ((0 : Int), (0 : Int))).1 (IntKind.wrap .i64 ((List.getD ins_2 (Int.toNat t_27) ((0 : Int), ((0 : Int), ByteArray.empty))).2.1 - at_88)))))))), (36, .c (.imm (.slice (.pair (.int .i64) (.pair (.int .i64) .str))) ins_2)), (37, .c (.val (.int .i64 (((List.length ins_2) : Nat) : Int)))), (38, .c (.val (.int .i64 t_27)))], [(1, .box [.val (.int .i64 (0 : Int)), .val (.slice none 0 0)]), (3, .box [.val (.int .i64 ins_1), .h 21]), (13, .box [.val (.int .i64 (List.getD ins_2 (Int.toNat t_27) ((0 : Int), ((0 : Int), ByteArray.empty))).1), .val (.int .i64 (List.getD ins_2 (Int.toNat t_27) ((0 : Int), ((0 : Int), ByteArray.empty))).2.1), .val (.string (List.getD ins_2 (Int.toNat t_27) ((0 : Int), ((0 : Int), ByteArray.empty))).2.2)]), (21, .row (.pair (.int .i64) (.pair (.int .i64) .str)) y_182), (22, .row (.pair (.int .i64) (.int .i64)) (List.take ((List.length (List.set l_106 0 ((IntKind.wrap .i64 ((List.getD l_106 0 ((0 : Int), (0 : Int))).1 - (mn2 (List.getD l_106 0 ((0 : Int), (0 : Int))).1 (IntKind.wrap .i64 ((List.getD ins_2 (Int.toNat t_27) ((0 : Int), ((0 : Int), ByteArray.empty))).2.1 - at_88))))), (List.getD l_106 0 ((0 : Int), (0 : Int))).2))) - 1) (List.drop 1 (List.set l_106 0 ((IntKind.wrap .i64 ((List.getD l_106 0 ((0 : Int), (0 : Int))).1 - (mn2 (List.getD l_106 0 ((0 : Int), (0 : Int))).1 (IntKind.wrap .i64 ((List.getD ins_2 (Int.toNat t_27) ((0 : Int), ((0 : Int), ByteArray.empty))).2.1 - at_88))))), (List.getD l_106 0 ((0 : Int), (0 : Int))).2)))))], 23⟩ (by kernel_rfl) rfl rfl ?_
                    exact V_roundEnd ((List.take ((List.length (List.set l_106 0 ((IntKind.wrap .i64 ((List.getD l_106 0 ((0 : Int), (0 : Int))).1 - (mn2 (List.getD l_106 0 ((0 : Int), (0 : Int))).1 (IntKind.wrap .i64 ((List.getD ins_2 (Int.toNat t_27) ((0 : Int), ((0 : Int), ByteArray.empty))).2.1 - at_88))))), (List.getD l_106 0 ((0 : Int), (0 : Int))).2))) - 1) (List.drop 1 (List.set l_106 0 ((IntKind.wrap .i64 ((List.getD l_106 0 ((0 : Int), (0 : Int))).1 - (mn2 (List.getD l_106 0 ((0 : Int), (0 : Int))).1 (IntKind.wrap .i64 ((List.getD ins_2 (Int.toNat t_27) ((0 : Int), ((0 : Int), ByteArray.empty))).2.1 - at_88))))), (List.getD l_106 0 ((0 : Int), (0 : Int))).2)))), y_182, (IntKind.wrap .i64 (at_88 + (mn2 (List.getD l_106 0 ((0 : Int), (0 : Int))).1 (IntKind.wrap .i64 ((List.getD ins_2 (Int.toNat t_27) ((0 : Int), ((0 : Int), ByteArray.empty))).2.1 - at_88)))))) H_191 [(1, 1), (3, 3), (13, 13), (18, 22), (19, 21)] hn (by kernel_rfl) (by kernel_rfl) rfl rfl rfl
                  · intro b_122; have H_190 := of_f H_188 b_122
                    refine V_run hN hn 1 22 [4, 7, 8, 10, 11, 36, 37, 38, 87] [1, 3, 13, 18, 21] ⟨[(4, .c (.h 1)), (7, .c (.h 18)), (8, .c (.h 3)), (10, .c (.h 13)), (11, .c (.val (.int .i64 (IntKind.wrap .i64 (at_88 + (mn2 (List.getD l_106 0 ((0 : Int), (0 : Int))).1 (IntKind.wrap .i64 ((List.getD ins_2 (Int.toNat t_27) ((0 : Int), ((0 : Int), ByteArray.empty))).2.1 - at_88)))))))), (36, .c (.imm (.slice (.pair (.int .i64) (.pair (.int .i64) .str))) ins_2)), (37, .c (.val (.int .i64 (((List.length ins_2) : Nat) : Int)))), (38, .c (.val (.int .i64 t_27))), (87, .c (.val (.bool ((List.getD (List.set l_106 0 ((IntKind.wrap .i64 ((List.getD l_106 0 ((0 : Int), (0 : Int))).1 - (mn2 (List.getD l_106 0 ((0 : Int), (0 : Int))).1 (IntKind.wrap .i64 ((List.getD ins_2 (Int.toNat t_27) ((0 : Int), ((0 : Int), ByteArray.empty))).2.1 - at_88))))), (List.getD l_106 0 ((0 : Int), (0 : Int))).2)) 0 ((0 : Int), (0 : Int))).1 == (0 : Int)))))], [(1, .box [.val (.int .i64 (0 : Int)), .val (.slice none 0 0)]), (3, .box [.val (.int .i64 ins_1), .h 21]), (13, .box [.val (.int .i64 (List.getD ins_2 (Int.toNat t_27) ((0 : Int), ((0 : Int), ByteArray.empty))).1), .val (.int .i64 (List.getD ins_2 (Int.toNat t_27) ((0 : Int), ((0 : Int), ByteArray.empty))).2.1), .val (.string (List.getD ins_2 (Int.toNat t_27) ((0 : Int), ((0 : Int), ByteArray.empty))).2.2)]), (18, .row (.pair (.int .i64) (.int .i64)) (List.set l_106 0 ((IntKind.wrap .i64 ((List.getD l_106 0 ((0 : Int), (0 : Int))).1 - (mn2 (List.getD l_106 0 ((0 : Int), (0 : Int))).1 (IntKind.wrap .i64 ((List.getD ins_2 (Int.toNat t_27) ((0 : Int), ((0 : Int), ByteArray.empty))).2.1 - at_88))))), (List.getD l_106 0 ((0 : Int), (0 : Int))).2))), (21, .row (.pair (.int .i64) (.pair (.int .i64) .str)) y_182)], 22⟩ [] (by kernel_rfl) rfl rfl ap0 ?_
                    refine VL_nil (QB_end ?_)
                    refine VL_nil ?_
                    exact V_roundEnd ((List.set l_106 0 ((IntKind.wrap .i64 ((List.getD l_106 0 ((0 : Int), (0 : Int))).1 - (mn2 (List.getD l_106 0 ((0 : Int), (0 : Int))).1 (IntKind.wrap .i64 ((List.getD ins_2 (Int.toNat t_27) ((0 : Int), ((0 : Int), ByteArray.empty))).2.1 - at_88))))), (List.getD l_106 0 ((0 : Int), (0 : Int))).2)), y_182, (IntKind.wrap .i64 (at_88 + (mn2 (List.getD l_106 0 ((0 : Int), (0 : Int))).1 (IntKind.wrap .i64 ((List.getD ins_2 (Int.toNat t_27) ((0 : Int), ((0 : Int), ByteArray.empty))).2.1 - at_88)))))) H_190 [(1, 1), (3, 3), (13, 13), (18, 18), (19, 21)] hn (by kernel_rfl) (by kernel_rfl) rfl rfl rfl
              · intro b_110; have H_177 := of_f H_175 b_110
                refine VL_exit ?_
                refine QL_exit ?_
                refine QB_here ?_
                refine VL_nil (QB_end ?_)
                have H_192 := Option.some.inj (show some (l_106, x_107) = some q_168 from H_177); subst H_192
                refine VL_nil ?_
                exact QP_end (l_106, x_107) rfl [(1, 1), (3, 3), (18, 18), (19, 19)] hn (by kernel_rfl) (by kernel_rfl) rfl rfl rfl
            · intro y_171 hy; subst hy
              obtain ⟨l_125, x_126⟩ := y_171
              refine V_run hN hn 1 20 [4, 7, 8, 36, 37, 38] [1, 3, 18, 19] ⟨[(4, .c (.h 1)), (7, .c (.h 18)), (8, .c (.h 3)), (36, .c (.imm (.slice (.pair (.int .i64) (.pair (.int .i64) .str))) ins_2)), (37, .c (.val (.int .i64 (((List.length ins_2) : Nat) : Int)))), (38, .c (.val (.int .i64 (IntKind.wrap .i64 (t_27 + (1 : Int))))))], [(1, .box [.val (.int .i64 (0 : Int)), .val (.slice none 0 0)]), (3, .box [.val (.int .i64 ins_1), .h 19]), (18, .row (.pair (.int .i64) (.int .i64)) l_125), (19, .row (.pair (.int .i64) (.pair (.int .i64) .str)) x_126)], 20⟩ [] (by kernel_rfl) rfl rfl ap0 ?_
              refine VL_nil ?_
              exact V_roundEnd (l_125, x_126, (IntKind.wrap .i64 (t_27 + (1 : Int)))) H_170 [(1, 1), (3, 3), (11, 18), (12, 19)] hn (by kernel_rfl) (by kernel_rfl) rfl rfl rfl
          · intro b_81; have H_167 := of_f H_165 b_81
            refine VL_exit ?_
            refine QL_exit ?_
            refine QB_here ?_
            have H_193 := Option.some.inj (show some x_78 = some q_160 from H_167); subst H_193
            refine VL_nil ?_
            exact QP_end x_78 rfl [(1, 1), (3, 3), (12, 12)] hn (by kernel_rfl) (by kernel_rfl) rfl rfl rfl
        · intro y_163 hy; subst hy
          skip
          skip
          refine V_run hN hn 1 13 [4, 8] [1, 3, 12] ⟨[(4, .c (.h 1)), (8, .c (.h 3))], [(1, .box [.val (.int .i64 (0 : Int)), .val (.slice none 0 0)]), (3, .box [.val (.int .i64 ins_1), .h 12]), (12, .row (.pair (.int .i64) (.pair (.int .i64) .str)) y_163)], 13⟩ [] (by kernel_rfl) rfl rfl ap0 ?_
          refine V_ghost [.shut 12] 13 hn [4, 8] [1, 3] ⟨[(4, .c (.h 1)), (8, .c (.h 3))], [(1, .box [.val (.int .i64 (0 : Int)), .val (.slice none 0 0)]), (3, .box [.val (.int .i64 ins_1), .imm (.slice (.pair (.int .i64) (.pair (.int .i64) .str))) y_163])], 13⟩ (by kernel_rfl) rfl rfl ?_
          obtain ⟨r_130, h_131, H_194⟩ := of_bind H_162
          refine V_reg hN hn [(1, ⟨43, 1, [.c (.h 0)], [(0, .box [.val (.int .i64 ins_1), .imm (.slice (.pair (.int .i64) (.pair (.int .i64) .str))) y_163])], .tup [(true, [.val (.int .i64 r_130.1), .imm (.slice (.pair (.int .i64) (.pair (.int .i64) .str))) r_130.2.1]), (false, [.val (.int .i64 r_130.2.2)])], [(0, .box [.val (.int .i64 ins_1), .imm (.slice (.pair (.int .i64) (.pair (.int .i64) .str))) y_163])], [(0, 3)], 13⟩)] [] (calls_cons (delta_Maker_Delta_b_ee1c6_spec K ins_1 y_163 r_130 h_131) (by kernel_rfl) calls_nil) 13 [4, 5] [1] ⟨[(4, .c (.h 1)), (5, .c (.val (.int .i64 r_130.2.2)))], [(1, .box [.val (.int .i64 r_130.1), .imm (.slice (.pair (.int .i64) (.pair (.int .i64) .str))) r_130.2.1])], 13⟩ [] (by kernel_rfl) rfl rfl ap0 (by kernel_rfl) (by kernel_rfl) ?_
          have H_195 := Option.some.inj (show some (r_130.1, r_130.2.1, r_130.2.2) = some r from H_194); subst H_195
          refine VL_ret ?_
          exact P_to [(4, .c (.h 1)), (5, .c (.val (.int .i64 r_130.2.2)))] [(1, .box [.val (.int .i64 r_130.1), .imm (.slice (.pair (.int .i64) (.pair (.int .i64) .str))) r_130.2.1])] [(1, 1)] hn (by kernel_rfl) (by kernel_rfl) rfl rfl rfl (QF_retS (by kernel_rfl) (by kernel_rfl) rfl)

theorem factor_Inserted_spec (K : Nat) (d_1 : Int) (d_2 : (List (Int × (Int × ByteArray)))) (r : ((Option ((List (Int × Int)) × Int)) × Int)) (H : factor_Inserted K d_1 d_2 = some r) : Spec Try.prog 11 0 [.agg [.val (.int .i64 d_1), .imm (.slice (.pair (.int .i64) (.pair (.int .i64) .str))) d_2]] [] (.tup [(false, [.imm (.opt (.pair (.slice (.pair (.int .i64) (.int .i64))) (.int .i64))) r.1]), (false, [.val (.int .i64 r.2)])]) [] := by
  refine Spec_mk (fn := Try.f11) (c := (Try.f11.body).get!) Try.func11 (by kernel_rfl) rfl ?_
  intro C hN hn
  replace hN : C.N = 35 := hN
  unfold factor_Inserted at H
  refine V_run hN hn 4 0 [1] [0] ⟨[(1, .c (.h 0))], [(0, .box [.val (.int .i64 d_1), .imm (.slice (.pair (.int .i64) (.pair (.int .i64) .str))) d_2])], 1⟩ [] (by kernel_rfl) rfl rfl ap0 ?_
  obtain ⟨r_4, h_5, H_32⟩ := of_bind H
  refine V_reg hN hn [(1, ⟨44, 0, [.agg [.val (.int .i64 d_1), .imm (.slice (.pair (.int .i64) (.pair (.int .i64) .str))) d_2]], [], .c (.val (.bool r_4)), [], [], 1⟩)] [] (calls_cons (delta_Is_spec K d_1 d_2 r_4 h_5) (by kernel_rfl) calls_nil) 1 [1, 9] [0] ⟨[(1, .c (.h 0)), (9, .c (.val (.bool (!r_4))))], [(0, .box [.val (.int .i64 d_1), .imm (.slice (.pair (.int .i64) (.pair (.int .i64) .str))) d_2])], 1⟩ [] (by kernel_rfl) rfl rfl ap0 (by kernel_rfl) (by kernel_rfl) ?_
  refine VL_cond ((!r_4)) (by kernel_rfl) ?_ ?_
  · intro b_7; have H_33 := of_t H_32 b_7
    refine V_run hN hn 2 1 [2, 3] [] ⟨[(2, .c (.val (.pointer none))), (3, .c (.val (.int .i64 (12 : Int))))], [], 1⟩ [] (by kernel_rfl) rfl rfl ap0 ?_
    have H_35 := Option.some.inj (show some ((none : (Option ((List (Int × Int)) × Int))), (12 : Int)) = some r from H_33); subst H_35
    refine VL_ret ?_
    refine P_ghost [.read 2 (.opt (.pair (.slice (.pair (.int .i64) (.int .i64))) (.int .i64)))] 1 hn [2, 3] [] ⟨[(2, .c (.imm (.opt (.pair (.slice (.pair (.int .i64) (.int .i64))) (.int .i64))) (none : (Option ((List (Int × Int)) × Int))))), (3, .c (.val (.int .i64 (12 : Int))))], [], 1⟩ (by kernel_rfl) rfl rfl ?_
    exact P_to [(2, .c (.imm (.opt (.pair (.slice (.pair (.int .i64) (.int .i64))) (.int .i64))) (none : (Option ((List (Int × Int)) × Int))))), (3, .c (.val (.int .i64 (12 : Int))))] [] [] hn (by kernel_rfl) (by kernel_rfl) rfl rfl rfl (QF_retS (by kernel_rfl) (by kernel_rfl) rfl)
  · intro b_7; have H_34 := of_f H_32 b_7
    refine V_run hN hn 6 1 [4, 11, 12, 13] [] ⟨[(4, .c (.val (.slice none 0 0))), (11, .c (.imm (.slice (.pair (.int .i64) (.pair (.int .i64) .str))) d_2)), (12, .c (.val (.int .i64 (((List.length d_2) : Nat) : Int)))), (13, .c (.val (.int .i64 (0 : Int))))], [], 1⟩ [] (by kernel_rfl) rfl rfl ap0 ?_
    obtain ⟨q_36, H_37, H_38⟩ := of_bind H_34
    refine V_cut (Y := (List (Int × Int))) (R := (List (Int × Int))) q_36 (fun y => y) (fun y => [(4, .c (.h 5))]) (fun y => [(5, .row (.pair (.int .i64) (.int .i64)) y)]) ?_ ?_
    · skip
      refine VL_block ?_
      refine V_ghost [.nilSlot 4 (.pair (.int .i64) (.int .i64))] 1 hn [4, 11, 12, 13] [1] ⟨[(4, .c (.h 1)), (11, .c (.imm (.slice (.pair (.int .i64) (.pair (.int .i64) .str))) d_2)), (12, .c (.val (.int .i64 (((List.length d_2) : Nat) : Int)))), (13, .c (.val (.int .i64 (0 : Int))))], [(1, .row (.pair (.int .i64) (.int .i64)) ([] : List (Int × Int)))], 2⟩ (by kernel_rfl) rfl rfl ?_
      refine V_to [(4, .c (.h 5)), (11, .c (.imm (.slice (.pair (.int .i64) (.pair (.int .i64) .str))) d_2)), (12, .c (.val (.int .i64 (((List.length d_2) : Nat) : Int)))), (13, .c (.val (.int .i64 (0 : Int))))] [(5, .row (.pair (.int .i64) (.int .i64)) ([] : List (Int × Int)))] [(5, 1)] hn (by kernel_rfl) (by kernel_rfl) rfl rfl rfl ?_
      refine VL_loop (X := ((List (Int × Int)) × Int)) (fun x => [(4, .c (.h 5)), (11, .c (.imm (.slice (.pair (.int .i64) (.pair (.int .i64) .str))) d_2)), (12, .c (.val (.int .i64 (((List.length d_2) : Nat) : Int)))), (13, .c (.val (.int .i64 x.2)))]) (fun x => [(5, .row (.pair (.int .i64) (.int .i64)) x.1)]) (fun k x => factor_Inserted.l0 K d_2 k x.1 x.2 = some q_36) K (([] : List (Int × Int)), (0 : Int)) H_37 (fun _ h => no_none h) ?_
      intro k_18 x_18 H_40
      obtain ⟨out_17, t_10⟩ := x_18
      have H_41 : factor_Inserted.l0 K d_2 (k_18 + 1) out_17 t_10 = some q_36 := H_40
      rw [factor_Inserted.l0] at H_41
      refine V_run hN hn 3 6 [4, 11, 12, 13, 14] [5] ⟨[(4, .c (.h 5)), (11, .c (.imm (.slice (.pair (.int .i64) (.pair (.int .i64) .str))) d_2)), (12, .c (.val (.int .i64 (((List.length d_2) : Nat) : Int)))), (13, .c (.val (.int .i64 t_10))), (14, .c (.val (.bool (decide (t_10 < (((List.length d_2) : Nat) : Int))))))], [(5, .row (.pair (.int .i64) (.int .i64)) out_17)], 6⟩ [] (by kernel_rfl) rfl rfl ap0 ?_
      refine VL_cond ((decide (t_10 < (((List.length d_2) : Nat) : Int)))) (by kernel_rfl) ?_ ?_
      · intro b_20; have H_42 := of_t H_41 b_20
        refine V_run hN hn 2 6 [4, 11, 12, 13, 14] [5] ⟨[(4, .c (.h 5)), (11, .c (.imm (.slice (.pair (.int .i64) (.pair (.int .i64) .str))) d_2)), (12, .c (.val (.int .i64 (((List.length d_2) : Nat) : Int)))), (13, .c (.val (.int .i64 t_10))), (14, .c (.val (.bool (decide (t_10 < (((List.length d_2) : Nat) : Int))))))], [(5, .row (.pair (.int .i64) (.int .i64)) out_17)], 6⟩ [] (by kernel_rfl) rfl rfl ap0 ?_
        refine VL_block ?_
        obtain ⟨c_22, H_44⟩ := of_if H_42
        refine V_run hN hn 3 6 [4, 11, 12, 13] [8] ⟨[(4, .c (.h 8)), (11, .c (.imm (.slice (.pair (.int .i64) (.pair (.int .i64) .str))) d_2)), (12, .c (.val (.int .i64 (((List.length d_2) : Nat) : Int)))), (13, .c (.val (.int .i64 t_10)))], [(8, .row (.pair (.int .i64) (.int .i64)) (out_17 ++ ([((IntKind.wrap .i64 ((List.getD d_2 (Int.toNat t_10) ((0 : Int), ((0 : Int), ByteArray.empty))).2.1 - (List.getD d_2 (Int.toNat t_10) ((0 : Int), ((0 : Int), ByteArray.empty))).1)), (0 : Int)), ((((ByteArray.size (List.getD d_2 (Int.toNat t_10) ((0 : Int), ((0 : Int), ByteArray.empty))).2.2) : Nat) : Int), (1 : Int))] : List (Int × Int))))], 9⟩ [0 ≤ t_10, t_10 < (((List.length d_2) : Nat) : Int), (List.length out_17 + List.length ([((IntKind.wrap .i64 ((List.getD d_2 (Int.toNat t_10) ((0 : Int), ((0 : Int), ByteArray.empty))).2.1 - (List.getD d_2 (Int.toNat t_10) ((0 : Int), ((0 : Int), ByteArray.empty))).1)), (0 : Int)), ((((ByteArray.size (List.getD d_2 (Int.toNat t_10) ((0 : Int), ((0 : Int), ByteArray.empty))).2.2) : Nat) : Int), (1 : Int))] : List (Int × Int))) * 16 ≤ 140737488355328] (by kernel_rfl) rfl rfl (ap2 c_22.1 (ap2 c_22.2.1 (ap1 c_22.2.2))) ?_
        refine VL_nil (QB_end ?_)
        refine V_run hN hn 1 9 [4, 11, 12, 13] [8] ⟨[(4, .c (.h 8)), (11, .c (.imm (.slice (.pair (.int .i64) (.pair (.int .i64) .str))) d_2)), (12, .c (.val (.int .i64 (((List.length d_2) : Nat) : Int)))), (13, .c (.val (.int .i64 (IntKind.wrap .i64 (t_10 + (1 : Int))))))], [(8, .row (.pair (.int .i64) (.int .i64)) (out_17 ++ ([((IntKind.wrap .i64 ((List.getD d_2 (Int.toNat t_10) ((0 : Int), ((0 : Int), ByteArray.empty))).2.1 - (List.getD d_2 (Int.toNat t_10) ((0 : Int), ((0 : Int), ByteArray.empty))).1)), (0 : Int)), ((((ByteArray.size (List.getD d_2 (Int.toNat t_10) ((0 : Int), ((0 : Int), ByteArray.empty))).2.2) : Nat) : Int), (1 : Int))] : List (Int × Int))))], 9⟩ [] (by kernel_rfl) rfl rfl ap0 ?_
        refine VL_nil ?_
        exact V_roundEnd ((out_17 ++ ([((IntKind.wrap .i64 ((List.getD d_2 (Int.toNat t_10) ((0 : Int), ((0 : Int), ByteArray.empty))).2.1 - (List.getD d_2 (Int.toNat t_10) ((0 : Int), ((0 : Int), ByteArray.empty))).1)), (0 : Int)), ((((ByteArray.size (List.getD d_2 (Int.toNat t_10) ((0 : Int), ((0 : Int), ByteArray.empty))).2.2) : Nat) : Int), (1 : Int))] : List (Int × Int))), (IntKind.wrap .i64 (t_10 + (1 : Int)))) H_44 [(5, 8)] hn (by kernel_rfl) (by kernel_rfl) rfl rfl rfl
      · intro b_20; have H_43 := of_f H_41 b_20
        refine VL_exit ?_
        refine QL_exit ?_
        refine QB_here ?_
        have H_45 := Option.some.inj (show some out_17 = some q_36 from H_43); subst H_45
        refine VL_nil ?_
        exact QP_end out_17 rfl [(5, 5)] hn (by kernel_rfl) (by kernel_rfl) rfl rfl rfl
    · intro y_39 hy; subst hy
      skip
      skip
      refine V_run hN hn 1 6 [4] [5] ⟨[(4, .c (.h 5))], [(5, .row (.pair (.int .i64) (.int .i64)) y_39)], 6⟩ [] (by kernel_rfl) rfl rfl ap0 ?_
      obtain ⟨r_26, h_27, H_46⟩ := of_bind H_38
      refine V_reg hN hn [(1, ⟨45, 1, [.c (.h 0)], [(0, .row (.pair (.int .i64) (.int .i64)) y_39)], .tup [(false, [.imm (.opt (.pair (.slice (.pair (.int .i64) (.int .i64))) (.int .i64))) r_26.1]), (false, [.val (.int .i64 r_26.2)])], [(0, .row (.pair (.int .i64) (.int .i64)) y_39)], [(0, 5)], 6⟩)] [] (calls_cons (subset_Pack_r_spec K y_39 r_26 h_27) (by kernel_rfl) calls_nil) 6 [2, 3] [] ⟨[(2, .c (.imm (.opt (.pair (.slice (.pair (.int .i64) (.int .i64))) (.int .i64))) r_26.1)), (3, .c (.val (.int .i64 r_26.2)))], [], 6⟩ [] (by kernel_rfl) rfl rfl ap0 (by kernel_rfl) (by kernel_rfl) ?_
      have H_47 := Option.some.inj (show some (r_26.1, r_26.2) = some r from H_46); subst H_47
      refine VL_ret ?_
      exact P_to [(2, .c (.imm (.opt (.pair (.slice (.pair (.int .i64) (.int .i64))) (.int .i64))) r_26.1)), (3, .c (.val (.int .i64 r_26.2)))] [] [] hn (by kernel_rfl) (by kernel_rfl) rfl rfl rfl (QF_retS (by kernel_rfl) (by kernel_rfl) rfl)

theorem delta_Is_sgn_spec (K : Nat) (d_1 : Int) (r : Bool) (H : delta_Is_sgn K d_1 = some r) : Spec Try.prog 44 0 [.agg [.val (.int .i64 d_1), .val (.slice none 0 0)]] [] (.c (.val (.bool r))) [] := by
  refine Spec_mk (fn := Try.f44) (c := (Try.f44.body).get!) Try.func44 (by kernel_rfl) rfl ?_
  intro C hN hn
  replace hN : C.N = 68 := hN
  unfold delta_Is_sgn at H
  refine V_run hN hn 4 0 [1] [0] ⟨[(1, .c (.h 0))], [(0, .box [.val (.int .i64 d_1), .val (.slice none 0 0)])], 1⟩ [] (by kernel_rfl) rfl rfl ap0 ?_
  obtain ⟨q_22, H_23, H_24⟩ := of_bind H
  refine V_cut (Y := Bool) (R := Bool) q_22 (fun y => y) (fun y => [(1, .c (.h 0)), (21, .c (.val (.bool y)))]) (fun y => [(0, .box [.val (.int .i64 d_1), .val (.slice none 0 0)])]) ?_ ?_
  · skip
    rcases Bool.eq_false_or_eq_true ((decide (d_1 < (0 : Int)))) with b_3 | b_3
    · have H_26 := of_t H_23 b_3
      refine V_reg hN hn [] [(11, true)] calls_nil 1 [1, 21] [0] ⟨[(1, .c (.h 0)), (21, .c (.val (.bool true)))], [(0, .box [.val (.int .i64 d_1), .val (.slice none 0 0)])], 1⟩ [(decide (d_1 < (0 : Int))) = true] (by kernel_rfl) rfl rfl (ap1 b_3) (by kernel_rfl) (by kernel_rfl) ?_
      have H_28 := Option.some.inj (show some true = some q_22 from H_26); subst H_28
      refine VL_nil ?_
      exact QP_end true rfl [(0, 0)] hn (by kernel_rfl) (by kernel_rfl) rfl rfl rfl
    · have H_27 := of_f H_23 b_3
      rcases Bool.eq_false_or_eq_true ((decide (d_1 > (20000 : Int)))) with b_5 | b_5
      · have H_29 := of_t H_27 b_5
        refine V_reg hN hn [] [(11, false), (16, true)] calls_nil 1 [1, 21] [0] ⟨[(1, .c (.h 0)), (21, .c (.val (.bool true)))], [(0, .box [.val (.int .i64 d_1), .val (.slice none 0 0)])], 1⟩ [(decide (d_1 < (0 : Int))) = false, (decide (d_1 > (20000 : Int))) = true] (by kernel_rfl) rfl rfl (ap2 b_3 (ap1 b_5)) (by kernel_rfl) (by kernel_rfl) ?_
        have H_31 := Option.some.inj (show some true = some q_22 from H_29); subst H_31
        refine VL_nil ?_
        exact QP_end true rfl [(0, 0)] hn (by kernel_rfl) (by kernel_rfl) rfl rfl rfl
      · have H_30 := of_f H_27 b_5
        refine V_reg hN hn [] [(11, false), (16, false)] calls_nil 1 [1, 21] [0] ⟨[(1, .c (.h 0)), (21, .c (.val (.bool false)))], [(0, .box [.val (.int .i64 d_1), .val (.slice none 0 0)])], 1⟩ [(decide (d_1 < (0 : Int))) = false, (decide (d_1 > (20000 : Int))) = false] (by kernel_rfl) rfl rfl (ap2 b_3 (ap1 b_5)) (by kernel_rfl) (by kernel_rfl) ?_
        have H_32 := Option.some.inj (show some false = some q_22 from H_30); subst H_32
        refine VL_nil ?_
        exact QP_end false rfl [(0, 0)] hn (by kernel_rfl) (by kernel_rfl) rfl rfl rfl
  · intro y_25 hy; subst hy
    skip
    skip
    refine VL_cond (y_25) (by kernel_rfl) ?_ ?_
    · intro b_9; have H_33 := of_t H_24 b_9
      refine V_run hN hn 2 1 [2] [] ⟨[(2, .c (.val (.bool false)))], [], 1⟩ [] (by kernel_rfl) rfl rfl ap0 ?_
      have H_35 := Option.some.inj (show some false = some r from H_33); subst H_35
      refine VL_ret ?_
      exact P_to [(2, .c (.val (.bool false)))] [] [] hn (by kernel_rfl) (by kernel_rfl) rfl rfl rfl (QF_retS (by kernel_rfl) (by kernel_rfl) rfl)
    · intro b_9; have H_34 := of_f H_24 b_9
      refine V_run hN hn 6 1 [1, 3, 4, 23, 24, 25] [0] ⟨[(1, .c (.h 0)), (3, .c (.val (.int .i64 (0 : Int)))), (4, .c (.val (.int .i64 (0 : Int)))), (23, .c (.val (.slice none 0 0))), (24, .c (.val (.int .i64 (0 : Int)))), (25, .c (.val (.int .i64 (0 : Int))))], [(0, .box [.val (.int .i64 d_1), .val (.slice none 0 0)])], 1⟩ [] (by kernel_rfl) rfl rfl ap0 ?_
      refine VL_block ?_
      refine V_to [(1, .c (.h 0)), (3, .c (.val (.int .i64 (0 : Int)))), (4, .c (.val (.int .i64 (0 : Int)))), (23, .c (.val (.slice none 0 0))), (24, .c (.val (.int .i64 (0 : Int)))), (25, .c (.val (.int .i64 (0 : Int))))] [(0, .box [.val (.int .i64 d_1), .val (.slice none 0 0)])] [(0, 0)] hn (by kernel_rfl) (by kernel_rfl) rfl rfl rfl ?_
      refine VL_loop (X := (Int × Int × Int)) (fun x => [(1, .c (.h 0)), (3, .c (.val (.int .i64 x.1))), (4, .c (.val (.int .i64 x.2.1))), (23, .c (.val (.slice none 0 0))), (24, .c (.val (.int .i64 (0 : Int)))), (25, .c (.val (.int .i64 x.2.2)))]) (fun x => [(0, .box [.val (.int .i64 d_1), .val (.slice none 0 0)])]) (fun k x => delta_Is_sgn.l0 K k x.1 x.2.1 x.2.2 = some r) K ((0 : Int), (0 : Int), (0 : Int)) H_34 (fun _ h => no_none h) ?_
      intro k_15 x_15 H_36
      obtain ⟨size_12, to_13, t_14⟩ := x_15
      have H_37 : delta_Is_sgn.l0 K (k_15 + 1) size_12 to_13 t_14 = some r := H_36
      rw [delta_Is_sgn.l0] at H_37
      refine V_run hN hn 3 1 [1, 3, 4, 23, 24, 25, 26] [0] ⟨[(1, .c (.h 0)), (3, .c (.val (.int .i64 size_12))), (4, .c (.val (.int .i64 to_13))), (23, .c (.val (.slice none 0 0))), (24, .c (.val (.int .i64 (0 : Int)))), (25, .c (.val (.int .i64 t_14))), (26, .c (.val (.bool (decide (t_14 < (0 : Int))))))], [(0, .box [.val (.int .i64 d_1), .val (.slice none 0 0)])], 1⟩ [] (by kernel_rfl) rfl rfl ap0 ?_
      refine VL_cond ((decide (t_14 < (0 : Int)))) (by kernel_rfl) ?_ ?_
      · intro b_17; have H_38 := of_t H_37 b_17
        refine V_run hN hn 2 1 [1, 3, 4, 23, 24, 25, 26] [0] ⟨[(1, .c (.h 0)), (3, .c (.val (.int .i64 size_12))), (4, .c (.val (.int .i64 to_13))), (23, .c (.val (.slice none 0 0))), (24, .c (.val (.int .i64 (0 : Int)))), (25, .c (.val (.int .i64 t_14))), (26, .c (.val (.bool (decide (t_14 < (0 : Int))))))], [(0, .box [.val (.int .i64 d_1), .val (.slice none 0 0)])], 1⟩ [] (by kernel_rfl) rfl rfl ap0 ?_
        refine VL_block ?_
        exact (no_none H_38).elim
      · intro b_17; have H_39 := of_f H_37 b_17
        refine VL_exit ?_
        refine QL_exit ?_
        refine QB_here ?_
        refine V_run hN hn 2 1 [2] [] ⟨[(2, .c (.val (.bool true)))], [], 1⟩ [] (by kernel_rfl) rfl rfl ap0 ?_
        have H_40 := Option.some.inj (show some true = some r from H_39); subst H_40
        refine VL_ret ?_
        exact P_to [(2, .c (.val (.bool true)))] [] [] hn (by kernel_rfl) (by kernel_rfl) rfl rfl rfl (QF_retS (by kernel_rfl) (by kernel_rfl) rfl)

theorem factor_Deleted_sgn_spec (K : Nat) (d_1 : Int) (r : ((Option ((List (Int × Int)) × Int)) × Int)) (H : factor_Deleted_sgn K d_1 = some r) : Spec Try.prog 12 0 [.agg [.val (.int .i64 d_1), .val (.slice none 0 0)]] [] (.tup [(false, [.imm (.opt (.pair (.slice (.pair (.int .i64) (.int .i64))) (.int .i64))) r.1]), (false, [.val (.int .i64 r.2)])]) [] := by
  refine Spec_mk (fn := Try.f12) (c := (Try.f12.body).get!) Try.func12 (by kernel_rfl) rfl ?_
  intro C hN hn
  replace hN : C.N = 49 := hN
  unfold factor_Deleted_sgn at H
  refine V_run hN hn 4 0 [1] [0] ⟨[(1, .c (.h 0))], [(0, .box [.val (.int .i64 d_1), .val (.slice none 0 0)])], 1⟩ [] (by kernel_rfl) rfl rfl ap0 ?_
  obtain ⟨r_3, h_4, H_23⟩ := of_bind H
  refine V_reg hN hn [(1, ⟨44, 0, [.agg [.val (.int .i64 d_1), .val (.slice none 0 0)]], [], .c (.val (.bool r_3)), [], [], 1⟩)] [] (calls_cons (delta_Is_sgn_spec K d_1 r_3 h_4) (by kernel_rfl) calls_nil) 1 [1, 10] [0] ⟨[(1, .c (.h 0)), (10, .c (.val (.bool (!r_3))))], [(0, .box [.val (.int .i64 d_1), .val (.slice none 0 0)])], 1⟩ [] (by kernel_rfl) rfl rfl ap0 (by kernel_rfl) (by kernel_rfl) ?_
  refine VL_cond ((!r_3)) (by kernel_rfl) ?_ ?_
  · intro b_6; have H_24 := of_t H_23 b_6
    refine V_run hN hn 2 1 [2, 3] [] ⟨[(2, .c (.val (.pointer none))), (3, .c (.val (.int .i64 (12 : Int))))], [], 1⟩ [] (by kernel_rfl) rfl rfl ap0 ?_
    have H_26 := Option.some.inj (show some ((none : (Option ((List (Int × Int)) × Int))), (12 : Int)) = some r from H_24); subst H_26
    refine VL_ret ?_
    refine P_ghost [.read 2 (.opt (.pair (.slice (.pair (.int .i64) (.int .i64))) (.int .i64)))] 1 hn [2, 3] [] ⟨[(2, .c (.imm (.opt (.pair (.slice (.pair (.int .i64) (.int .i64))) (.int .i64))) (none : (Option ((List (Int × Int)) × Int))))), (3, .c (.val (.int .i64 (12 : Int))))], [], 1⟩ (by kernel_rfl) rfl rfl ?_
    exact P_to [(2, .c (.imm (.opt (.pair (.slice (.pair (.int .i64) (.int .i64))) (.int .i64))) (none : (Option ((List (Int × Int)) × Int))))), (3, .c (.val (.int .i64 (12 : Int))))] [] [] hn (by kernel_rfl) (by kernel_rfl) rfl rfl rfl (QF_retS (by kernel_rfl) (by kernel_rfl) rfl)
  · intro b_6; have H_25 := of_f H_23 b_6
    refine V_run hN hn 8 1 [1, 4, 5, 12, 13, 14] [0] ⟨[(1, .c (.h 0)), (4, .c (.val (.slice none 0 0))), (5, .c (.val (.int .i64 (0 : Int)))), (12, .c (.val (.slice none 0 0))), (13, .c (.val (.int .i64 (0 : Int)))), (14, .c (.val (.int .i64 (0 : Int))))], [(0, .box [.val (.int .i64 d_1), .val (.slice none 0 0)])], 1⟩ [] (by kernel_rfl) rfl rfl ap0 ?_
    obtain ⟨q_27, H_28, H_29⟩ := of_bind H_25
    refine V_cut (Y := Int) (R := Int) q_27 (fun y => y) (fun y => [(1, .c (.h 0)), (4, .c (.h 1)), (5, .c (.val (.int .i64 y)))]) (fun y => [(0, .box [.val (.int .i64 d_1), .val (.slice none 0 0)]), (1, .row (.pair (.int .i64) (.int .i64)) ([] : List (Int × Int)))]) ?_ ?_
    · skip
      refine VL_block ?_
      refine V_ghost [.nilSlot 4 (.pair (.int .i64) (.int .i64))] 1 hn [1, 4, 5, 12, 13, 14] [0, 1] ⟨[(1, .c (.h 0)), (4, .c (.h 1)), (5, .c (.val (.int .i64 (0 : Int)))), (12, .c (.val (.slice none 0 0))), (13, .c (.val (.int .i64 (0 : Int)))), (14, .c (.val (.int .i64 (0 : Int))))], [(0, .box [.val (.int .i64 d_1), .val (.slice none 0 0)]), (1, .row (.pair (.int .i64) (.int .i64)) ([] : List (Int × Int)))], 2⟩ (by kernel_rfl) rfl rfl ?_
      refine V_to [(1, .c (.h 0)), (4, .c (.h 1)), (5, .c (.val (.int .i64 (0 : Int)))), (12, .c (.val (.slice none 0 0))), (13, .c (.val (.int .i64 (0 : Int)))), (14, .c (.val (.int .i64 (0 : Int))))] [(0, .box [.val (.int .i64 d_1), .val (.slice none 0 0)]), (1, .row (.pair (.int .i64) (.int .i64)) ([] : List (Int × Int)))] [(0, 0), (1, 1)] hn (by kernel_rfl) (by kernel_rfl) rfl rfl rfl ?_
      refine VL_loop (X := (Int × Int)) (fun x => [(1, .c (.h 0)), (4, .c (.h 1)), (5, .c (.val (.int .i64 x.1))), (12, .c (.val (.slice none 0 0))), (13, .c (.val (.int .i64 (0 : Int)))), (14, .c (.val (.int .i64 x.2)))]) (fun x => [(0, .box [.val (.int .i64 d_1), .val (.slice none 0 0)]), (1, .row (.pair (.int .i64) (.int .i64)) ([] : List (Int × Int)))]) (fun k x => factor_Deleted_sgn.l0 K k x.1 x.2 = some q_27) K ((0 : Int), (0 : Int)) H_28 (fun _ h => no_none h) ?_
      intro k_11 x_11 H_31
      obtain ⟨at_9, t_10⟩ := x_11
      have H_32 : factor_Deleted_sgn.l0 K (k_11 + 1) at_9 t_10 = some q_27 := H_31
      rw [factor_Deleted_sgn.l0] at H_32
      refine V_run hN hn 3 2 [1, 4, 5, 12, 13, 14, 15] [0, 1] ⟨[(1, .c (.h 0)), (4, .c (.h 1)), (5, .c (.val (.int .i64 at_9))), (12, .c (.val (.slice none 0 0))), (13, .c (.val (.int .i64 (0 : Int)))), (14, .c (.val (.int .i64 t_10))), (15, .c (.val (.bool (decide (t_10 < (0 : Int))))))], [(0, .box [.val (.int .i64 d_1), .val (.slice none 0 0)]), (1, .row (.pair (.int .i64) (.int .i64)) ([] : List (Int × Int)))], 2⟩ [] (by kernel_rfl) rfl rfl ap0 ?_
      refine VL_cond ((decide (t_10 < (0 : Int)))) (by kernel_rfl) ?_ ?_
      · intro b_13; have H_33 := of_t H_32 b_13
        refine V_run hN hn 2 2 [1, 4, 5, 12, 13, 14, 15] [0, 1] ⟨[(1, .c (.h 0)), (4, .c (.h 1)), (5, .c (.val (.int .i64 at_9))), (12, .c (.val (.slice none 0 0))), (13, .c (.val (.int .i64 (0 : Int)))), (14, .c (.val (.int .i64 t_10))), (15, .c (.val (.bool (decide (t_10 < (0 : Int))))))], [(0, .box [.val (.int .i64 d_1), .val (.slice none 0 0)]), (1, .row (.pair (.int .i64) (.int .i64)) ([] : List (Int × Int)))], 2⟩ [] (by kernel_rfl) rfl rfl ap0 ?_
        refine VL_block ?_
        exact (no_none H_33).elim
      · intro b_13; have H_34 := of_f H_32 b_13
        refine VL_exit ?_
        refine QL_exit ?_
        refine QB_here ?_
        have H_35 := Option.some.inj (show some at_9 = some q_27 from H_34); subst H_35
        refine VL_nil ?_
        exact QP_end at_9 rfl [(0, 0), (1, 1)] hn (by kernel_rfl) (by kernel_rfl) rfl rfl rfl
    · intro y_30 hy; subst hy
      skip
      skip
      refine V_run hN hn 1 2 [1, 4, 5] [0, 1] ⟨[(1, .c (.h 0)), (4, .c (.h 1)), (5, .c (.val (.int .i64 y_30)))], [(0, .box [.val (.int .i64 d_1), .val (.slice none 0 0)]), (1, .row (.pair (.int .i64) (.int .i64)) ([] : List (Int × Int)))], 2⟩ [] (by kernel_rfl) rfl rfl ap0 ?_
      obtain ⟨r_17, h_18, H_36⟩ := of_bind H_29
      obtain ⟨c_19, H_37⟩ := of_if H_36
      refine V_reg hN hn [(8, ⟨45, 1, [.c (.h 0)], [(0, .row (.pair (.int .i64) (.int .i64)) (([] : List (Int × Int)) ++ ([((IntKind.wrap .i64 (d_1 - y_30)), (1 : Int))] : List (Int × Int))))], .tup [(false, [.imm (.opt (.pair (.slice (.pair (.int .i64) (.int .i64))) (.int .i64))) r_17.1]), (false, [.val (.int .i64 r_17.2)])], [(0, .row (.pair (.int .i64) (.int .i64)) (([] : List (Int × Int)) ++ ([((IntKind.wrap .i64 (d_1 - y_30)), (1 : Int))] : List (Int × Int))))], [(0, 3)], 4⟩)] [] (calls_cons (subset_Pack_r_spec K (([] : List (Int × Int)) ++ ([((IntKind.wrap .i64 (d_1 - y_30)), (1 : Int))] : List (Int × Int))) r_17 h_18) (by kernel_rfl) calls_nil) 2 [2, 3] [] ⟨[(2, .c (.imm (.opt (.pair (.slice (.pair (.int .i64) (.int .i64))) (.int .i64))) r_17.1)), (3, .c (.val (.int .i64 r_17.2)))], [], 4⟩ [(List.length ([] : List (Int × Int)) + List.length ([((IntKind.wrap .i64 (d_1 - y_30)), (1 : Int))] : List (Int × Int))) * 16 ≤ 140737488355328] (by kernel_rfl) rfl rfl (ap1 c_19) (by kernel_rfl) (by kernel_rfl) ?_
      have H_38 := Option.some.inj (show some (r_17.1, r_17.2) = some r from H_37); subst H_38
      refine VL_ret ?_
      exact P_to [(2, .c (.imm (.opt (.pair (.slice (.pair (.int .i64) (.int .i64))) (.int .i64))) r_17.1)), (3, .c (.val (.int .i64 r_17.2)))] [] [] hn (by kernel_rfl) (by kernel_rfl) rfl rfl rfl (QF_retS (by kernel_rfl) (by kernel_rfl) rfl)

theorem subset_Subset_Count_spec (K : Nat) (s_1 : (Option ((List (Int × Int)) × Int))) (at_2 : Int) (r : Int) (H : subset_Subset_Count K s_1 at_2 = some r) : Spec Try.prog 38 0 [.c (.imm (.opt (.pair (.slice (.pair (.int .i64) (.int .i64))) (.int .i64))) s_1), .c (.val (.int .i64 at_2))] [] (.c (.val (.int .i64 r))) [] := by
  refine Spec_mk (fn := Try.f38) (c := (Try.f38.body).get!) Try.func38 (by kernel_rfl) rfl ?_
  intro C hN hn
  replace hN : C.N = 37 := hN
  unfold subset_Subset_Count at H
  refine V_run hN hn 4 0 [0, 1] [] ⟨[(0, .c (.imm (.opt (.pair (.slice (.pair (.int .i64) (.int .i64))) (.int .i64))) s_1)), (1, .c (.val (.int .i64 at_2)))], [], 0⟩ [] (by kernel_rfl) rfl rfl ap0 ?_
  obtain ⟨q_25, H_26, H_27⟩ := of_bind H
  refine V_cut (Y := Bool) (R := Bool) q_25 (fun y => y) (fun y => [(0, .c (.imm (.opt (.pair (.slice (.pair (.int .i64) (.int .i64))) (.int .i64))) s_1)), (1, .c (.val (.int .i64 at_2))), (16, .c (.val (.bool y)))]) (fun y => []) ?_ ?_
  · skip
    rcases Bool.eq_false_or_eq_true ((decide (at_2 < (0 : Int)))) with b_4 | b_4
    · have H_29 := of_t H_26 b_4
      refine V_reg hN hn [] [(9, true)] calls_nil 0 [0, 1, 16] [] ⟨[(0, .c (.imm (.opt (.pair (.slice (.pair (.int .i64) (.int .i64))) (.int .i64))) s_1)), (1, .c (.val (.int .i64 at_2))), (16, .c (.val (.bool true)))], [], 0⟩ [(decide (at_2 < (0 : Int))) = true] (by kernel_rfl) rfl rfl (ap1 b_4) (by kernel_rfl) (by kernel_rfl) ?_
      have H_31 := Option.some.inj (show some true = some q_25 from H_29); subst H_31
      refine VL_nil ?_
      exact QP_end true rfl [] hn (by kernel_rfl) (by kernel_rfl) rfl rfl rfl
    · have H_30 := of_f H_26 b_4
      obtain ⟨c_6, H_32⟩ := of_if H_30
      refine V_reg hN hn [] [(9, false)] calls_nil 0 [0, 1, 16] [] ⟨[(0, .c (.imm (.opt (.pair (.slice (.pair (.int .i64) (.int .i64))) (.int .i64))) s_1)), (1, .c (.val (.int .i64 at_2))), (16, .c (.val (.bool (decide (at_2 ≥ (Option.getD s_1 (([] : (List (Int × Int))), (0 : Int))).2)))))], [], 0⟩ [(decide (at_2 < (0 : Int))) = false, Option.isSome s_1 = true] (by kernel_rfl) rfl rfl (ap2 b_4 (ap1 c_6)) (by kernel_rfl) (by kernel_rfl) ?_
      have H_33 := Option.some.inj (show some (decide (at_2 ≥ (Option.getD s_1 (([] : (List (Int × Int))), (0 : Int))).2)) = some q_25 from H_32); subst H_33
      refine VL_nil ?_
      exact QP_end (decide (at_2 ≥ (Option.getD s_1 (([] : (List (Int × Int))), (0 : Int))).2)) rfl [] hn (by kernel_rfl) (by kernel_rfl) rfl rfl rfl
  · intro y_28 hy; subst hy
    skip
    skip
    refine VL_cond (y_28) (by kernel_rfl) ?_ ?_
    · intro b_8; have H_34 := of_t H_27 b_8
      refine V_run hN hn 2 0 [4] [] ⟨[(4, .c (.val (.int .i64 (0 : Int))))], [], 0⟩ [] (by kernel_rfl) rfl rfl ap0 ?_
      have H_36 := Option.some.inj (show some (0 : Int) = some r from H_34); subst H_36
      refine VL_ret ?_
      exact P_to [(4, .c (.val (.int .i64 (0 : Int))))] [] [] hn (by kernel_rfl) (by kernel_rfl) rfl rfl rfl (QF_retS (by kernel_rfl) (by kernel_rfl) rfl)
    · intro b_8; have H_35 := of_f H_27 b_8
      obtain ⟨c_10, H_37⟩ := of_if H_35
      refine V_run hN hn 4 0 [1, 20, 21, 22] [] ⟨[(1, .c (.val (.int .i64 at_2))), (20, .c (.imm (.slice (.pair (.int .i64) (.int .i64))) (Option.getD s_1 (([] : (List (Int × Int))), (0 : Int))).1)), (21, .c (.val (.int .i64 (((List.length (Option.getD s_1 (([] : (List (Int × Int))), (0 : Int))).1) : Nat) : Int)))), (22, .c (.val (.int .i64 (0 : Int))))], [], 0⟩ [Option.isSome s_1 = true] (by kernel_rfl) rfl rfl (ap1 c_10) ?_
      refine VL_block ?_
      refine V_to [(1, .c (.val (.int .i64 at_2))), (20, .c (.imm (.slice (.pair (.int .i64) (.int .i64))) (Option.getD s_1 (([] : (List (Int × Int))), (0 : Int))).1)), (21, .c (.val (.int .i64 (((List.length (Option.getD s_1 (([] : (List (Int × Int))), (0 : Int))).1) : Nat) : Int)))), (22, .c (.val (.int .i64 (0 : Int))))] [] [] hn (by kernel_rfl) (by kernel_rfl) rfl rfl rfl ?_
      refine VL_loop (X := (Int × Int)) (fun x => [(1, .c (.val (.int .i64 x.1))), (20, .c (.imm (.slice (.pair (.int .i64) (.int .i64))) (Option.getD s_1 (([] : (List (Int × Int))), (0 : Int))).1)), (21, .c (.val (.int .i64 (((List.length (Option.getD s_1 (([] : (List (Int × Int))), (0 : Int))).1) : Nat) : Int)))), (22, .c (.val (.int .i64 x.2)))]) (fun x => []) (fun k x => subset_Subset_Count.l0 K s_1 k x.1 x.2 = some r) K (at_2, (0 : Int)) H_37 (fun _ h => no_none h) ?_
      intro k_13 x_13 H_38
      obtain ⟨at_11, t_12⟩ := x_13
      have H_39 : subset_Subset_Count.l0 K s_1 (k_13 + 1) at_11 t_12 = some r := H_38
      rw [subset_Subset_Count.l0] at H_39
      refine V_run hN hn 3 0 [1, 20, 21, 22, 23] [] ⟨[(1, .c (.val (.int .i64 at_11))), (20, .c (.imm (.slice (.pair (.int .i64) (.int .i64))) (Option.getD s_1 (([] : (List (Int × Int))), (0 : Int))).1)), (21, .c (.val (.int .i64 (((List.length (Option.getD s_1 (([] : (List (Int × Int))), (0 : Int))).1) : Nat) : Int)))), (22, .c (.val (.int .i64 t_12))), (23, .c (.val (.bool (decide (t_12 < (((List.length (Option.getD s_1 (([] : (List (Int × Int))), (0 : Int))).1) : Nat) : Int))))))], [], 0⟩ [] (by kernel_rfl) rfl rfl ap0 ?_
      refine VL_cond ((decide (t_12 < (((List.length (Option.getD s_1 (([] : (List (Int × Int))), (0 : Int))).1) : Nat) : Int)))) (by kernel_rfl) ?_ ?_
      · intro b_15; have H_40 := of_t H_39 b_15
        refine V_run hN hn 2 0 [1, 20, 21, 22, 23] [] ⟨[(1, .c (.val (.int .i64 at_11))), (20, .c (.imm (.slice (.pair (.int .i64) (.int .i64))) (Option.getD s_1 (([] : (List (Int × Int))), (0 : Int))).1)), (21, .c (.val (.int .i64 (((List.length (Option.getD s_1 (([] : (List (Int × Int))), (0 : Int))).1) : Nat) : Int)))), (22, .c (.val (.int .i64 t_12))), (23, .c (.val (.bool (decide (t_12 < (((List.length (Option.getD s_1 (([] : (List (Int × Int))), (0 : Int))).1) : Nat) : Int))))))], [], 0⟩ [] (by kernel_rfl) rfl rfl ap0 ?_
        refine VL_block ?_
        obtain ⟨c_17, H_42⟩ := of_if H_40
        refine V_run hN hn 5 0 [1, 6, 20, 21, 22, 29] [0] ⟨[(1, .c (.val (.int .i64 at_11))), (6, .c (.h 0)), (20, .c (.imm (.slice (.pair (.int .i64) (.int .i64))) (Option.getD s_1 (([] : (List (Int × Int))), (0 : Int))).1)), (21, .c (.val (.int .i64 (((List.length (Option.getD s_1 (([] : (List (Int × Int))), (0 : Int))).1) : Nat) : Int)))), (22, .c (.val (.int .i64 t_12))), (29, .c (.val (.bool (decide (at_11 < (List.getD (Option.getD s_1 (([] : (List (Int × Int))), (0 : Int))).1 (Int.toNat t_12) ((0 : Int), (0 : Int))).1)))))], [(0, .box [.val (.int .i64 (List.getD (Option.getD s_1 (([] : (List (Int × Int))), (0 : Int))).1 (Int.toNat t_12) ((0 : Int), (0 : Int))).1), .val (.int .i64 (List.getD (Option.getD s_1 (([] : (List (Int × Int))), (0 : Int))).1 (Int.toNat t_12) ((0 : Int), (0 : Int))).2)])], 1⟩ [0 ≤ t_12, t_12 < (((List.length (Option.getD s_1 (([] : (List (Int × Int))), (0 : Int))).1) : Nat) : Int)] (by kernel_rfl) rfl rfl (ap2 c_17.1 (ap1 c_17.2)) ?_
        refine VL_cond ((decide (at_11 < (List.getD (Option.getD s_1 (([] : (List (Int × Int))), (0 : Int))).1 (Int.toNat t_12) ((0 : Int), (0 : Int))).1))) (by kernel_rfl) ?_ ?_
        · intro b_18; have H_43 := of_t H_42 b_18
          refine V_run hN hn 2 1 [4] [] ⟨[(4, .c (.val (.int .i64 (List.getD (Option.getD s_1 (([] : (List (Int × Int))), (0 : Int))).1 (Int.toNat t_12) ((0 : Int), (0 : Int))).2)))], [], 1⟩ [] (by kernel_rfl) rfl rfl ap0 ?_
          have H_45 := Option.some.inj (show some (List.getD (Option.getD s_1 (([] : (List (Int × Int))), (0 : Int))).1 (Int.toNat t_12) ((0 : Int), (0 : Int))).2 = some r from H_43); subst H_45
          refine VL_ret ?_
          refine QB_ret ?_
          refine QL_ret ?_
          refine QB_ret ?_
          exact P_to [(4, .c (.val (.int .i64 (List.getD (Option.getD s_1 (([] : (List (Int × Int))), (0 : Int))).1 (Int.toNat t_12) ((0 : Int), (0 : Int))).2)))] [] [] hn (by kernel_rfl) (by kernel_rfl) rfl rfl rfl (QF_retS (by kernel_rfl) (by kernel_rfl) rfl)
        · intro b_18; have H_44 := of_f H_42 b_18
          refine V_run hN hn 2 1 [1, 20, 21, 22] [] ⟨[(1, .c (.val (.int .i64 (IntKind.wrap .i64 (at_11 - (List.getD (Option.getD s_1 (([] : (List (Int × Int))), (0 : Int))).1 (Int.toNat t_12) ((0 : Int), (0 : Int))).1))))), (20, .c (.imm (.slice (.pair (.int .i64) (.int .i64))) (Option.getD s_1 (([] : (List (Int × Int))), (0 : Int))).1)), (21, .c (.val (.int .i64 (((List.length (Option.getD s_1 (([] : (List (Int × Int))), (0 : Int))).1) : Nat) : Int)))), (22, .c (.val (.int .i64 t_12)))], [], 1⟩ [] (by kernel_rfl) rfl rfl ap0 ?_
          refine VL_nil (QB_end ?_)
          refine V_run hN hn 1 1 [1, 20, 21, 22] [] ⟨[(1, .c (.val (.int .i64 (IntKind.wrap .i64 (at_11 - (List.getD (Option.getD s_1 (([] : (List (Int × Int))), (0 : Int))).1 (Int.toNat t_12) ((0 : Int), (0 : Int))).1))))), (20, .c (.imm (.slice (.pair (.int .i64) (.int .i64))) (Option.getD s_1 (([] : (List (Int × Int))), (0 : Int))).1)), (21, .c (.val (.int .i64 (((List.length (Option.getD s_1 (([] : (List (Int × Int))), (0 : Int))).1) : Nat) : Int)))), (22, .c (.val (.int .i64 (IntKind.wrap .i64 (t_12 + (1 : Int))))))], [], 1⟩ [] (by kernel_rfl) rfl rfl ap0 ?_
          refine VL_nil ?_
          exact V_roundEnd ((IntKind.wrap .i64 (at_11 - (List.getD (Option.getD s_1 (([] : (List (Int × Int))), (0 : Int))).1 (Int.toNat t_12) ((0 : Int), (0 : Int))).1)), (IntKind.wrap .i64 (t_12 + (1 : Int)))) H_44 [] hn (by kernel_rfl) (by kernel_rfl) rfl rfl rfl
      · intro b_15; have H_41 := of_f H_39 b_15
        refine VL_exit ?_
        refine QL_exit ?_
        refine QB_here ?_
        refine V_run hN hn 2 0 [4] [] ⟨[(4, .c (.val (.int .i64 (0 : Int))))], [], 0⟩ [] (by kernel_rfl) rfl rfl ap0 ?_
        have H_46 := Option.some.inj (show some (0 : Int) = some r from H_41); subst H_46
        refine VL_ret ?_
        exact P_to [(4, .c (.val (.int .i64 (0 : Int))))] [] [] hn (by kernel_rfl) (by kernel_rfl) rfl rfl rfl (QF_retS (by kernel_rfl) (by kernel_rfl) rfl)

theorem subset_Subset_Size_spec (K : Nat) (s_1 : (Option ((List (Int × Int)) × Int))) (r : Int) (H : subset_Subset_Size K s_1 = some r) : Spec Try.prog 20 0 [.c (.imm (.opt (.pair (.slice (.pair (.int .i64) (.int .i64))) (.int .i64))) s_1)] [] (.c (.val (.int .i64 r))) [] := by
  refine Spec_mk (fn := Try.f20) (c := (Try.f20.body).get!) Try.func20 (by kernel_rfl) rfl ?_
  intro C hN hn
  replace hN : C.N = 24 := hN
  unfold subset_Subset_Size at H
  obtain ⟨c_2, H_17⟩ := of_if H
  refine V_run hN hn 7 0 [3, 9, 10, 11] [] ⟨[(3, .c (.val (.int .i64 (0 : Int)))), (9, .c (.imm (.slice (.pair (.int .i64) (.int .i64))) (Option.getD s_1 (([] : (List (Int × Int))), (0 : Int))).1)), (10, .c (.val (.int .i64 (((List.length (Option.getD s_1 (([] : (List (Int × Int))), (0 : Int))).1) : Nat) : Int)))), (11, .c (.val (.int .i64 (0 : Int))))], [], 0⟩ [Option.isSome s_1 = true] (by kernel_rfl) rfl rfl (ap1 c_2) ?_
  refine VL_block ?_
  refine V_to [(3, .c (.val (.int .i64 (0 : Int)))), (9, .c (.imm (.slice (.pair (.int .i64) (.int .i64))) (Option.getD s_1 (([] : (List (Int × Int))), (0 : Int))).1)), (10, .c (.val (.int .i64 (((List.length (Option.getD s_1 (([] : (List (Int × Int))), (0 : Int))).1) : Nat) : Int)))), (11, .c (.val (.int .i64 (0 : Int))))] [] [] hn (by kernel_rfl) (by kernel_rfl) rfl rfl rfl ?_
  refine VL_loop (X := (Int × Int)) (fun x => [(3, .c (.val (.int .i64 x.1))), (9, .c (.imm (.slice (.pair (.int .i64) (.int .i64))) (Option.getD s_1 (([] : (List (Int × Int))), (0 : Int))).1)), (10, .c (.val (.int .i64 (((List.length (Option.getD s_1 (([] : (List (Int × Int))), (0 : Int))).1) : Nat) : Int)))), (11, .c (.val (.int .i64 x.2)))]) (fun x => []) (fun k x => subset_Subset_Size.l0 K s_1 k x.1 x.2 = some r) K ((0 : Int), (0 : Int)) H_17 (fun _ h => no_none h) ?_
  intro k_5 x_5 H_18
  obtain ⟨n_3, t_4⟩ := x_5
  have H_19 : subset_Subset_Size.l0 K s_1 (k_5 + 1) n_3 t_4 = some r := H_18
  rw [subset_Subset_Size.l0] at H_19
  refine V_run hN hn 3 0 [3, 9, 10, 11, 12] [] ⟨[(3, .c (.val (.int .i64 n_3))), (9, .c (.imm (.slice (.pair (.int .i64) (.int .i64))) (Option.getD s_1 (([] : (List (Int × Int))), (0 : Int))).1)), (10, .c (.val (.int .i64 (((List.length (Option.getD s_1 (([] : (List (Int × Int))), (0 : Int))).1) : Nat) : Int)))), (11, .c (.val (.int .i64 t_4))), (12, .c (.val (.bool (decide (t_4 < (((List.length (Option.getD s_1 (([] : (List (Int × Int))), (0 : Int))).1) : Nat) : Int))))))], [], 0⟩ [] (by kernel_rfl) rfl rfl ap0 ?_
  refine VL_cond ((decide (t_4 < (((List.length (Option.getD s_1 (([] : (List (Int × Int))), (0 : Int))).1) : Nat) : Int)))) (by kernel_rfl) ?_ ?_
  · intro b_7; have H_20 := of_t H_19 b_7
    refine V_run hN hn 2 0 [3, 9, 10, 11, 12] [] ⟨[(3, .c (.val (.int .i64 n_3))), (9, .c (.imm (.slice (.pair (.int .i64) (.int .i64))) (Option.getD s_1 (([] : (List (Int × Int))), (0 : Int))).1)), (10, .c (.val (.int .i64 (((List.length (Option.getD s_1 (([] : (List (Int × Int))), (0 : Int))).1) : Nat) : Int)))), (11, .c (.val (.int .i64 t_4))), (12, .c (.val (.bool (decide (t_4 < (((List.length (Option.getD s_1 (([] : (List (Int × Int))), (0 : Int))).1) : Nat) : Int))))))], [], 0⟩ [] (by kernel_rfl) rfl rfl ap0 ?_
    refine VL_block ?_
    obtain ⟨c_9, H_22⟩ := of_if H_20
    refine V_run hN hn 4 0 [3, 5, 9, 10, 11, 17] [0] ⟨[(3, .c (.val (.int .i64 n_3))), (5, .c (.h 0)), (9, .c (.imm (.slice (.pair (.int .i64) (.int .i64))) (Option.getD s_1 (([] : (List (Int × Int))), (0 : Int))).1)), (10, .c (.val (.int .i64 (((List.length (Option.getD s_1 (([] : (List (Int × Int))), (0 : Int))).1) : Nat) : Int)))), (11, .c (.val (.int .i64 t_4))), (17, .c (.val (.bool (decide ((List.getD (Option.getD s_1 (([] : (List (Int × Int))), (0 : Int))).1 (Int.toNat t_4) ((0 : Int), (0 : Int))).2 > (0 : Int))))))], [(0, .box [.val (.int .i64 (List.getD (Option.getD s_1 (([] : (List (Int × Int))), (0 : Int))).1 (Int.toNat t_4) ((0 : Int), (0 : Int))).1), .val (.int .i64 (List.getD (Option.getD s_1 (([] : (List (Int × Int))), (0 : Int))).1 (Int.toNat t_4) ((0 : Int), (0 : Int))).2)])], 1⟩ [0 ≤ t_4, t_4 < (((List.length (Option.getD s_1 (([] : (List (Int × Int))), (0 : Int))).1) : Nat) : Int)] (by kernel_rfl) rfl rfl (ap2 c_9.1 (ap1 c_9.2)) ?_
    refine VL_cond ((decide ((List.getD (Option.getD s_1 (([] : (List (Int × Int))), (0 : Int))).1 (Int.toNat t_4) ((0 : Int), (0 : Int))).2 > (0 : Int)))) (by kernel_rfl) ?_ ?_
    · intro b_10; have H_23 := of_t H_22 b_10
      refine V_run hN hn 1 1 [3, 9, 10, 11] [] ⟨[(3, .c (.val (.int .i64 (IntKind.wrap .i64 (n_3 + (List.getD (Option.getD s_1 (([] : (List (Int × Int))), (0 : Int))).1 (Int.toNat t_4) ((0 : Int), (0 : Int))).1))))), (9, .c (.imm (.slice (.pair (.int .i64) (.int .i64))) (Option.getD s_1 (([] : (List (Int × Int))), (0 : Int))).1)), (10, .c (.val (.int .i64 (((List.length (Option.getD s_1 (([] : (List (Int × Int))), (0 : Int))).1) : Nat) : Int)))), (11, .c (.val (.int .i64 t_4)))], [], 1⟩ [] (by kernel_rfl) rfl rfl ap0 ?_
      refine VL_nil (QB_end ?_)
      refine V_run hN hn 1 1 [3, 9, 10, 11] [] ⟨[(3, .c (.val (.int .i64 (IntKind.wrap .i64 (n_3 + (List.getD (Option.getD s_1 (([] : (List (Int × Int))), (0 : Int))).1 (Int.toNat t_4) ((0 : Int), (0 : Int))).1))))), (9, .c (.imm (.slice (.pair (.int .i64) (.int .i64))) (Option.getD s_1 (([] : (List (Int × Int))), (0 : Int))).1)), (10, .c (.val (.int .i64 (((List.length (Option.getD s_1 (([] : (List (Int × Int))), (0 : Int))).1) : Nat) : Int)))), (11, .c (.val (.int .i64 (IntKind.wrap .i64 (t_4 + (1 : Int))))))], [], 1⟩ [] (by kernel_rfl) rfl rfl ap0 ?_
      refine VL_nil ?_
      exact V_roundEnd ((IntKind.wrap .i64 (n_3 + (List.getD (Option.getD s_1 (([] : (List (Int × Int))), (0 : Int))).1 (Int.toNat t_4) ((0 : Int), (0 : Int))).1)), (IntKind.wrap .i64 (t_4 + (1 : Int)))) H_23 [] hn (by kernel_rfl) (by kernel_rfl) rfl rfl rfl
    · intro b_10; have H_24 := of_f H_22 b_10
      refine V_run hN hn 1 1 [3, 5, 9, 10, 11, 17] [0] ⟨[(3, .c (.val (.int .i64 n_3))), (5, .c (.h 0)), (9, .c (.imm (.slice (.pair (.int .i64) (.int .i64))) (Option.getD s_1 (([] : (List (Int × Int))), (0 : Int))).1)), (10, .c (.val (.int .i64 (((List.length (Option.getD s_1 (([] : (List (Int × Int))), (0 : Int))).1) : Nat) : Int)))), (11, .c (.val (.int .i64 t_4))), (17, .c (.val (.bool (decide ((List.getD (Option.getD s_1 (([] : (List (Int × Int))), (0 : Int))).1 (Int.toNat t_4) ((0 : Int), (0 : Int))).2 > (0 : Int))))))], [(0, .box [.val (.int .i64 (List.getD (Option.getD s_1 (([] : (List (Int × Int))), (0 : Int))).1 (Int.toNat t_4) ((0 : Int), (0 : Int))).1), .val (.int .i64 (List.getD (Option.getD s_1 (([] : (List (Int × Int))), (0 : Int))).1 (Int.toNat t_4) ((0 : Int), (0 : Int))).2)])], 1⟩ [] (by kernel_rfl) rfl rfl ap0 ?_
      refine VL_nil (QB_end ?_)
      refine V_run hN hn 1 1 [3, 9, 10, 11] [] ⟨[(3, .c (.val (.int .i64 n_3))), (9, .c (.imm (.slice (.pair (.int .i64) (.int .i64))) (Option.getD s_1 (([] : (List (Int × Int))), (0 : Int))).1)), (10, .c (.val (.int .i64 (((List.length (Option.getD s_1 (([] : (List (Int × Int))), (0 : Int))).1) : Nat) : Int)))), (11, .c (.val (.int .i64 (IntKind.wrap .i64 (t_4 + (1 : Int))))))], [], 1⟩ [] (by kernel_rfl) rfl rfl ap0 ?_
      refine VL_nil ?_
      exact V_roundEnd (n_3, (IntKind.wrap .i64 (t_4 + (1 : Int)))) H_24 [] hn (by kernel_rfl) (by kernel_rfl) rfl rfl rfl
  · intro b_7; have H_21 := of_f H_19 b_7
    refine VL_exit ?_
    refine QL_exit ?_
    refine QB_here ?_
    refine V_run hN hn 2 0 [2] [] ⟨[(2, .c (.val (.int .i64 n_3)))], [], 0⟩ [] (by kernel_rfl) rfl rfl ap0 ?_
    have H_25 := Option.some.inj (show some n_3 = some r from H_21); subst H_25
    refine VL_ret ?_
    exact P_to [(2, .c (.val (.int .i64 n_3)))] [] [] hn (by kernel_rfl) (by kernel_rfl) rfl rfl rfl (QF_retS (by kernel_rfl) (by kernel_rfl) rfl)

theorem slices_Equal_spec (K : Nat) (s1_1 : (List (Int × (Int × ByteArray)))) (s2_2 : (List (Int × (Int × ByteArray)))) (r : Bool) (H : slices_Equal K s1_1 s2_2 = some r) : Spec Try.prog 51 0 [.c (.imm (.slice (.pair (.int .i64) (.pair (.int .i64) .str))) s1_1), .c (.imm (.slice (.pair (.int .i64) (.pair (.int .i64) .str))) s2_2)] [] (.c (.val (.bool r))) [] := by
  refine Spec_mk (fn := Try.f51) (c := (Try.f51.body).get!) Try.func51 (by kernel_rfl) rfl ?_
  intro C hN hn
  replace hN : C.N = 26 := hN
  unfold slices_Equal at H
  refine V_run hN hn 5 0 [0, 1, 10] [] ⟨[(0, .c (.imm (.slice (.pair (.int .i64) (.pair (.int .i64) .str))) s1_1)), (1, .c (.imm (.slice (.pair (.int .i64) (.pair (.int .i64) .str))) s2_2)), (10, .c (.val (.bool ((((List.length s1_1) : Nat) : Int) != (((List.length s2_2) : Nat) : Int)))))], [], 0⟩ [] (by kernel_rfl) rfl rfl ap0 ?_
  refine VL_cond (((((List.length s1_1) : Nat) : Int) != (((List.length s2_2) : Nat) : Int))) (by kernel_rfl) ?_ ?_
  · intro b_4; have H_20 := of_t H b_4
    refine V_run hN hn 2 0 [4] [] ⟨[(4, .c (.val (.bool false)))], [], 0⟩ [] (by kernel_rfl) rfl rfl ap0 ?_
    have H_22 := Option.some.inj (show some false = some r from H_20); subst H_22
    refine VL_ret ?_
    exact P_to [(4, .c (.val (.bool false)))] [] [] hn (by kernel_rfl) (by kernel_rfl) rfl rfl rfl (QF_retS (by kernel_rfl) (by kernel_rfl) rfl)
  · intro b_4; have H_21 := of_f H b_4
    refine V_run hN hn 4 0 [0, 1, 12, 13] [] ⟨[(0, .c (.imm (.slice (.pair (.int .i64) (.pair (.int .i64) .str))) s1_1)), (1, .c (.imm (.slice (.pair (.int .i64) (.pair (.int .i64) .str))) s2_2)), (12, .c (.val (.int .i64 (((List.length s1_1) : Nat) : Int)))), (13, .c (.val (.int .i64 (0 : Int))))], [], 0⟩ [] (by kernel_rfl) rfl rfl ap0 ?_
    refine VL_block ?_
    refine V_to [(0, .c (.imm (.slice (.pair (.int .i64) (.pair (.int .i64) .str))) s1_1)), (1, .c (.imm (.slice (.pair (.int .i64) (.pair (.int .i64) .str))) s2_2)), (12, .c (.val (.int .i64 (((List.length s1_1) : Nat) : Int)))), (13, .c (.val (.int .i64 (0 : Int))))] [] [] hn (by kernel_rfl) (by kernel_rfl) rfl rfl rfl ?_
    refine VL_loop (X := Int) (fun x => [(0, .c (.imm (.slice (.pair (.int .i64) (.pair (.int .i64) .str))) s1_1)), (1, .c (.imm (.slice (.pair (.int .i64) (.pair (.int .i64) .str))) s2_2)), (12, .c (.val (.int .i64 (((List.length s1_1) : Nat) : Int)))), (13, .c (.val (.int .i64 x)))]) (fun x => []) (fun k x => slices_Equal.l0 K s1_1 s2_2 k x = some r) K (0 : Int) H_21 (fun _ h => no_none h) ?_
    intro k_8 t_7 H_23
    have H_24 : slices_Equal.l0 K s1_1 s2_2 (k_8 + 1) t_7 = some r := H_23
    rw [slices_Equal.l0] at H_24
    refine V_run hN hn 3 0 [0, 1, 12, 13, 14] [] ⟨[(0, .c (.imm (.slice (.pair (.int .i64) (.pair (.int .i64) .str))) s1_1)), (1, .c (.imm (.slice (.pair (.int .i64) (.pair (.int .i64) .str))) s2_2)), (12, .c (.val (.int .i64 (((List.length s1_1) : Nat) : Int)))), (13, .c (.val (.int .i64 t_7))), (14, .c (.val (.bool (decide (t_7 < (((List.length s1_1) : Nat) : Int))))))], [], 0⟩ [] (by kernel_rfl) rfl rfl ap0 ?_
    refine VL_cond ((decide (t_7 < (((List.length s1_1) : Nat) : Int)))) (by kernel_rfl) ?_ ?_
    · intro b_10; have H_25 := of_t H_24 b_10
      refine V_run hN hn 2 0 [0, 1, 12, 13, 14] [] ⟨[(0, .c (.imm (.slice (.pair (.int .i64) (.pair (.int .i64) .str))) s1_1)), (1, .c (.imm (.slice (.pair (.int .i64) (.pair (.int .i64) .str))) s2_2)), (12, .c (.val (.int .i64 (((List.length s1_1) : Nat) : Int)))), (13, .c (.val (.int .i64 t_7))), (14, .c (.val (.bool (decide (t_7 < (((List.length s1_1) : Nat) : Int))))))], [], 0⟩ [] (by kernel_rfl) rfl rfl ap0 ?_
      refine VL_block ?_
      refine V_run hN hn 3 0 [0, 1, 5, 12, 13] [] ⟨[(0, .c (.imm (.slice (.pair (.int .i64) (.pair (.int .i64) .str))) s1_1)), (1, .c (.imm (.slice (.pair (.int .i64) (.pair (.int .i64) .str))) s2_2)), (5, .c (.val (.int .i64 t_7))), (12, .c (.val (.int .i64 (((List.length s1_1) : Nat) : Int)))), (13, .c (.val (.int .i64 t_7)))], [], 0⟩ [] (by kernel_rfl) rfl rfl ap0 ?_
      obtain ⟨c_13, H_27⟩ := of_if H_25
      refine V_draw hN hn (by kernel_rfl) [] [] calls_nil 0 [0, 1, 12, 13, 24] [] ⟨[(0, .c (.imm (.slice (.pair (.int .i64) (.pair (.int .i64) .str))) s1_1)), (1, .c (.imm (.slice (.pair (.int .i64) (.pair (.int .i64) .str))) s2_2)), (12, .c (.val (.int .i64 (((List.length s1_1) : Nat) : Int)))), (13, .c (.val (.int .i64 t_7))), (24, .c (.val (.bool (!(((List.getD s1_1 (Int.toNat t_7) ((0 : Int), ((0 : Int), ByteArray.empty))).1 == (List.getD s2_2 (Int.toNat t_7) ((0 : Int), ((0 : Int), ByteArray.empty))).1) && (((List.getD s1_1 (Int.toNat t_7) ((0 : Int), ((0 : Int), ByteArray.empty))).2.1 == (List.getD s2_2 (Int.toNat t_7) ((0 : Int), ((0 : Int), ByteArray.empty))).2.1) && (ByteArray.toList (List.getD s1_1 (Int.toNat t_7) ((0 : Int), ((0 : Int), ByteArray.empty))).2.2 == ByteArray.toList (List.getD s2_2 (Int.toNat t_7) ((0 : Int), ((0 : Int), ByteArray.empty))).2.2)))))))], [], 0⟩ [0 ≤ t_7, t_7 < (((List.length s1_1) : Nat) : Int), 0 ≤ t_7, t_7 < (((List.length s2_2) : Nat) : Int)] (by kernel_rfl) rfl rfl (ap2 c_13.1 (ap2 c_13.2.1 (ap2 c_13.1 (ap1 c_13.2.2)))) (by kernel_rfl) (by kernel_rfl) ?_
      refine VL_cond ((!(((List.getD s1_1 (Int.toNat t_7) ((0 : Int), ((0 : Int), ByteArray.empty))).1 == (List.getD s2_2 (Int.toNat t_7) ((0 : Int), ((0 : Int), ByteArray.empty))).1) && (((List.getD s1_1 (Int.toNat t_7) ((0 : Int), ((0 : Int), ByteArray.empty))).2.1 == (List.getD s2_2 (Int.toNat t_7) ((0 : Int), ((0 : Int), ByteArray.empty))).2.1) && (ByteArray.toList (List.getD s1_1 (Int.toNat t_7) ((0 : Int), ((0 : Int), ByteArray.empty))).2.2 == ByteArray.toList (List.getD s2_2 (Int.toNat t_7) ((0 : Int), ((0 : Int), ByteArray.empty))).2.2))))) (by kernel_rfl) ?_ ?_
      · intro b_14; have H_28 := of_t H_27 b_14
        refine V_run hN hn 2 0 [4] [] ⟨[(4, .c (.val (.bool false)))], [], 0⟩ [] (by kernel_rfl) rfl rfl ap0 ?_
        have H_30 := Option.some.inj (show some false = some r from H_28); subst H_30
        refine VL_ret ?_
        refine QB_ret ?_
        refine QL_ret ?_
        refine QB_ret ?_
        exact P_to [(4, .c (.val (.bool false)))] [] [] hn (by kernel_rfl) (by kernel_rfl) rfl rfl rfl (QF_retS (by kernel_rfl) (by kernel_rfl) rfl)
      · intro b_14; have H_29 := of_f H_27 b_14
        refine V_run hN hn 1 0 [0, 1, 12, 13, 24] [] ⟨[(0, .c (.imm (.slice (.pair (.int .i64) (.pair (.int .i64) .str))) s1_1)), (1, .c (.imm (.slice (.pair (.int .i64) (.pair (.int .i64) .str))) s2_2)), (12, .c (.val (.int .i64 (((List.length s1_1) : Nat) : Int)))), (13, .c (.val (.int .i64 t_7))), (24, .c (.val (.bool (!(((List.getD s1_1 (Int.toNat t_7) ((0 : Int), ((0 : Int), ByteArray.empty))).1 == (List.getD s2_2 (Int.toNat t_7) ((0 : Int), ((0 : Int), ByteArray.empty))).1) && (((List.getD s1_1 (Int.toNat t_7) ((0 : Int), ((0 : Int), ByteArray.empty))).2.1 == (List.getD s2_2 (Int.toNat t_7) ((0 : Int), ((0 : Int), ByteArray.empty))).2.1) && (ByteArray.toList (List.getD s1_1 (Int.toNat t_7) ((0 : Int), ((0 : Int), ByteArray.empty))).2.2 == ByteArray.toList (List.getD s2_2 (Int.toNat t_7) ((0 : Int), ((0 : Int), ByteArray.empty))).2.2)))))))], [], 0⟩ [] (by kernel_rfl) rfl rfl ap0 ?_
        refine VL_nil (QB_end ?_)
        refine V_run hN hn 1 0 [0, 1, 12, 13] [] ⟨[(0, .c (.imm (.slice (.pair (.int .i64) (.pair (.int .i64) .str))) s1_1)), (1, .c (.imm (.slice (.pair (.int .i64) (.pair (.int .i64) .str))) s2_2)), (12, .c (.val (.int .i64 (((List.length s1_1) : Nat) : Int)))), (13, .c (.val (.int .i64 (IntKind.wrap .i64 (t_7 + (1 : Int))))))], [], 0⟩ [] (by kernel_rfl) rfl rfl ap0 ?_
        refine VL_nil ?_
        exact V_roundEnd (IntKind.wrap .i64 (t_7 + (1 : Int))) H_29 [] hn (by kernel_rfl) (by kernel_rfl) rfl rfl rfl
    · intro b_10; have H_26 := of_f H_24 b_10
      refine VL_exit ?_
      refine QL_exit ?_
      refine QB_here ?_
      refine V_run hN hn 2 0 [4] [] ⟨[(4, .c (.val (.bool true)))], [], 0⟩ [] (by kernel_rfl) rfl rfl ap0 ?_
      have H_31 := Option.some.inj (show some true = some r from H_26); subst H_31
      refine VL_ret ?_
      exact P_to [(4, .c (.val (.bool true)))] [] [] hn (by kernel_rfl) (by kernel_rfl) rfl rfl rfl (QF_retS (by kernel_rfl) (by kernel_rfl) rfl)

theorem delta_Same_spec (K : Nat) (a_1 : Int) (a_2 : (List (Int × (Int × ByteArray)))) (b_3 : Int) (b_4 : (List (Int × (Int × ByteArray)))) (r : Bool) (H : delta_Same K a_1 a_2 b_3 b_4 = some r) : Spec Try.prog 32 0 [.agg [.val (.int .i64 a_1), .imm (.slice (.pair (.int .i64) (.pair (.int .i64) .str))) a_2], .agg [.val (.int .i64 b_3), .imm (.slice (.pair (.int .i64) (.pair (.int .i64) .str))) b_4]] [] (.c (.val (.bool r))) [] := by
  refine Spec_mk (fn := Try.f32) (c := (Try.f32.body).get!) Try.func32 (by kernel_rfl) rfl ?_
  intro C hN hn
  replace hN : C.N = 17 := hN
  unfold delta_Same at H
  refine V_run hN hn 3 0 [2, 3] [0, 1] ⟨[(2, .c (.h 0)), (3, .c (.h 1))], [(0, .box [.val (.int .i64 a_1), .imm (.slice (.pair (.int .i64) (.pair (.int .i64) .str))) a_2]), (1, .box [.val (.int .i64 b_3), .imm (.slice (.pair (.int .i64) (.pair (.int .i64) .str))) b_4])], 2⟩ [] (by kernel_rfl) rfl rfl ap0 ?_
  rcases Bool.eq_false_or_eq_true ((a_1 == b_3)) with b_6 | b_6
  · have H_12 := of_t H b_6
    obtain ⟨r_7, h_8, H_14⟩ := of_bind H_12
    refine V_reg hN hn [(10, ⟨51, 0, [.c (.imm (.slice (.pair (.int .i64) (.pair (.int .i64) .str))) a_2), .c (.imm (.slice (.pair (.int .i64) (.pair (.int .i64) .str))) b_4)], [], .c (.val (.bool r_7)), [], [], 2⟩)] [(10, true)] (calls_cons (slices_Equal_spec K a_2 b_4 r_7 h_8) (by kernel_rfl) calls_nil) 2 [4] [] ⟨[(4, .c (.val (.bool r_7)))], [], 2⟩ [(a_1 == b_3) = true] (by kernel_rfl) rfl rfl (ap1 b_6) (by kernel_rfl) (by kernel_rfl) ?_
    have H_15 := Option.some.inj (show some r_7 = some r from H_14); subst H_15
    refine VL_ret ?_
    exact P_to [(4, .c (.val (.bool r_7)))] [] [] hn (by kernel_rfl) (by kernel_rfl) rfl rfl rfl (QF_retS (by kernel_rfl) (by kernel_rfl) rfl)
  · have H_13 := of_f H b_6
    refine V_reg hN hn [] [(10, false)] calls_nil 2 [4] [] ⟨[(4, .c (.val (.bool false)))], [], 2⟩ [(a_1 == b_3) = false] (by kernel_rfl) rfl rfl (ap1 b_6) (by kernel_rfl) (by kernel_rfl) ?_
    have H_16 := Option.some.inj (show some false = some r from H_13); subst H_16
    refine VL_ret ?_
    exact P_to [(4, .c (.val (.bool false)))] [] [] hn (by kernel_rfl) (by kernel_rfl) rfl rfl rfl (QF_retS (by kernel_rfl) (by kernel_rfl) rfl)

theorem palinodelaw12_known_spec (K : Nat) (r : Bool) (H : palinodelaw12_known K  = some r) : Spec Try.prog 8 0 [] [] (.c (.val (.bool r))) [] := by
  refine Spec_mk (fn := Try.f8) (c := (Try.f8.body).get!) Try.func8 (by kernel_rfl) rfl ?_
  intro C hN hn
  replace hN : C.N = 115 := hN
  unfold palinodelaw12_known at H
  refine V_run hN hn 3 0 [] [] ⟨[], [], 0⟩ [] (by kernel_rfl) rfl rfl ap0 ?_
  obtain ⟨r_2, h_3, H_65⟩ := of_bind H
  refine V_reg hN hn [(2, ⟨19, 1, [.c (.val (.int .i64 (3 : Int))), .c (.h 0)], [(0, .row (.pair (.int .i64) (.pair (.int .i64) .str)) ([((1 : Int), ((2 : Int), (ByteArray.mk #[120])))] : List (Int × (Int × ByteArray))))], .tup [(true, [.val (.int .i64 r_2.1), .imm (.slice (.pair (.int .i64) (.pair (.int .i64) .str))) r_2.2.1]), (false, [.val (.int .i64 r_2.2.2)])], [(0, .row (.pair (.int .i64) (.pair (.int .i64) .str)) ([((1 : Int), ((2 : Int), (ByteArray.mk #[120])))] : List (Int × (Int × ByteArray))))], [(0, 0)], 1⟩)] [] (calls_cons (delta_Build_gr_spec K (3 : Int) ([((1 : Int), ((2 : Int), (ByteArray.mk #[120])))] : List (Int × (Int × ByteArray))) r_2 h_3) (by kernel_rfl) calls_nil) 0 [1, 2] [1] ⟨[(1, .c (.h 1)), (2, .c (.val (.int .i64 r_2.2.2)))], [(1, .box [.val (.int .i64 r_2.1), .imm (.slice (.pair (.int .i64) (.pair (.int .i64) .str))) r_2.2.1])], 2⟩ [] (by kernel_rfl) rfl rfl ap0 (by kernel_rfl) (by kernel_rfl) ?_
  refine V_run hN hn 3 2 [1, 21] [1] ⟨[(1, .c (.h 1)), (21, .c (.val (.bool (r_2.2.2 != (0 : Int)))))], [(1, .box [.val (.int .i64 r_2.1), .imm (.slice (.pair (.int .i64) (.pair (.int .i64) .str))) r_2.2.1])], 2⟩ [] (by kernel_rfl) rfl rfl ap0 ?_
  refine VL_cond ((r_2.2.2 != (0 : Int))) (by kernel_rfl) ?_ ?_
  · intro b_6; have H_66 := of_t H_65 b_6
    refine V_run hN hn 2 2 [0] [] ⟨[(0, .c (.val (.bool false)))], [], 2⟩ [] (by kernel_rfl) rfl rfl ap0 ?_
    have H_68 := Option.some.inj (show some false = some r from H_66); subst H_68
    refine VL_ret ?_
    exact P_to [(0, .c (.val (.bool false)))] [] [] hn (by kernel_rfl) (by kernel_rfl) rfl rfl rfl (QF_retS (by kernel_rfl) (by kernel_rfl) rfl)
  · intro b_6; have H_67 := of_f H_65 b_6
    refine V_run hN hn 2 2 [1, 21] [1] ⟨[(1, .c (.h 1)), (21, .c (.val (.bool (r_2.2.2 != (0 : Int)))))], [(1, .box [.val (.int .i64 r_2.1), .imm (.slice (.pair (.int .i64) (.pair (.int .i64) .str))) r_2.2.1])], 2⟩ [] (by kernel_rfl) rfl rfl ap0 ?_
    obtain ⟨r_9, h_10, H_69⟩ := of_bind H_67
    refine V_reg hN hn [(1, ⟨10, 0, [.agg [.val (.int .i64 r_2.1), .imm (.slice (.pair (.int .i64) (.pair (.int .i64) .str))) r_2.2.1]], [], .tup [(true, [.val (.int .i64 r_9.1), .imm (.slice (.pair (.int .i64) (.pair (.int .i64) .str))) r_9.2.1]), (false, [.imm (.opt (.pair (.slice (.pair (.int .i64) (.int .i64))) (.int .i64))) r_9.2.2.1]), (false, [.val (.int .i64 r_9.2.2.2)])], [], [], 2⟩)] [] (calls_cons (factor_Split_spec K r_2.1 r_2.2.1 r_9 h_10) (by kernel_rfl) calls_nil) 2 [1, 3, 4, 5] [1, 2] ⟨[(1, .c (.h 1)), (3, .c (.h 2)), (4, .c (.imm (.opt (.pair (.slice (.pair (.int .i64) (.int .i64))) (.int .i64))) r_9.2.2.1)), (5, .c (.val (.int .i64 r_9.2.2.2)))], [(1, .box [.val (.int .i64 r_2.1), .imm (.slice (.pair (.int .i64) (.pair (.int .i64) .str))) r_2.2.1]), (2, .box [.val (.int .i64 r_9.1), .imm (.slice (.pair (.int .i64) (.pair (.int .i64) .str))) r_9.2.1])], 3⟩ [] (by kernel_rfl) rfl rfl ap0 (by kernel_rfl) (by kernel_rfl) ?_
    refine V_run hN hn 1 3 [1, 3, 4, 5] [1, 2] ⟨[(1, .c (.h 1)), (3, .c (.h 2)), (4, .c (.imm (.opt (.pair (.slice (.pair (.int .i64) (.int .i64))) (.int .i64))) r_9.2.2.1)), (5, .c (.val (.int .i64 r_9.2.2.2)))], [(1, .box [.val (.int .i64 r_2.1), .imm (.slice (.pair (.int .i64) (.pair (.int .i64) .str))) r_2.2.1]), (2, .box [.val (.int .i64 r_9.1), .imm (.slice (.pair (.int .i64) (.pair (.int .i64) .str))) r_9.2.1])], 3⟩ [] (by kernel_rfl) rfl rfl ap0 ?_
    obtain ⟨r_13, h_14, H_70⟩ := of_bind H_69
    refine V_reg hN hn [(2, ⟨27, 0, [.agg [.val (.int .i64 r_9.1), .imm (.slice (.pair (.int .i64) (.pair (.int .i64) .str))) r_9.2.1], .c (.imm (.opt (.pair (.slice (.pair (.int .i64) (.int .i64))) (.int .i64))) r_9.2.2.1)], [], .tup [(true, [.val (.int .i64 r_13.1), .imm (.slice (.pair (.int .i64) (.pair (.int .i64) .str))) r_13.2.1]), (false, [.val (.int .i64 r_13.2.2)])], [], [], 3⟩)] [] (calls_cons (factor_Join_spec K r_9.1 r_9.2.1 r_9.2.2.1 r_13 h_14) (by kernel_rfl) calls_nil) 3 [1, 3, 4, 5, 6, 7] [1, 2, 3] ⟨[(1, .c (.h 1)), (3, .c (.h 2)), (4, .c (.imm (.opt (.pair (.slice (.pair (.int .i64) (.int .i64))) (.int .i64))) r_9.2.2.1)), (5, .c (.val (.int .i64 r_9.2.2.2))), (6, .c (.h 3)), (7, .c (.val (.int .i64 r_13.2.2)))], [(1, .box [.val (.int .i64 r_2.1), .imm (.slice (.pair (.int .i64) (.pair (.int .i64) .str))) r_2.2.1]), (2, .box [.val (.int .i64 r_9.1), .imm (.slice (.pair (.int .i64) (.pair (.int .i64) .str))) r_9.2.1]), (3, .box [.val (.int .i64 r_13.1), .imm (.slice (.pair (.int .i64) (.pair (.int .i64) .str))) r_13.2.1])], 4⟩ [] (by kernel_rfl) rfl rfl ap0 (by kernel_rfl) (by kernel_rfl) ?_
    refine V_run hN hn 1 4 [1, 3, 4, 5, 6, 7] [1, 2, 3] ⟨[(1, .c (.h 1)), (3, .c (.h 2)), (4, .c (.imm (.opt (.pair (.slice (.pair (.int .i64) (.int .i64))) (.int .i64))) r_9.2.2.1)), (5, .c (.val (.int .i64 r_9.2.2.2))), (6, .c (.h 3)), (7, .c (.val (.int .i64 r_13.2.2)))], [(1, .box [.val (.int .i64 r_2.1), .imm (.slice (.pair (.int .i64) (.pair (.int .i64) .str))) r_2.2.1]), (2, .box [.val (.int .i64 r_9.1), .imm (.slice (.pair (.int .i64) (.pair (.int .i64) .str))) r_9.2.1]), (3, .box [.val (.int .i64 r_13.1), .imm (.slice (.pair (.int .i64) (.pair (.int .i64) .str))) r_13.2.1])], 4⟩ [] (by kernel_rfl) rfl rfl ap0 ?_
    obtain ⟨r_17, h_18, H_71⟩ := of_bind H_70
    refine V_reg hN hn [(2, ⟨27, 0, [.agg [.val (.int .i64 r_2.1), .imm (.slice (.pair (.int .i64) (.pair (.int .i64) .str))) r_2.2.1], .c (.imm (.opt (.pair (.slice (.pair (.int .i64) (.int .i64))) (.int .i64))) r_9.2.2.1)], [], .tup [(true, [.val (.int .i64 r_17.1), .imm (.slice (.pair (.int .i64) (.pair (.int .i64) .str))) r_17.2.1]), (false, [.val (.int .i64 r_17.2.2)])], [], [], 4⟩)] [] (calls_cons (factor_Join_spec K r_2.1 r_2.2.1 r_9.2.2.1 r_17 h_18) (by kernel_rfl) calls_nil) 4 [1, 3, 4, 5, 6, 7, 9] [1, 2, 3] ⟨[(1, .c (.h 1)), (3, .c (.h 2)), (4, .c (.imm (.opt (.pair (.slice (.pair (.int .i64) (.int .i64))) (.int .i64))) r_9.2.2.1)), (5, .c (.val (.int .i64 r_9.2.2.2))), (6, .c (.h 3)), (7, .c (.val (.int .i64 r_13.2.2))), (9, .c (.val (.int .i64 r_17.2.2)))], [(1, .box [.val (.int .i64 r_2.1), .imm (.slice (.pair (.int .i64) (.pair (.int .i64) .str))) r_2.2.1]), (2, .box [.val (.int .i64 r_9.1), .imm (.slice (.pair (.int .i64) (.pair (.int .i64) .str))) r_9.2.1]), (3, .box [.val (.int .i64 r_13.1), .imm (.slice (.pair (.int .i64) (.pair (.int .i64) .str))) r_13.2.1])], 5⟩ [] (by kernel_rfl) rfl rfl ap0 (by kernel_rfl) (by kernel_rfl) ?_
    refine V_run hN hn 1 5 [1, 3, 4, 5, 6, 7, 9] [1, 2, 3] ⟨[(1, .c (.h 1)), (3, .c (.h 2)), (4, .c (.imm (.opt (.pair (.slice (.pair (.int .i64) (.int .i64))) (.int .i64))) r_9.2.2.1)), (5, .c (.val (.int .i64 r_9.2.2.2))), (6, .c (.h 3)), (7, .c (.val (.int .i64 r_13.2.2))), (9, .c (.val (.int .i64 r_17.2.2)))], [(1, .box [.val (.int .i64 r_2.1), .imm (.slice (.pair (.int .i64) (.pair (.int .i64) .str))) r_2.2.1]), (2, .box [.val (.int .i64 r_9.1), .imm (.slice (.pair (.int .i64) (.pair (.int .i64) .str))) r_9.2.1]), (3, .box [.val (.int .i64 r_13.1), .imm (.slice (.pair (.int .i64) (.pair (.int .i64) .str))) r_13.2.1])], 5⟩ [] (by kernel_rfl) rfl rfl ap0 ?_
    obtain ⟨r_21, h_22, H_72⟩ := of_bind H_71
    refine V_reg hN hn [(1, ⟨11, 0, [.agg [.val (.int .i64 r_2.1), .imm (.slice (.pair (.int .i64) (.pair (.int .i64) .str))) r_2.2.1]], [], .tup [(false, [.imm (.opt (.pair (.slice (.pair (.int .i64) (.int .i64))) (.int .i64))) r_21.1]), (false, [.val (.int .i64 r_21.2)])], [], [], 5⟩)] [] (calls_cons (factor_Inserted_spec K r_2.1 r_2.2.1 r_21 h_22) (by kernel_rfl) calls_nil) 5 [1, 3, 4, 5, 6, 7, 9, 10, 11] [1, 2, 3] ⟨[(1, .c (.h 1)), (3, .c (.h 2)), (4, .c (.imm (.opt (.pair (.slice (.pair (.int .i64) (.int .i64))) (.int .i64))) r_9.2.2.1)), (5, .c (.val (.int .i64 r_9.2.2.2))), (6, .c (.h 3)), (7, .c (.val (.int .i64 r_13.2.2))), (9, .c (.val (.int .i64 r_17.2.2))), (10, .c (.imm (.opt (.pair (.slice (.pair (.int .i64) (.int .i64))) (.int .i64))) r_21.1)), (11, .c (.val (.int .i64 r_21.2)))], [(1, .box [.val (.int .i64 r_2.1), .imm (.slice (.pair (.int .i64) (.pair (.int .i64) .str))) r_2.2.1]), (2, .box [.val (.int .i64 r_9.1), .imm (.slice (.pair (.int .i64) (.pair (.int .i64) .str))) r_9.2.1]), (3, .box [.val (.int .i64 r_13.1), .imm (.slice (.pair (.int .i64) (.pair (.int .i64) .str))) r_13.2.1])], 5⟩ [] (by kernel_rfl) rfl rfl ap0 (by kernel_rfl) (by kernel_rfl) ?_
    refine V_run hN hn 1 5 [1, 3, 4, 5, 6, 7, 9, 10, 11] [1, 2, 3] ⟨[(1, .c (.h 1)), (3, .c (.h 2)), (4, .c (.imm (.opt (.pair (.slice (.pair (.int .i64) (.int .i64))) (.int .i64))) r_9.2.2.1)), (5, .c (.val (.int .i64 r_9.2.2.2))), (6, .c (.h 3)), (7, .c (.val (.int .i64 r_13.2.2))), (9, .c (.val (.int .i64 r_17.2.2))), (10, .c (.imm (.opt (.pair (.slice (.pair (.int .i64) (.int .i64))) (.int .i64))) r_21.1)), (11, .c (.val (.int .i64 r_21.2)))], [(1, .box [.val (.int .i64 r_2.1), .imm (.slice (.pair (.int .i64) (.pair (.int .i64) .str))) r_2.2.1]), (2, .box [.val (.int .i64 r_9.1), .imm (.slice (.pair (.int .i64) (.pair (.int .i64) .str))) r_9.2.1]), (3, .box [.val (.int .i64 r_13.1), .imm (.slice (.pair (.int .i64) (.pair (.int .i64) .str))) r_13.2.1])], 5⟩ [] (by kernel_rfl) rfl rfl ap0 ?_
    obtain ⟨r_25, h_26, H_73⟩ := of_bind H_72
    refine V_reg hN hn [(1, ⟨12, 0, [.agg [.val (.int .i64 (-1 : Int)), .val (.slice none 0 0)]], [], .tup [(false, [.imm (.opt (.pair (.slice (.pair (.int .i64) (.int .i64))) (.int .i64))) r_25.1]), (false, [.val (.int .i64 r_25.2)])], [], [], 5⟩)] [] (calls_cons (factor_Deleted_sgn_spec K (-1 : Int) r_25 h_26) (by kernel_rfl) calls_nil) 5 [1, 3, 4, 5, 6, 7, 9, 10, 11, 13] [1, 2, 3] ⟨[(1, .c (.h 1)), (3, .c (.h 2)), (4, .c (.imm (.opt (.pair (.slice (.pair (.int .i64) (.int .i64))) (.int .i64))) r_9.2.2.1)), (5, .c (.val (.int .i64 r_9.2.2.2))), (6, .c (.h 3)), (7, .c (.val (.int .i64 r_13.2.2))), (9, .c (.val (.int .i64 r_17.2.2))), (10, .c (.imm (.opt (.pair (.slice (.pair (.int .i64) (.int .i64))) (.int .i64))) r_21.1)), (11, .c (.val (.int .i64 r_21.2))), (13, .c (.val (.int .i64 r_25.2)))], [(1, .box [.val (.int .i64 r_2.1), .imm (.slice (.pair (.int .i64) (.pair (.int .i64) .str))) r_2.2.1]), (2, .box [.val (.int .i64 r_9.1), .imm (.slice (.pair (.int .i64) (.pair (.int .i64) .str))) r_9.2.1]), (3, .box [.val (.int .i64 r_13.1), .imm (.slice (.pair (.int .i64) (.pair (.int .i64) .str))) r_13.2.1])], 5⟩ [] (by kernel_rfl) rfl rfl ap0 (by kernel_rfl) (by kernel_rfl) ?_
    refine V_run hN hn 1 5 [1, 3, 4, 5, 6, 7, 9, 10, 11, 13] [1, 2, 3] ⟨[(1, .c (.h 1)), (3, .c (.h 2)), (4, .c (.imm (.opt (.pair (.slice (.pair (.int .i64) (.int .i64))) (.int .i64))) r_9.2.2.1)), (5, .c (.val (.int .i64 r_9.2.2.2))), (6, .c (.h 3)), (7, .c (.val (.int .i64 r_13.2.2))), (9, .c (.val (.int .i64 r_17.2.2))), (10, .c (.imm (.opt (.pair (.slice (.pair (.int .i64) (.int .i64))) (.int .i64))) r_21.1)), (11, .c (.val (.int .i64 r_21.2))), (13, .c (.val (.int .i64 r_25.2)))], [(1, .box [.val (.int .i64 r_2.1), .imm (.slice (.pair (.int .i64) (.pair (.int .i64) .str))) r_2.2.1]), (2, .box [.val (.int .i64 r_9.1), .imm (.slice (.pair (.int .i64) (.pair (.int .i64) .str))) r_9.2.1]), (3, .box [.val (.int .i64 r_13.1), .imm (.slice (.pair (.int .i64) (.pair (.int .i64) .str))) r_13.2.1])], 5⟩ [] (by kernel_rfl) rfl rfl ap0 ?_
    rcases Bool.eq_false_or_eq_true ((r_9.2.2.2 == (0 : Int))) with b_29 | b_29
    · have H_74 := of_t H_73 b_29
      rcases Bool.eq_false_or_eq_true (((((List.length r_9.2.1) : Nat) : Int) == (3 : Int))) with b_30 | b_30
      · have H_76 := of_t H_74 b_30
        rcases Bool.eq_false_or_eq_true (((List.getD r_9.2.1 0 ((0 : Int), ((0 : Int), ByteArray.empty))).2.1 == (1 : Int))) with b_31 | b_31
        · have H_78 := of_t H_76 b_31
          rcases Bool.eq_false_or_eq_true (((List.getD r_9.2.1 2 ((0 : Int), ((0 : Int), ByteArray.empty))).1 == (1 : Int))) with b_32 | b_32
          · have H_80 := of_t H_78 b_32
            obtain ⟨r_33, h_34, H_82⟩ := of_bind H_80
            rcases Bool.eq_false_or_eq_true ((r_33 == (1 : Int))) with b_35 | b_35
            · have H_83 := of_t H_82 b_35
              obtain ⟨r_36, h_37, H_85⟩ := of_bind H_83
              rcases Bool.eq_false_or_eq_true ((r_36 == (1 : Int))) with b_38 | b_38
              · have H_86 := of_t H_85 b_38
                rcases Bool.eq_false_or_eq_true ((r_13.2.2 == (0 : Int))) with b_39 | b_39
                · have H_88 := of_t H_86 b_39
                  obtain ⟨r_40, h_41, H_90⟩ := of_bind H_88
                  rcases Bool.eq_false_or_eq_true (r_40) with b_42 | b_42
                  · have H_91 := of_t H_90 b_42
                    rcases Bool.eq_false_or_eq_true ((r_17.2.2 == (12 : Int))) with b_43 | b_43
                    · have H_93 := of_t H_91 b_43
                      rcases Bool.eq_false_or_eq_true ((r_21.2 == (0 : Int))) with b_44 | b_44
                      · have H_95 := of_t H_93 b_44
                        obtain ⟨r_45, h_46, H_97⟩ := of_bind H_95
                        rcases Bool.eq_false_or_eq_true ((r_45 == (1 : Int))) with b_47 | b_47
                        · have H_98 := of_t H_97 b_47
                          obtain ⟨r_48, h_49, H_100⟩ := of_bind H_98
                          rcases Bool.eq_false_or_eq_true ((r_48 == (1 : Int))) with b_50 | b_50
                          · have H_101 := of_t H_100 b_50
                            obtain ⟨c_51, H_103⟩ := of_if H_101
                            refine V_reg hN hn [(26, ⟨38, 0, [.c (.imm (.opt (.pair (.slice (.pair (.int .i64) (.int .i64))) (.int .i64))) r_9.2.2.1), .c (.val (.int .i64 (1 : Int)))], [], .c (.val (.int .i64 r_33)), [], [], 5⟩), (31, ⟨20, 0, [.c (.imm (.opt (.pair (.slice (.pair (.int .i64) (.int .i64))) (.int .i64))) r_9.2.2.1)], [], .c (.val (.int .i64 r_36)), [], [], 5⟩), (41, ⟨32, 0, [.agg [.val (.int .i64 r_13.1), .imm (.slice (.pair (.int .i64) (.pair (.int .i64) .str))) r_13.2.1], .agg [.val (.int .i64 r_2.1), .imm (.slice (.pair (.int .i64) (.pair (.int .i64) .str))) r_2.2.1]], [], .c (.val (.bool r_40)), [], [], 5⟩), (53, ⟨38, 0, [.c (.imm (.opt (.pair (.slice (.pair (.int .i64) (.int .i64))) (.int .i64))) r_21.1), .c (.val (.int .i64 (1 : Int)))], [], .c (.val (.int .i64 r_45)), [], [], 5⟩), (58, ⟨20, 0, [.c (.imm (.opt (.pair (.slice (.pair (.int .i64) (.int .i64))) (.int .i64))) r_21.1)], [], .c (.val (.int .i64 r_48)), [], [], 5⟩)] [(52, true), (58, true), (66, true), (74, true), (79, true), (84, true), (88, true), (93, true), (97, true), (101, true), (106, true), (111, true)] (calls_cons (subset_Subset_Count_spec K r_9.2.2.1 (1 : Int) r_33 h_34) (by kernel_rfl) (calls_cons (subset_Subset_Size_spec K r_9.2.2.1 r_36 h_37) (by kernel_rfl) (calls_cons (delta_Same_spec K r_13.1 r_13.2.1 r_2.1 r_2.2.1 r_40 h_41) (by kernel_rfl) (calls_cons (subset_Subset_Count_spec K r_21.1 (1 : Int) r_45 h_46) (by kernel_rfl) (calls_cons (subset_Subset_Size_spec K r_21.1 r_48 h_49) (by kernel_rfl) calls_nil))))) 5 [0] [] ⟨[(0, .c (.val (.bool (r_25.2 == (12 : Int)))))], [], 5⟩ [(r_9.2.2.2 == (0 : Int)) = true, ((((List.length r_9.2.1) : Nat) : Int) == (3 : Int)) = true, (0 : Int) ≤ (0 : Int), (0 : Int) < (((List.length r_9.2.1) : Nat) : Int), ((List.getD r_9.2.1 0 ((0 : Int), ((0 : Int), ByteArray.empty))).2.1 == (1 : Int)) = true, (0 : Int) ≤ (2 : Int), (2 : Int) < (((List.length r_9.2.1) : Nat) : Int), ((List.getD r_9.2.1 2 ((0 : Int), ((0 : Int), ByteArray.empty))).1 == (1 : Int)) = true, (r_33 == (1 : Int)) = true, (r_36 == (1 : Int)) = true, (r_13.2.2 == (0 : Int)) = true, r_40 = true, (r_17.2.2 == (12 : Int)) = true, (r_21.2 == (0 : Int)) = true, (r_45 == (1 : Int)) = true, (r_48 == (1 : Int)) = true] (by kernel_rfl) rfl rfl (ap2 b_29 (ap2 b_30 (ap2 (by decide) (ap2 c_51.1 (ap2 b_31 (ap2 (by decide) (ap2 c_51.2 (ap2 b_32 (ap2 b_35 (ap2 b_38 (ap2 b_39 (ap2 b_42 (ap2 b_43 (ap2 b_44 (ap2 b_47 (ap1 b_50)))))))))))))))) (by kernel_rfl) (by kernel_rfl) ?_
                            have H_104 := Option.some.inj (show some (r_25.2 == (12 : Int)) = some r from H_103); subst H_104
                            refine VL_ret ?_
                            exact P_to [(0, .c (.val (.bool (r_25.2 == (12 : Int)))))] [] [] hn (by kernel_rfl) (by kernel_rfl) rfl rfl rfl (QF_retS (by kernel_rfl) (by kernel_rfl) rfl)
                          · have H_102 := of_f H_100 b_50
                            obtain ⟨c_52, H_105⟩ := of_if H_102
                            refine V_reg hN hn [(26, ⟨38, 0, [.c (.imm (.opt (.pair (.slice (.pair (.int .i64) (.int .i64))) (.int .i64))) r_9.2.2.1), .c (.val (.int .i64 (1 : Int)))], [], .c (.val (.int .i64 r_33)), [], [], 5⟩), (31, ⟨20, 0, [.c (.imm (.opt (.pair (.slice (.pair (.int .i64) (.int .i64))) (.int .i64))) r_9.2.2.1)], [], .c (.val (.int .i64 r_36)), [], [], 5⟩), (41, ⟨32, 0, [.agg [.val (.int .i64 r_13.1), .imm (.slice (.pair (.int .i64) (.pair (.int .i64) .str))) r_13.2.1], .agg [.val (.int .i64 r_2.1), .imm (.slice (.pair (.int .i64) (.pair (.int .i64) .str))) r_2.2.1]], [], .c (.val (.bool r_40)), [], [], 5⟩), (53, ⟨38, 0, [.c (.imm (.opt (.pair (.slice (.pair (.int .i64) (.int .i64))) (.int .i64))) r_21.1), .c (.val (.int .i64 (1 : Int)))], [], .c (.val (.int .i64 r_45)), [], [], 5⟩), (58, ⟨20, 0, [.c (.imm (.opt (.pair (.slice (.pair (.int .i64) (.int .i64))) (.int .i64))) r_21.1)], [], .c (.val (.int .i64 r_48)), [], [], 5⟩)] [(52, true), (58, true), (66, true), (74, true), (79, true), (84, true), (88, true), (93, true), (97, true), (101, true), (106, true), (111, false)] (calls_cons (subset_Subset_Count_spec K r_9.2.2.1 (1 : Int) r_33 h_34) (by kernel_rfl) (calls_cons (subset_Subset_Size_spec K r_9.2.2.1 r_36 h_37) (by kernel_rfl) (calls_cons (delta_Same_spec K r_13.1 r_13.2.1 r_2.1 r_2.2.1 r_40 h_41) (by kernel_rfl) (calls_cons (subset_Subset_Count_spec K r_21.1 (1 : Int) r_45 h_46) (by kernel_rfl) (calls_cons (subset_Subset_Size_spec K r_21.1 r_48 h_49) (by kernel_rfl) calls_nil))))) 5 [0] [] ⟨[(0, .c (.val (.bool false)))], [], 5⟩ [(r_9.2.2.2 == (0 : Int)) = true, ((((List.length r_9.2.1) : Nat) : Int) == (3 : Int)) = true, (0 : Int) ≤ (0 : Int), (0 : Int) < (((List.length r_9.2.1) : Nat) : Int), ((List.getD r_9.2.1 0 ((0 : Int), ((0 : Int), ByteArray.empty))).2.1 == (1 : Int)) = true, (0 : Int) ≤ (2 : Int), (2 : Int) < (((List.length r_9.2.1) : Nat) : Int), ((List.getD r_9.2.1 2 ((0 : Int), ((0 : Int), ByteArray.empty))).1 == (1 : Int)) = true, (r_33 == (1 : Int)) = true, (r_36 == (1 : Int)) = true, (r_13.2.2 == (0 : Int)) = true, r_40 = true, (r_17.2.2 == (12 : Int)) = true, (r_21.2 == (0 : Int)) = true, (r_45 == (1 : Int)) = true, (r_48 == (1 : Int)) = false] (by kernel_rfl) rfl rfl (ap2 b_29 (ap2 b_30 (ap2 (by decide) (ap2 c_52.1 (ap2 b_31 (ap2 (by decide) (ap2 c_52.2 (ap2 b_32 (ap2 b_35 (ap2 b_38 (ap2 b_39 (ap2 b_42 (ap2 b_43 (ap2 b_44 (ap2 b_47 (ap1 b_50)))))))))))))))) (by kernel_rfl) (by kernel_rfl) ?_
                            have H_106 := Option.some.inj (show some false = some r from H_105); subst H_106
                            refine VL_ret ?_
                            exact P_to [(0, .c (.val (.bool false)))] [] [] hn (by kernel_rfl) (by kernel_rfl) rfl rfl rfl (QF_retS (by kernel_rfl) (by kernel_rfl) rfl)
                        · have H_99 := of_f H_97 b_47
                          obtain ⟨c_53, H_107⟩ := of_if H_99
                          refine V_reg hN hn [(26, ⟨38, 0, [.c (.imm (.opt (.pair (.slice (.pair (.int .i64) (.int .i64))) (.int .i64))) r_9.2.2.1), .c (.val (.int .i64 (1 : Int)))], [], .c (.val (.int .i64 r_33)), [], [], 5⟩), (31, ⟨20, 0, [.c (.imm (.opt (.pair (.slice (.pair (.int .i64) (.int .i64))) (.int .i64))) r_9.2.2.1)], [], .c (.val (.int .i64 r_36)), [], [], 5⟩), (41, ⟨32, 0, [.agg [.val (.int .i64 r_13.1), .imm (.slice (.pair (.int .i64) (.pair (.int .i64) .str))) r_13.2.1], .agg [.val (.int .i64 r_2.1), .imm (.slice (.pair (.int .i64) (.pair (.int .i64) .str))) r_2.2.1]], [], .c (.val (.bool r_40)), [], [], 5⟩), (53, ⟨38, 0, [.c (.imm (.opt (.pair (.slice (.pair (.int .i64) (.int .i64))) (.int .i64))) r_21.1), .c (.val (.int .i64 (1 : Int)))], [], .c (.val (.int .i64 r_45)), [], [], 5⟩)] [(52, true), (58, true), (66, true), (74, true), (79, true), (84, true), (88, true), (93, true), (97, true), (101, true), (106, false)] (calls_cons (subset_Subset_Count_spec K r_9.2.2.1 (1 : Int) r_33 h_34) (by kernel_rfl) (calls_cons (subset_Subset_Size_spec K r_9.2.2.1 r_36 h_37) (by kernel_rfl) (calls_cons (delta_Same_spec K r_13.1 r_13.2.1 r_2.1 r_2.2.1 r_40 h_41) (by kernel_rfl) (calls_cons (subset_Subset_Count_spec K r_21.1 (1 : Int) r_45 h_46) (by kernel_rfl) calls_nil)))) 5 [0] [] ⟨[(0, .c (.val (.bool false)))], [], 5⟩ [(r_9.2.2.2 == (0 : Int)) = true, ((((List.length r_9.2.1) : Nat) : Int) == (3 : Int)) = true, (0 : Int) ≤ (0 : Int), (0 : Int) < (((List.length r_9.2.1) : Nat) : Int), ((List.getD r_9.2.1 0 ((0 : Int), ((0 : Int), ByteArray.empty))).2.1 == (1 : Int)) = true, (0 : Int) ≤ (2 : Int), (2 : Int) < (((List.length r_9.2.1) : Nat) : Int), ((List.getD r_9.2.1 2 ((0 : Int), ((0 : Int), ByteArray.empty))).1 == (1 : Int)) = true, (r_33 == (1 : Int)) = true, (r_36 == (1 : Int)) = true, (r_13.2.2 == (0 : Int)) = true, r_40 = true, (r_17.2.2 == (12 : Int)) = true, (r_21.2 == (0 : Int)) = true, (r_45 == (1 : Int)) = false] (by kernel_rfl) rfl rfl (ap2 b_29 (ap2 b_30 (ap2 (by decide) (ap2 c_53.1 (ap2 b_31 (ap2 (by decide) (ap2 c_53.2 (ap2 b_32 (ap2 b_35 (ap2 b_38 (ap2 b_39 (ap2 b_42 (ap2 b_43 (ap2 b_44 (ap1 b_47))))))))))))))) (by kernel_rfl) (by kernel_rfl) ?_
                          have H_108 := Option.some.inj (show some false = some r from H_107); subst H_108
                          refine VL_ret ?_
                          exact P_to [(0, .c (.val (.bool false)))] [] [] hn (by kernel_rfl) (by kernel_rfl) rfl rfl rfl (QF_retS (by kernel_rfl) (by kernel_rfl) rfl)
                      · have H_96 := of_f H_93 b_44
                        obtain ⟨c_54, H_109⟩ := of_if H_96
                        refine V_reg hN hn [(26, ⟨38, 0, [.c (.imm (.opt (.pair (.slice (.pair (.int .i64) (.int .i64))) (.int .i64))) r_9.2.2.1), .c (.val (.int .i64 (1 : Int)))], [], .c (.val (.int .i64 r_33)), [], [], 5⟩), (31, ⟨20, 0, [.c (.imm (.opt (.pair (.slice (.pair (.int .i64) (.int .i64))) (.int .i64))) r_9.2.2.1)], [], .c (.val (.int .i64 r_36)), [], [], 5⟩), (41, ⟨32, 0, [.agg [.val (.int .i64 r_13.1), .imm (.slice (.pair (.int .i64) (.pair (.int .i64) .str))) r_13.2.1], .agg [.val (.int .i64 r_2.1), .imm (.slice (.pair (.int .i64) (.pair (.int .i64) .str))) r_2.2.1]], [], .c (.val (.bool r_40)), [], [], 5⟩)] [(52, true), (58, true), (66, true), (74, true), (79, true), (84, true), (88, true), (93, true), (97, true), (101, false)] (calls_cons (subset_Subset_Count_spec K r_9.2.2.1 (1 : Int) r_33 h_34) (by kernel_rfl) (calls_cons (subset_Subset_Size_spec K r_9.2.2.1 r_36 h_37) (by kernel_rfl) (calls_cons (delta_Same_spec K r_13.1 r_13.2.1 r_2.1 r_2.2.1 r_40 h_41) (by kernel_rfl) calls_nil))) 5 [0] [] ⟨[(0, .c (.val (.bool false)))], [], 5⟩ [(r_9.2.2.2 == (0 : Int)) = true, ((((List.length r_9.2.1) : Nat) : Int) == (3 : Int)) = true, (0 : Int) ≤ (0 : Int), (0 : Int) < (((List.length r_9.2.1) : Nat) : Int), ((List.getD r_9.2.1 0 ((0 : Int), ((0 : Int), ByteArray.empty))).2.1 == (1 : Int)) = true, (0 : Int) ≤ (2 : Int), (2 : Int) < (((List.length r_9.2.1) : Nat) : Int), ((List.getD r_9.2.1 2 ((0 : Int), ((0 : Int), ByteArray.empty))).1 == (1 : Int)) = true, (r_33 == (1 : Int)) = true, (r_36 == (1 : Int)) = true, (r_13.2.2 == (0 : Int)) = true, r_40 = true, (r_17.2.2 == (12 : Int)) = true, (r_21.2 == (0 : Int)) = false] (by kernel_rfl) rfl rfl (ap2 b_29 (ap2 b_30 (ap2 (by decide) (ap2 c_54.1 (ap2 b_31 (ap2 (by decide) (ap2 c_54.2 (ap2 b_32 (ap2 b_35 (ap2 b_38 (ap2 b_39 (ap2 b_42 (ap2 b_43 (ap1 b_44)))))))))))))) (by kernel_rfl) (by kernel_rfl) ?_
                        have H_110 := Option.some.inj (show some false = some r from H_109); subst H_110
                        refine VL_ret ?_
                        exact P_to [(0, .c (.val (.bool false)))] [] [] hn (by kernel_rfl) (by kernel_rfl) rfl rfl rfl (QF_retS (by kernel_rfl) (by kernel_rfl) rfl)
                    · have H_94 := of_f H_91 b_43
                      obtain ⟨c_55, H_111⟩ := of_if H_94
                      refine V_reg hN hn [(26, ⟨38, 0, [.c (.imm (.opt (.pair (.slice (.pair (.int .i64) (.int .i64))) (.int .i64))) r_9.2.2.1), .c (.val (.int .i64 (1 : Int)))], [], .c (.val (.int .i64 r_33)), [], [], 5⟩), (31, ⟨20, 0, [.c (.imm (.opt (.pair (.slice (.pair (.int .i64) (.int .i64))) (.int .i64))) r_9.2.2.1)], [], .c (.val (.int .i64 r_36)), [], [], 5⟩), (41, ⟨32, 0, [.agg [.val (.int .i64 r_13.1), .imm (.slice (.pair (.int .i64) (.pair (.int .i64) .str))) r_13.2.1], .agg [.val (.int .i64 r_2.1), .imm (.slice (.pair (.int .i64) (.pair (.int .i64) .str))) r_2.2.1]], [], .c (.val (.bool r_40)), [], [], 5⟩)] [(52, true), (58, true), (66, true), (74, true), (79, true), (84, true), (88, true), (93, true), (97, false)] (calls_cons (subset_Subset_Count_spec K r_9.2.2.1 (1 : Int) r_33 h_34) (by kernel_rfl) (calls_cons (subset_Subset_Size_spec K r_9.2.2.1 r_36 h_37) (by kernel_rfl) (calls_cons (delta_Same_spec K r_13.1 r_13.2.1 r_2.1 r_2.2.1 r_40 h_41) (by kernel_rfl) calls_nil))) 5 [0] [] ⟨[(0, .c (.val (.bool false)))], [], 5⟩ [(r_9.2.2.2 == (0 : Int)) = true, ((((List.length r_9.2.1) : Nat) : Int) == (3 : Int)) = true, (0 : Int) ≤ (0 : Int), (0 : Int) < (((List.length r_9.2.1) : Nat) : Int), ((List.getD r_9.2.1 0 ((0 : Int), ((0 : Int), ByteArray.empty))).2.1 == (1 : Int)) = true, (0 : Int) ≤ (2 : Int), (2 : Int) < (((List.length r_9.2.1) : Nat) : Int), ((List.getD r_9.2.1 2 ((0 : Int), ((0 : Int), ByteArray.empty))).1 == (1 : Int)) = true, (r_33 == (1 : Int)) = true, (r_36 == (1 : Int)) = true, (r_13.2.2 == (0 : Int)) = true, r_40 = true, (r_17.2.2 == (12 : Int)) = false] (by kernel_rfl) rfl rfl (ap2 b_29 (ap2 b_30 (ap2 (by decide) (ap2 c_55.1 (ap2 b_31 (ap2 (by decide) (ap2 c_55.2 (ap2 b_32 (ap2 b_35 (ap2 b_38 (ap2 b_39 (ap2 b_42 (ap1 b_43))))))))))))) (by kernel_rfl) (by kernel_rfl) ?_
                      have H_112 := Option.some.inj (show some false = some r from H_111); subst H_112
                      refine VL_ret ?_
                      exact P_to [(0, .c (.val (.bool false)))] [] [] hn (by kernel_rfl) (by kernel_rfl) rfl rfl rfl (QF_retS (by kernel_rfl) (by kernel_rfl) rfl)
                  · have H_92 := of_f H_90 b_42
                    obtain ⟨c_56, H_113⟩ := of_if H_92
                    refine V_reg hN hn [(26, ⟨38, 0, [.c (.imm (.opt (.pair (.slice (.pair (.int .i64) (.int .i64))) (.int .i64))) r_9.2.2.1), .c (.val (.int .i64 (1 : Int)))], [], .c (.val (.int .i64 r_33)), [], [], 5⟩), (31, ⟨20, 0, [.c (.imm (.opt (.pair (.slice (.pair (.int .i64) (.int .i64))) (.int .i64))) r_9.2.2.1)], [], .c (.val (.int .i64 r_36)), [], [], 5⟩), (41, ⟨32, 0, [.agg [.val (.int .i64 r_13.1), .imm (.slice (.pair (.int .i64) (.pair (.int .i64) .str))) r_13.2.1], .agg [.val (.int .i64 r_2.1), .imm (.slice (.pair (.int .i64) (.pair (.int .i64) .str))) r_2.2.1]], [], .c (.val (.bool r_40)), [], [], 5⟩)] [(52, true), (58, true), (66, true), (74, true), (79, true), (84, true), (88, true), (93, false)] (calls_cons (subset_Subset_Count_spec K r_9.2.2.1 (1 : Int) r_33 h_34) (by kernel_rfl) (calls_cons (subset_Subset_Size_spec K r_9.2.2.1 r_36 h_37) (by kernel_rfl) (calls_cons (delta_Same_spec K r_13.1 r_13.2.1 r_2.1 r_2.2.1 r_40 h_41) (by kernel_rfl) calls_nil))) 5 [0] [] ⟨[(0, .c (.val (.bool false)))], [], 5⟩ [(r_9.2.2.2 == (0 : Int)) = true, ((((List.length r_9.2.1) : Nat) : Int) == (3 : Int)) = true, (0 : Int) ≤ (0 : Int), (0 : Int) < (((List.length r_9.2.1) : Nat) : Int), ((List.getD r_9.2.1 0 ((0 : Int), ((0 : Int), ByteArray.empty))).2.1 == (1 : Int)) = true, (0 : Int) ≤ (2 : Int), (2 : Int) < (((List.length r_9.2.1) : Nat) : Int), ((List.getD r_9.2.1 2 ((0 : Int), ((0 : Int), ByteArray.empty))).1 == (1 : Int)) = true, (r_33 == (1 : Int)) = true, (r_36 == (1 : Int)) = true, (r_13.2.2 == (0 : Int)) = true, r_40 = false] (by kernel_rfl) rfl rfl (ap2 b_29 (ap2 b_30 (ap2 (by decide) (ap2 c_56.1 (ap2 b_31 (ap2 (by decide) (ap2 c_56.2 (ap2 b_32 (ap2 b_35 (ap2 b_38 (ap2 b_39 (ap1 b_42)))))))))))) (by kernel_rfl) (by kernel_rfl) ?_
                    have H_114 := Option.some.inj (show some false = some r from H_113); subst H_114
                    refine VL_ret ?_
                    exact P_to [(0, .c (.val (.bool false)))] [] [] hn (by kernel_rfl) (by kernel_rfl) rfl rfl rfl (QF_retS (by kernel_rfl) (by kernel_rfl) rfl)
                · have H_89 := of_f H_86 b_39
                  obtain ⟨c_57, H_115⟩ := of_if H_89
                  refine V_reg hN hn [(26, ⟨38, 0, [.c (.imm (.opt (.pair (.slice (.pair (.int .i64) (.int .i64))) (.int .i64))) r_9.2.2.1), .c (.val (.int .i64 (1 : Int)))], [], .c (.val (.int .i64 r_33)), [], [], 5⟩), (31, ⟨20, 0, [.c (.imm (.opt (.pair (.slice (.pair (.int .i64) (.int .i64))) (.int .i64))) r_9.2.2.1)], [], .c (.val (.int .i64 r_36)), [], [], 5⟩)] [(52, true), (58, true), (66, true), (74, true), (79, true), (84, true), (88, false)] (calls_cons (subset_Subset_Count_spec K r_9.2.2.1 (1 : Int) r_33 h_34) (by kernel_rfl) (calls_cons (subset_Subset_Size_spec K r_9.2.2.1 r_36 h_37) (by kernel_rfl) calls_nil)) 5 [0] [] ⟨[(0, .c (.val (.bool false)))], [], 5⟩ [(r_9.2.2.2 == (0 : Int)) = true, ((((List.length r_9.2.1) : Nat) : Int) == (3 : Int)) = true, (0 : Int) ≤ (0 : Int), (0 : Int) < (((List.length r_9.2.1) : Nat) : Int), ((List.getD r_9.2.1 0 ((0 : Int), ((0 : Int), ByteArray.empty))).2.1 == (1 : Int)) = true, (0 : Int) ≤ (2 : Int), (2 : Int) < (((List.length r_9.2.1) : Nat) : Int), ((List.getD r_9.2.1 2 ((0 : Int), ((0 : Int), ByteArray.empty))).1 == (1 : Int)) = true, (r_33 == (1 : Int)) = true, (r_36 == (1 : Int)) = true, (r_13.2.2 == (0 : Int)) = false] (by kernel_rfl) rfl rfl (ap2 b_29 (ap2 b_30 (ap2 (by decide) (ap2 c_57.1 (ap2 b_31 (ap2 (by decide) (ap2 c_57.2 (ap2 b_32 (ap2 b_35 (ap2 b_38 (ap1 b_39))))))))))) (by kernel_rfl) (by kernel_rfl) ?_
                  have H_116 := Option.some.inj (show some false = some r from H_115); subst H_116
                  refine VL_ret ?_
                  exact P_to [(0, .c (.val (.bool false)))] [] [] hn (by kernel_rfl) (by kernel_rfl) rfl rfl rfl (QF_retS (by kernel_rfl) (by kernel_rfl) rfl)
              · have H_87 := of_f H_85 b_38
                obtain ⟨c_58, H_117⟩ := of_if H_87
                refine V_reg hN hn [(26, ⟨38, 0, [.c (.imm (.opt (.pair (.slice (.pair (.int .i64) (.int .i64))) (.int .i64))) r_9.2.2.1), .c (.val (.int .i64 (1 : Int)))], [], .c (.val (.int .i64 r_33)), [], [], 5⟩), (31, ⟨20, 0, [.c (.imm (.opt (.pair (.slice (.pair (.int .i64) (.int .i64))) (.int .i64))) r_9.2.2.1)], [], .c (.val (.int .i64 r_36)), [], [], 5⟩)] [(52, true), (58, true), (66, true), (74, true), (79, true), (84, false)] (calls_cons (subset_Subset_Count_spec K r_9.2.2.1 (1 : Int) r_33 h_34) (by kernel_rfl) (calls_cons (subset_Subset_Size_spec K r_9.2.2.1 r_36 h_37) (by kernel_rfl) calls_nil)) 5 [0] [] ⟨[(0, .c (.val (.bool false)))], [], 5⟩ [(r_9.2.2.2 == (0 : Int)) = true, ((((List.length r_9.2.1) : Nat) : Int) == (3 : Int)) = true, (0 : Int) ≤ (0 : Int), (0 : Int) < (((List.length r_9.2.1) : Nat) : Int), ((List.getD r_9.2.1 0 ((0 : Int), ((0 : Int), ByteArray.empty))).2.1 == (1 : Int)) = true, (0 : Int) ≤ (2 : Int), (2 : Int) < (((List.length r_9.2.1) : Nat) : Int), ((List.getD r_9.2.1 2 ((0 : Int), ((0 : Int), ByteArray.empty))).1 == (1 : Int)) = true, (r_33 == (1 : Int)) = true, (r_36 == (1 : Int)) = false] (by kernel_rfl) rfl rfl (ap2 b_29 (ap2 b_30 (ap2 (by decide) (ap2 c_58.1 (ap2 b_31 (ap2 (by decide) (ap2 c_58.2 (ap2 b_32 (ap2 b_35 (ap1 b_38)))))))))) (by kernel_rfl) (by kernel_rfl) ?_
                have H_118 := Option.some.inj (show some false = some r from H_117); subst H_118
                refine VL_ret ?_
                exact P_to [(0, .c (.val (.bool false)))] [] [] hn (by kernel_rfl) (by kernel_rfl) rfl rfl rfl (QF_retS (by kernel_rfl) (by kernel_rfl) rfl)
            · have H_84 := of_f H_82 b_35
              obtain ⟨c_59, H_119⟩ := of_if H_84
              refine V_reg hN hn [(26, ⟨38, 0, [.c (.imm (.opt (.pair (.slice (.pair (.int .i64) (.int .i64))) (.int .i64))) r_9.2.2.1), .c (.val (.int .i64 (1 : Int)))], [], .c (.val (.int .i64 r_33)), [], [], 5⟩)] [(52, true), (58, true), (66, true), (74, true), (79, false)] (calls_cons (subset_Subset_Count_spec K r_9.2.2.1 (1 : Int) r_33 h_34) (by kernel_rfl) calls_nil) 5 [0] [] ⟨[(0, .c (.val (.bool false)))], [], 5⟩ [(r_9.2.2.2 == (0 : Int)) = true, ((((List.length r_9.2.1) : Nat) : Int) == (3 : Int)) = true, (0 : Int) ≤ (0 : Int), (0 : Int) < (((List.length r_9.2.1) : Nat) : Int), ((List.getD r_9.2.1 0 ((0 : Int), ((0 : Int), ByteArray.empty))).2.1 == (1 : Int)) = true, (0 : Int) ≤ (2 : Int), (2 : Int) < (((List.length r_9.2.1) : Nat) : Int), ((List.getD r_9.2.1 2 ((0 : Int), ((0 : Int), ByteArray.empty))).1 == (1 : Int)) = true, (r_33 == (1 : Int)) = false] (by kernel_rfl) rfl rfl (ap2 b_29 (ap2 b_30 (ap2 (by decide) (ap2 c_59.1 (ap2 b_31 (ap2 (by decide) (ap2 c_59.2 (ap2 b_32 (ap1 b_35))))))))) (by kernel_rfl) (by kernel_rfl) ?_
              have H_120 := Option.some.inj (show some false = some r from H_119); subst H_120
              refine VL_ret ?_
              exact P_to [(0, .c (.val (.bool false)))] [] [] hn (by kernel_rfl) (by kernel_rfl) rfl rfl rfl (QF_retS (by kernel_rfl) (by kernel_rfl) rfl)
          · have H_81 := of_f H_78 b_32
            obtain ⟨c_60, H_121⟩ := of_if H_81
            refine V_reg hN hn [] [(52, true), (58, true), (66, true), (74, false)] calls_nil 5 [0] [] ⟨[(0, .c (.val (.bool false)))], [], 5⟩ [(r_9.2.2.2 == (0 : Int)) = true, ((((List.length r_9.2.1) : Nat) : Int) == (3 : Int)) = true, (0 : Int) ≤ (0 : Int), (0 : Int) < (((List.length r_9.2.1) : Nat) : Int), ((List.getD r_9.2.1 0 ((0 : Int), ((0 : Int), ByteArray.empty))).2.1 == (1 : Int)) = true, (0 : Int) ≤ (2 : Int), (2 : Int) < (((List.length r_9.2.1) : Nat) : Int), ((List.getD r_9.2.1 2 ((0 : Int), ((0 : Int), ByteArray.empty))).1 == (1 : Int)) = false] (by kernel_rfl) rfl rfl (ap2 b_29 (ap2 b_30 (ap2 (by decide) (ap2 c_60.1 (ap2 b_31 (ap2 (by decide) (ap2 c_60.2 (ap1 b_32)))))))) (by kernel_rfl) (by kernel_rfl) ?_
            have H_122 := Option.some.inj (show some false = some r from H_121); subst H_122
            refine VL_ret ?_
            exact P_to [(0, .c (.val (.bool false)))] [] [] hn (by kernel_rfl) (by kernel_rfl) rfl rfl rfl (QF_retS (by kernel_rfl) (by kernel_rfl) rfl)
        · have H_79 := of_f H_76 b_31
          obtain ⟨c_61, H_123⟩ := of_if H_79
          refine V_reg hN hn [] [(52, true), (58, true), (66, false)] calls_nil 5 [0] [] ⟨[(0, .c (.val (.bool false)))], [], 5⟩ [(r_9.2.2.2 == (0 : Int)) = true, ((((List.length r_9.2.1) : Nat) : Int) == (3 : Int)) = true, (0 : Int) ≤ (0 : Int), (0 : Int) < (((List.length r_9.2.1) : Nat) : Int), ((List.getD r_9.2.1 0 ((0 : Int), ((0 : Int), ByteArray.empty))).2.1 == (1 : Int)) = false] (by kernel_rfl) rfl rfl (ap2 b_29 (ap2 b_30 (ap2 (by decide) (ap2 c_61 (ap1 b_31))))) (by kernel_rfl) (by kernel_rfl) ?_
          have H_124 := Option.some.inj (show some false = some r from H_123); subst H_124
          refine VL_ret ?_
          exact P_to [(0, .c (.val (.bool false)))] [] [] hn (by kernel_rfl) (by kernel_rfl) rfl rfl rfl (QF_retS (by kernel_rfl) (by kernel_rfl) rfl)
      · have H_77 := of_f H_74 b_30
        refine V_reg hN hn [] [(52, true), (58, false)] calls_nil 5 [0] [] ⟨[(0, .c (.val (.bool false)))], [], 5⟩ [(r_9.2.2.2 == (0 : Int)) = true, ((((List.length r_9.2.1) : Nat) : Int) == (3 : Int)) = false] (by kernel_rfl) rfl rfl (ap2 b_29 (ap1 b_30)) (by kernel_rfl) (by kernel_rfl) ?_
        have H_125 := Option.some.inj (show some false = some r from H_77); subst H_125
        refine VL_ret ?_
        exact P_to [(0, .c (.val (.bool false)))] [] [] hn (by kernel_rfl) (by kernel_rfl) rfl rfl rfl (QF_retS (by kernel_rfl) (by kernel_rfl) rfl)
    · have H_75 := of_f H_73 b_29
      refine V_reg hN hn [] [(52, false)] calls_nil 5 [0] [] ⟨[(0, .c (.val (.bool false)))], [], 5⟩ [(r_9.2.2.2 == (0 : Int)) = false] (by kernel_rfl) rfl rfl (ap1 b_29) (by kernel_rfl) (by kernel_rfl) ?_
      have H_126 := Option.some.inj (show some false = some r from H_75); subst H_126
      refine VL_ret ?_
      exact P_to [(0, .c (.val (.bool false)))] [] [] hn (by kernel_rfl) (by kernel_rfl) rfl rfl rfl (QF_retS (by kernel_rfl) (by kernel_rfl) rfl)

theorem delta_Ordered_spec (K : Nat) (l_1 : (List (Int × (Int × ByteArray)))) (r : Bool) (H : delta_Ordered_r K l_1 = some r) : Spec Try.prog 60 0 [.c (.imm (.slice (.pair (.int .i64) (.pair (.int .i64) .str))) l_1)] [] (.c (.val (.bool r))) [] := by
  refine Spec_mk (fn := Try.f60) (c := (Try.f60.body).get!) Try.func60 (by kernel_rfl) rfl ?_
  intro C hN hn
  replace hN : C.N = 40 := hN
  unfold delta_Ordered_r at H
  refine V_run hN hn 5 0 [0, 3] [] ⟨[(0, .c (.imm (.slice (.pair (.int .i64) (.pair (.int .i64) .str))) l_1)), (3, .c (.val (.int .i64 (1 : Int))))], [], 0⟩ [] (by kernel_rfl) rfl rfl ap0 ?_
  refine VL_block ?_
  refine V_to [(0, .c (.imm (.slice (.pair (.int .i64) (.pair (.int .i64) .str))) l_1)), (3, .c (.val (.int .i64 (1 : Int))))] [] [] hn (by kernel_rfl) (by kernel_rfl) rfl rfl rfl ?_
  refine VL_loop (X := Int) (fun x => [(0, .c (.imm (.slice (.pair (.int .i64) (.pair (.int .i64) .str))) l_1)), (3, .c (.val (.int .i64 x)))]) (fun x => []) (fun k x => delta_Ordered_r.l0 K l_1 k x = some r) K (1 : Int) H (fun _ h => no_none h) ?_
  intro k_4 i_3 H_25
  have H_26 : delta_Ordered_r.l0 K l_1 (k_4 + 1) i_3 = some r := H_25
  rw [delta_Ordered_r.l0] at H_26
  refine V_run hN hn 3 0 [0, 3, 9] [] ⟨[(0, .c (.imm (.slice (.pair (.int .i64) (.pair (.int .i64) .str))) l_1)), (3, .c (.val (.int .i64 i_3))), (9, .c (.val (.bool (decide (i_3 < (((List.length l_1) : Nat) : Int))))))], [], 0⟩ [] (by kernel_rfl) rfl rfl ap0 ?_
  refine VL_cond ((decide (i_3 < (((List.length l_1) : Nat) : Int)))) (by kernel_rfl) ?_ ?_
  · intro b_6; have H_27 := of_t H_26 b_6
    refine V_run hN hn 2 0 [0, 3, 9] [] ⟨[(0, .c (.imm (.slice (.pair (.int .i64) (.pair (.int .i64) .str))) l_1)), (3, .c (.val (.int .i64 i_3))), (9, .c (.val (.bool (decide (i_3 < (((List.length l_1) : Nat) : Int))))))], [], 0⟩ [] (by kernel_rfl) rfl rfl ap0 ?_
    refine VL_block ?_
    refine V_run hN hn 1 0 [0, 3, 9] [] ⟨[(0, .c (.imm (.slice (.pair (.int .i64) (.pair (.int .i64) .str))) l_1)), (3, .c (.val (.int .i64 i_3))), (9, .c (.val (.bool (decide (i_3 < (((List.length l_1) : Nat) : Int))))))], [], 0⟩ [] (by kernel_rfl) rfl rfl ap0 ?_
    obtain ⟨c_9, H_29⟩ := of_if H_27
    refine V_draw hN hn (by kernel_rfl) [] [] calls_nil 0 [0, 3, 4, 5] [0, 1] ⟨[(0, .c (.imm (.slice (.pair (.int .i64) (.pair (.int .i64) .str))) l_1)), (3, .c (.val (.int .i64 i_3))), (4, .c (.h 0)), (5, .c (.h 1))], [(0, .box [.val (.int .i64 (List.getD l_1 (Int.toNat (IntKind.wrap .i64 (i_3 - (1 : Int)))) ((0 : Int), ((0 : Int), ByteArray.empty))).1), .val (.int .i64 (List.getD l_1 (Int.toNat (IntKind.wrap .i64 (i_3 - (1 : Int)))) ((0 : Int), ((0 : Int), ByteArray.empty))).2.1), .val (.string (List.getD l_1 (Int.toNat (IntKind.wrap .i64 (i_3 - (1 : Int)))) ((0 : Int), ((0 : Int), ByteArray.empty))).2.2)]), (1, .box [.val (.int .i64 (List.getD l_1 (Int.toNat i_3) ((0 : Int), ((0 : Int), ByteArray.empty))).1), .val (.int .i64 (List.getD l_1 (Int.toNat i_3) ((0 : Int), ((0 : Int), ByteArray.empty))).2.1), .val (.string (List.getD l_1 (Int.toNat i_3) ((0 : Int), ((0 : Int), ByteArray.empty))).2.2)])], 2⟩ [0 ≤ (IntKind.wrap .i64 (i_3 - (1 : Int))), (IntKind.wrap .i64 (i_3 - (1 : Int))) < (((List.length l_1) : Nat) : Int), 0 ≤ (IntKind.wrap .i64 (i_3 - (1 : Int))), (IntKind.wrap .i64 (i_3 - (1 : Int))) < (((List.length l_1) : Nat) : Int), 0 ≤ (IntKind.wrap .i64 (i_3 - (1 : Int))), (IntKind.wrap .i64 (i_3 - (1 : Int))) < (((List.length l_1) : Nat) : Int), 0 ≤ (IntKind.wrap .i64 (i_3 - (1 : Int))), (IntKind.wrap .i64 (i_3 - (1 : Int))) < (((List.length l_1) : Nat) : Int), 0 ≤ i_3, i_3 < (((List.length l_1) : Nat) : Int), 0 ≤ i_3, i_3 < (((List.length l_1) : Nat) : Int), 0 ≤ i_3, i_3 < (((List.length l_1) : Nat) : Int), 0 ≤ i_3, i_3 < (((List.length l_1) : Nat) : Int), 0 ≤ i_3, i_3 < (((List.length l_1) : Nat) : Int)] (by kernel_rfl) rfl rfl (ap2 c_9.1 (ap2 c_9.2.1 (ap2 c_9.1 (ap2 c_9.2.1 (ap2 c_9.1 (ap2 c_9.2.1 (ap2 c_9.1 (ap2 c_9.2.1 (ap2 c_9.2.2.1 (ap2 c_9.2.2.2 (ap2 c_9.2.2.1 (ap2 c_9.2.2.2 (ap2 c_9.2.2.1 (ap2 c_9.2.2.2 (ap2 c_9.2.2.1 (ap2 c_9.2.2.2 (ap2 c_9.2.2.1 (ap1 c_9.2.2.2)))))))))))))))))) (by kernel_rfl) (by kernel_rfl) ?_
    refine V_run hN hn 1 2 [0, 3, 4, 5] [0, 1] ⟨[(0, .c (.imm (.slice (.pair (.int .i64) (.pair (.int .i64) .str))) l_1)), (3, .c (.val (.int .i64 i_3))), (4, .c (.h 0)), (5, .c (.h 1))], [(0, .box [.val (.int .i64 (List.getD l_1 (Int.toNat (IntKind.wrap .i64 (i_3 - (1 : Int)))) ((0 : Int), ((0 : Int), ByteArray.empty))).1), .val (.int .i64 (List.getD l_1 (Int.toNat (IntKind.wrap .i64 (i_3 - (1 : Int)))) ((0 : Int), ((0 : Int), ByteArray.empty))).2.1), .val (.string (List.getD l_1 (Int.toNat (IntKind.wrap .i64 (i_3 - (1 : Int)))) ((0 : Int), ((0 : Int), ByteArray.empty))).2.2)]), (1, .box [.val (.int .i64 (List.getD l_1 (Int.toNat i_3) ((0 : Int), ((0 : Int), ByteArray.empty))).1), .val (.int .i64 (List.getD l_1 (Int.toNat i_3) ((0 : Int), ((0 : Int), ByteArray.empty))).2.1), .val (.string (List.getD l_1 (Int.toNat i_3) ((0 : Int), ((0 : Int), ByteArray.empty))).2.2)])], 2⟩ [] (by kernel_rfl) rfl rfl ap0 ?_
    obtain ⟨q_30, H_31, H_32⟩ := of_bind H_29
    refine V_cut (Y := Bool) (R := Bool) q_30 (fun y => y) (fun y => [(0, .c (.imm (.slice (.pair (.int .i64) (.pair (.int .i64) .str))) l_1)), (3, .c (.val (.int .i64 i_3))), (39, .c (.val (.bool y)))]) (fun y => []) ?_ ?_
    · skip
      rcases Bool.eq_false_or_eq_true ((decide ((List.getD l_1 (Int.toNat i_3) ((0 : Int), ((0 : Int), ByteArray.empty))).1 < (List.getD l_1 (Int.toNat (IntKind.wrap .i64 (i_3 - (1 : Int)))) ((0 : Int), ((0 : Int), ByteArray.empty))).2.1))) with b_11 | b_11
      · have H_34 := of_t H_31 b_11
        refine V_reg hN hn [] [(26, true)] calls_nil 2 [0, 3, 39] [] ⟨[(0, .c (.imm (.slice (.pair (.int .i64) (.pair (.int .i64) .str))) l_1)), (3, .c (.val (.int .i64 i_3))), (39, .c (.val (.bool true)))], [], 2⟩ [(decide ((List.getD l_1 (Int.toNat i_3) ((0 : Int), ((0 : Int), ByteArray.empty))).1 < (List.getD l_1 (Int.toNat (IntKind.wrap .i64 (i_3 - (1 : Int)))) ((0 : Int), ((0 : Int), ByteArray.empty))).2.1)) = true] (by kernel_rfl) rfl rfl (ap1 b_11) (by kernel_rfl) (by kernel_rfl) ?_
        have H_36 := Option.some.inj (show some true = some q_30 from H_34); subst H_36
        refine VL_nil ?_
        exact QP_end true rfl [] hn (by kernel_rfl) (by kernel_rfl) rfl rfl rfl
      · have H_35 := of_f H_31 b_11
        rcases Bool.eq_false_or_eq_true (((List.getD l_1 (Int.toNat (IntKind.wrap .i64 (i_3 - (1 : Int)))) ((0 : Int), ((0 : Int), ByteArray.empty))).1 == (List.getD l_1 (Int.toNat i_3) ((0 : Int), ((0 : Int), ByteArray.empty))).1)) with b_13 | b_13
        · have H_37 := of_t H_35 b_13
          refine V_reg hN hn [] [(26, false), (32, true)] calls_nil 2 [0, 3, 39] [] ⟨[(0, .c (.imm (.slice (.pair (.int .i64) (.pair (.int .i64) .str))) l_1)), (3, .c (.val (.int .i64 i_3))), (39, .c (.val (.bool ((List.getD l_1 (Int.toNat (IntKind.wrap .i64 (i_3 - (1 : Int)))) ((0 : Int), ((0 : Int), ByteArray.empty))).2.1 == (List.getD l_1 (Int.toNat i_3) ((0 : Int), ((0 : Int), ByteArray.empty))).1))))], [], 2⟩ [(decide ((List.getD l_1 (Int.toNat i_3) ((0 : Int), ((0 : Int), ByteArray.empty))).1 < (List.getD l_1 (Int.toNat (IntKind.wrap .i64 (i_3 - (1 : Int)))) ((0 : Int), ((0 : Int), ByteArray.empty))).2.1)) = false, ((List.getD l_1 (Int.toNat (IntKind.wrap .i64 (i_3 - (1 : Int)))) ((0 : Int), ((0 : Int), ByteArray.empty))).1 == (List.getD l_1 (Int.toNat i_3) ((0 : Int), ((0 : Int), ByteArray.empty))).1) = true] (by kernel_rfl) rfl rfl (ap2 b_11 (ap1 b_13)) (by kernel_rfl) (by kernel_rfl) ?_
          have H_39 := Option.some.inj (show some ((List.getD l_1 (Int.toNat (IntKind.wrap .i64 (i_3 - (1 : Int)))) ((0 : Int), ((0 : Int), ByteArray.empty))).2.1 == (List.getD l_1 (Int.toNat i_3) ((0 : Int), ((0 : Int), ByteArray.empty))).1) = some q_30 from H_37); subst H_39
          refine VL_nil ?_
          exact QP_end ((List.getD l_1 (Int.toNat (IntKind.wrap .i64 (i_3 - (1 : Int)))) ((0 : Int), ((0 : Int), ByteArray.empty))).2.1 == (List.getD l_1 (Int.toNat i_3) ((0 : Int), ((0 : Int), ByteArray.empty))).1) rfl [] hn (by kernel_rfl) (by kernel_rfl) rfl rfl rfl
        · have H_38 := of_f H_35 b_13
          refine V_reg hN hn [] [(26, false), (32, false)] calls_nil 2 [0, 3, 39] [] ⟨[(0, .c (.imm (.slice (.pair (.int .i64) (.pair (.int .i64) .str))) l_1)), (3, .c (.val (.int .i64 i_3))), (39, .c (.val (.bool false)))], [], 2⟩ [(decide ((List.getD l_1 (Int.toNat i_3) ((0 : Int), ((0 : Int), ByteArray.empty))).1 < (List.getD l_1 (Int.toNat (IntKind.wrap .i64 (i_3 - (1 : Int)))) ((0 : Int), ((0 : Int), ByteArray.empty))).2.1)) = false, ((List.getD l_1 (Int.toNat (IntKind.wrap .i64 (i_3 - (1 : Int)))) ((0 : Int), ((0 : Int), ByteArray.empty))).1 == (List.getD l_1 (Int.toNat i_3) ((0 : Int), ((0 : Int), ByteArray.empty))).1) = false] (by kernel_rfl) rfl rfl (ap2 b_11 (ap1 b_13)) (by kernel_rfl) (by kernel_rfl) ?_
          have H_40 := Option.some.inj (show some false = some q_30 from H_38); subst H_40
          refine VL_nil ?_
          exact QP_end false rfl [] hn (by kernel_rfl) (by kernel_rfl) rfl rfl rfl
    · intro y_33 hy; subst hy
      skip
      skip
      refine VL_cond (y_33) (by kernel_rfl) ?_ ?_
      · intro b_17; have H_41 := of_t H_32 b_17
        refine V_run hN hn 2 2 [2] [] ⟨[(2, .c (.val (.bool false)))], [], 2⟩ [] (by kernel_rfl) rfl rfl ap0 ?_
        have H_43 := Option.some.inj (show some false = some r from H_41); subst H_43
        refine VL_ret ?_
        refine QB_ret ?_
        refine QL_ret ?_
        refine QB_ret ?_
        exact P_to [(2, .c (.val (.bool false)))] [] [] hn (by kernel_rfl) (by kernel_rfl) rfl rfl rfl (QF_retS (by kernel_rfl) (by kernel_rfl) rfl)
      · intro b_17; have H_42 := of_f H_32 b_17
        refine V_run hN hn 1 2 [0, 3, 39] [] ⟨[(0, .c (.imm (.slice (.pair (.int .i64) (.pair (.int .i64) .str))) l_1)), (3, .c (.val (.int .i64 i_3))), (39, .c (.val (.bool y_33)))], [], 2⟩ [] (by kernel_rfl) rfl rfl ap0 ?_
        refine VL_nil (QB_end ?_)
        refine V_run hN hn 1 2 [0, 3] [] ⟨[(0, .c (.imm (.slice (.pair (.int .i64) (.pair (.int .i64) .str))) l_1)), (3, .c (.val (.int .i64 (IntKind.wrap .i64 (i_3 + (1 : Int))))))], [], 2⟩ [] (by kernel_rfl) rfl rfl ap0 ?_
        refine VL_nil ?_
        exact V_roundEnd (IntKind.wrap .i64 (i_3 + (1 : Int))) H_42 [] hn (by kernel_rfl) (by kernel_rfl) rfl rfl rfl
  · intro b_6; have H_28 := of_f H_26 b_6
    refine VL_exit ?_
    refine QL_exit ?_
    refine QB_here ?_
    refine V_run hN hn 2 0 [2] [] ⟨[(2, .c (.val (.bool true)))], [], 0⟩ [] (by kernel_rfl) rfl rfl ap0 ?_
    have H_44 := Option.some.inj (show some true = some r from H_28); subst H_44
    refine VL_ret ?_
    exact P_to [(2, .c (.val (.bool true)))] [] [] hn (by kernel_rfl) (by kernel_rfl) rfl rfl rfl (QF_retS (by kernel_rfl) (by kernel_rfl) rfl)

theorem delta_long_spec (K : Nat) (base_1 : Int) (l_2 : (List (Int × (Int × ByteArray)))) (r : Int) (H : delta_long_gr K base_1 l_2 = some r) : Spec Try.prog 62 0 [.c (.val (.int .i64 base_1)), .c (.imm (.slice (.pair (.int .i64) (.pair (.int .i64) .str))) l_2)] [] (.c (.val (.int .i64 r))) [] := by
  refine Spec_mk (fn := Try.f62) (c := (Try.f62.body).get!) Try.func62 (by kernel_rfl) rfl ?_
  intro C hN hn
  replace hN : C.N = 43 := hN
  unfold delta_long_gr at H
  refine V_run hN hn 7 0 [1, 5, 12, 13, 14] [] ⟨[(1, .c (.imm (.slice (.pair (.int .i64) (.pair (.int .i64) .str))) l_2)), (5, .c (.val (.int .i64 (IntKind.wrap .i64 ((20000 : Int) - base_1))))), (12, .c (.imm (.slice (.pair (.int .i64) (.pair (.int .i64) .str))) l_2)), (13, .c (.val (.int .i64 (((List.length l_2) : Nat) : Int)))), (14, .c (.val (.int .i64 (0 : Int))))], [], 0⟩ [] (by kernel_rfl) rfl rfl ap0 ?_
  obtain ⟨q_28, H_29, H_30⟩ := of_bind H
  refine V_cut (Y := Int) (R := Int) q_28 (fun y => y) (fun y => [(1, .c (.imm (.slice (.pair (.int .i64) (.pair (.int .i64) .str))) l_2)), (5, .c (.val (.int .i64 y)))]) (fun y => []) ?_ ?_
  · skip
    refine VL_block ?_
    refine V_to [(1, .c (.imm (.slice (.pair (.int .i64) (.pair (.int .i64) .str))) l_2)), (5, .c (.val (.int .i64 (IntKind.wrap .i64 ((20000 : Int) - base_1))))), (12, .c (.imm (.slice (.pair (.int .i64) (.pair (.int .i64) .str))) l_2)), (13, .c (.val (.int .i64 (((List.length l_2) : Nat) : Int)))), (14, .c (.val (.int .i64 (0 : Int))))] [] [] hn (by kernel_rfl) (by kernel_rfl) rfl rfl rfl ?_
    refine VL_loop (X := (Int × Int)) (fun x => [(1, .c (.imm (.slice (.pair (.int .i64) (.pair (.int .i64) .str))) l_2)), (5, .c (.val (.int .i64 x.1))), (12, .c (.imm (.slice (.pair (.int .i64) (.pair (.int .i64) .str))) l_2)), (13, .c (.val (.int .i64 (((List.length l_2) : Nat) : Int)))), (14, .c (.val (.int .i64 x.2)))]) (fun x => []) (fun k x => delta_long_gr.l0 K l_2 k x.1 x.2 = some q_28) K ((IntKind.wrap .i64 ((20000 : Int) - base_1)), (0 : Int)) H_29 (fun _ h => no_none h) ?_
    intro k_6 x_6 H_32
    obtain ⟨left_4, t_5⟩ := x_6
    have H_33 : delta_long_gr.l0 K l_2 (k_6 + 1) left_4 t_5 = some q_28 := H_32
    rw [delta_long_gr.l0] at H_33
    refine V_run hN hn 3 0 [1, 5, 12, 13, 14, 15] [] ⟨[(1, .c (.imm (.slice (.pair (.int .i64) (.pair (.int .i64) .str))) l_2)), (5, .c (.val (.int .i64 left_4))), (12, .c (.imm (.slice (.pair (.int .i64) (.pair (.int .i64) .str))) l_2)), (13, .c (.val (.int .i64 (((List.length l_2) : Nat) : Int)))), (14, .c (.val (.int .i64 t_5))), (15, .c (.val (.bool (decide (t_5 < (((List.length l_2) : Nat) : Int))))))], [], 0⟩ [] (by kernel_rfl) rfl rfl ap0 ?_
    refine VL_cond ((decide (t_5 < (((List.length l_2) : Nat) : Int)))) (by kernel_rfl) ?_ ?_
    · intro b_8; have H_34 := of_t H_33 b_8
      refine V_run hN hn 2 0 [1, 5, 12, 13, 14, 15] [] ⟨[(1, .c (.imm (.slice (.pair (.int .i64) (.pair (.int .i64) .str))) l_2)), (5, .c (.val (.int .i64 left_4))), (12, .c (.imm (.slice (.pair (.int .i64) (.pair (.int .i64) .str))) l_2)), (13, .c (.val (.int .i64 (((List.length l_2) : Nat) : Int)))), (14, .c (.val (.int .i64 t_5))), (15, .c (.val (.bool (decide (t_5 < (((List.length l_2) : Nat) : Int))))))], [], 0⟩ [] (by kernel_rfl) rfl rfl ap0 ?_
      refine VL_block ?_
      obtain ⟨c_10, H_36⟩ := of_if H_34
      refine V_run hN hn 3 0 [1, 5, 12, 13, 14] [] ⟨[(1, .c (.imm (.slice (.pair (.int .i64) (.pair (.int .i64) .str))) l_2)), (5, .c (.val (.int .i64 (IntKind.wrap .i64 (left_4 + (IntKind.wrap .i64 ((List.getD l_2 (Int.toNat t_5) ((0 : Int), ((0 : Int), ByteArray.empty))).2.1 - (List.getD l_2 (Int.toNat t_5) ((0 : Int), ((0 : Int), ByteArray.empty))).1))))))), (12, .c (.imm (.slice (.pair (.int .i64) (.pair (.int .i64) .str))) l_2)), (13, .c (.val (.int .i64 (((List.length l_2) : Nat) : Int)))), (14, .c (.val (.int .i64 t_5)))], [], 1⟩ [0 ≤ t_5, t_5 < (((List.length l_2) : Nat) : Int)] (by kernel_rfl) rfl rfl (ap2 c_10.1 (ap1 c_10.2)) ?_
      refine VL_nil (QB_end ?_)
      refine V_run hN hn 1 1 [1, 5, 12, 13, 14] [] ⟨[(1, .c (.imm (.slice (.pair (.int .i64) (.pair (.int .i64) .str))) l_2)), (5, .c (.val (.int .i64 (IntKind.wrap .i64 (left_4 + (IntKind.wrap .i64 ((List.getD l_2 (Int.toNat t_5) ((0 : Int), ((0 : Int), ByteArray.empty))).2.1 - (List.getD l_2 (Int.toNat t_5) ((0 : Int), ((0 : Int), ByteArray.empty))).1))))))), (12, .c (.imm (.slice (.pair (.int .i64) (.pair (.int .i64) .str))) l_2)), (13, .c (.val (.int .i64 (((List.length l_2) : Nat) : Int)))), (14, .c (.val (.int .i64 (IntKind.wrap .i64 (t_5 + (1 : Int))))))], [], 1⟩ [] (by kernel_rfl) rfl rfl ap0 ?_
      refine VL_nil ?_
      exact V_roundEnd ((IntKind.wrap .i64 (left_4 + (IntKind.wrap .i64 ((List.getD l_2 (Int.toNat t_5) ((0 : Int), ((0 : Int), ByteArray.empty))).2.1 - (List.getD l_2 (Int.toNat t_5) ((0 : Int), ((0 : Int), ByteArray.empty))).1)))), (IntKind.wrap .i64 (t_5 + (1 : Int)))) H_36 [] hn (by kernel_rfl) (by kernel_rfl) rfl rfl rfl
    · intro b_8; have H_35 := of_f H_33 b_8
      refine VL_exit ?_
      refine QL_exit ?_
      refine QB_here ?_
      have H_37 := Option.some.inj (show some left_4 = some q_28 from H_35); subst H_37
      refine VL_nil ?_
      exact QP_end left_4 rfl [] hn (by kernel_rfl) (by kernel_rfl) rfl rfl rfl
  · intro y_31 hy; subst hy
    skip
    skip
    refine V_run hN hn 3 0 [5, 26, 27, 28] [] ⟨[(5, .c (.val (.int .i64 y_31))), (26, .c (.imm (.slice (.pair (.int .i64) (.pair (.int .i64) .str))) l_2)), (27, .c (.val (.int .i64 (((List.length l_2) : Nat) : Int)))), (28, .c (.val (.int .i64 (0 : Int))))], [], 0⟩ [] (by kernel_rfl) rfl rfl ap0 ?_
    refine VL_block ?_
    refine V_to [(5, .c (.val (.int .i64 y_31))), (26, .c (.imm (.slice (.pair (.int .i64) (.pair (.int .i64) .str))) l_2)), (27, .c (.val (.int .i64 (((List.length l_2) : Nat) : Int)))), (28, .c (.val (.int .i64 (0 : Int))))] [] [] hn (by kernel_rfl) (by kernel_rfl) rfl rfl rfl ?_
    refine VL_loop (X := (Int × Int)) (fun x => [(5, .c (.val (.int .i64 x.1))), (26, .c (.imm (.slice (.pair (.int .i64) (.pair (.int .i64) .str))) l_2)), (27, .c (.val (.int .i64 (((List.length l_2) : Nat) : Int)))), (28, .c (.val (.int .i64 x.2)))]) (fun x => []) (fun k x => delta_long_gr.l1 K l_2 k x.1 x.2 = some r) K (y_31, (0 : Int)) H_30 (fun _ h => no_none h) ?_
    intro k_16 x_16 H_38
    obtain ⟨left_14, t_15⟩ := x_16
    have H_39 : delta_long_gr.l1 K l_2 (k_16 + 1) left_14 t_15 = some r := H_38
    rw [delta_long_gr.l1] at H_39
    refine V_run hN hn 3 0 [5, 26, 27, 28, 29] [] ⟨[(5, .c (.val (.int .i64 left_14))), (26, .c (.imm (.slice (.pair (.int .i64) (.pair (.int .i64) .str))) l_2)), (27, .c (.val (.int .i64 (((List.length l_2) : Nat) : Int)))), (28, .c (.val (.int .i64 t_15))), (29, .c (.val (.bool (decide (t_15 < (((List.length l_2) : Nat) : Int))))))], [], 0⟩ [] (by kernel_rfl) rfl rfl ap0 ?_
    refine VL_cond ((decide (t_15 < (((List.length l_2) : Nat) : Int)))) (by kernel_rfl) ?_ ?_
    · intro b_18; have H_40 := of_t H_39 b_18
      refine V_run hN hn 2 0 [5, 26, 27, 28, 29] [] ⟨[(5, .c (.val (.int .i64 left_14))), (26, .c (.imm (.slice (.pair (.int .i64) (.pair (.int .i64) .str))) l_2)), (27, .c (.val (.int .i64 (((List.length l_2) : Nat) : Int)))), (28, .c (.val (.int .i64 t_15))), (29, .c (.val (.bool (decide (t_15 < (((List.length l_2) : Nat) : Int))))))], [], 0⟩ [] (by kernel_rfl) rfl rfl ap0 ?_
      refine VL_block ?_
      obtain ⟨c_20, H_42⟩ := of_if H_40
      refine V_run hN hn 5 0 [5, 9, 26, 27, 28, 36] [0] ⟨[(5, .c (.val (.int .i64 left_14))), (9, .c (.h 0)), (26, .c (.imm (.slice (.pair (.int .i64) (.pair (.int .i64) .str))) l_2)), (27, .c (.val (.int .i64 (((List.length l_2) : Nat) : Int)))), (28, .c (.val (.int .i64 t_15))), (36, .c (.val (.bool (decide ((((ByteArray.size (List.getD l_2 (Int.toNat t_15) ((0 : Int), ((0 : Int), ByteArray.empty))).2.2) : Nat) : Int) > left_14)))))], [(0, .box [.val (.int .i64 (List.getD l_2 (Int.toNat t_15) ((0 : Int), ((0 : Int), ByteArray.empty))).1), .val (.int .i64 (List.getD l_2 (Int.toNat t_15) ((0 : Int), ((0 : Int), ByteArray.empty))).2.1), .val (.string (List.getD l_2 (Int.toNat t_15) ((0 : Int), ((0 : Int), ByteArray.empty))).2.2)])], 1⟩ [0 ≤ t_15, t_15 < (((List.length l_2) : Nat) : Int)] (by kernel_rfl) rfl rfl (ap2 c_20.1 (ap1 c_20.2)) ?_
      refine VL_cond ((decide ((((ByteArray.size (List.getD l_2 (Int.toNat t_15) ((0 : Int), ((0 : Int), ByteArray.empty))).2.2) : Nat) : Int) > left_14))) (by kernel_rfl) ?_ ?_
      · intro b_21; have H_43 := of_t H_42 b_21
        refine V_run hN hn 2 1 [4] [] ⟨[(4, .c (.val (.int .i64 (13 : Int))))], [], 1⟩ [] (by kernel_rfl) rfl rfl ap0 ?_
        have H_45 := Option.some.inj (show some (13 : Int) = some r from H_43); subst H_45
        refine VL_ret ?_
        refine QB_ret ?_
        refine QL_ret ?_
        refine QB_ret ?_
        exact P_to [(4, .c (.val (.int .i64 (13 : Int))))] [] [] hn (by kernel_rfl) (by kernel_rfl) rfl rfl rfl (QF_retS (by kernel_rfl) (by kernel_rfl) rfl)
      · intro b_21; have H_44 := of_f H_42 b_21
        refine V_run hN hn 2 1 [5, 26, 27, 28] [] ⟨[(5, .c (.val (.int .i64 (IntKind.wrap .i64 (left_14 - (((ByteArray.size (List.getD l_2 (Int.toNat t_15) ((0 : Int), ((0 : Int), ByteArray.empty))).2.2) : Nat) : Int)))))), (26, .c (.imm (.slice (.pair (.int .i64) (.pair (.int .i64) .str))) l_2)), (27, .c (.val (.int .i64 (((List.length l_2) : Nat) : Int)))), (28, .c (.val (.int .i64 t_15)))], [], 1⟩ [] (by kernel_rfl) rfl rfl ap0 ?_
        refine VL_nil (QB_end ?_)
        refine V_run hN hn 1 1 [5, 26, 27, 28] [] ⟨[(5, .c (.val (.int .i64 (IntKind.wrap .i64 (left_14 - (((ByteArray.size (List.getD l_2 (Int.toNat t_15) ((0 : Int), ((0 : Int), ByteArray.empty))).2.2) : Nat) : Int)))))), (26, .c (.imm (.slice (.pair (.int .i64) (.pair (.int .i64) .str))) l_2)), (27, .c (.val (.int .i64 (((List.length l_2) : Nat) : Int)))), (28, .c (.val (.int .i64 (IntKind.wrap .i64 (t_15 + (1 : Int))))))], [], 1⟩ [] (by kernel_rfl) rfl rfl ap0 ?_
        refine VL_nil ?_
        exact V_roundEnd ((IntKind.wrap .i64 (left_14 - (((ByteArray.size (List.getD l_2 (Int.toNat t_15) ((0 : Int), ((0 : Int), ByteArray.empty))).2.2) : Nat) : Int))), (IntKind.wrap .i64 (t_15 + (1 : Int)))) H_44 [] hn (by kernel_rfl) (by kernel_rfl) rfl rfl rfl
    · intro b_18; have H_41 := of_f H_39 b_18
      refine VL_exit ?_
      refine QL_exit ?_
      refine QB_here ?_
      refine V_run hN hn 2 0 [4] [] ⟨[(4, .c (.val (.int .i64 (0 : Int))))], [], 0⟩ [] (by kernel_rfl) rfl rfl ap0 ?_
      have H_46 := Option.some.inj (show some (0 : Int) = some r from H_41); subst H_46
      refine VL_ret ?_
      exact P_to [(4, .c (.val (.int .i64 (0 : Int))))] [] [] hn (by kernel_rfl) (by kernel_rfl) rfl rfl rfl (QF_retS (by kernel_rfl) (by kernel_rfl) rfl)

theorem delta_check_spec (K : Nat) (base_1 : Int) (l_2 : (List (Int × (Int × ByteArray)))) (r : Int) (H : delta_check_gr K base_1 l_2 = some r) : Spec Try.prog 47 0 [.c (.val (.int .i64 base_1)), .c (.imm (.slice (.pair (.int .i64) (.pair (.int .i64) .str))) l_2)] [] (.c (.val (.int .i64 r))) [] := by
  refine Spec_mk (fn := Try.f47) (c := (Try.f47.body).get!) Try.func47 (by kernel_rfl) rfl ?_
  intro C hN hn
  replace hN : C.N = 55 := hN
  unfold delta_check_gr at H
  refine V_run hN hn 4 0 [0, 1] [] ⟨[(0, .c (.val (.int .i64 base_1))), (1, .c (.imm (.slice (.pair (.int .i64) (.pair (.int .i64) .str))) l_2))], [], 0⟩ [] (by kernel_rfl) rfl rfl ap0 ?_
  obtain ⟨q_59, H_60, H_61⟩ := of_bind H
  refine V_cut (Y := Bool) (R := Bool) q_59 (fun y => y) (fun y => [(0, .c (.val (.int .i64 base_1))), (1, .c (.imm (.slice (.pair (.int .i64) (.pair (.int .i64) .str))) l_2)), (14, .c (.val (.bool y)))]) (fun y => []) ?_ ?_
  · skip
    rcases Bool.eq_false_or_eq_true ((decide (base_1 < (0 : Int)))) with b_4 | b_4
    · have H_63 := of_t H_60 b_4
      refine V_reg hN hn [] [(11, true)] calls_nil 0 [0, 1, 14] [] ⟨[(0, .c (.val (.int .i64 base_1))), (1, .c (.imm (.slice (.pair (.int .i64) (.pair (.int .i64) .str))) l_2)), (14, .c (.val (.bool true)))], [], 0⟩ [(decide (base_1 < (0 : Int))) = true] (by kernel_rfl) rfl rfl (ap1 b_4) (by kernel_rfl) (by kernel_rfl) ?_
      have H_65 := Option.some.inj (show some true = some q_59 from H_63); subst H_65
      refine VL_nil ?_
      exact QP_end true rfl [] hn (by kernel_rfl) (by kernel_rfl) rfl rfl rfl
    · have H_64 := of_f H_60 b_4
      refine V_reg hN hn [] [(11, false)] calls_nil 0 [0, 1, 14] [] ⟨[(0, .c (.val (.int .i64 base_1))), (1, .c (.imm (.slice (.pair (.int .i64) (.pair (.int .i64) .str))) l_2)), (14, .c (.val (.bool (decide (base_1 > (20000 : Int))))))], [], 0⟩ [(decide (base_1 < (0 : Int))) = false] (by kernel_rfl) rfl rfl (ap1 b_4) (by kernel_rfl) (by kernel_rfl) ?_
      have H_66 := Option.some.inj (show some (decide (base_1 > (20000 : Int))) = some q_59 from H_64); subst H_66
      refine VL_nil ?_
      exact QP_end (decide (base_1 > (20000 : Int))) rfl [] hn (by kernel_rfl) (by kernel_rfl) rfl rfl rfl
  · intro y_62 hy; subst hy
    skip
    skip
    refine VL_cond (y_62) (by kernel_rfl) ?_ ?_
    · intro b_8; have H_67 := of_t H_61 b_8
      refine V_run hN hn 2 0 [4] [] ⟨[(4, .c (.val (.int .i64 (10 : Int))))], [], 0⟩ [] (by kernel_rfl) rfl rfl ap0 ?_
      have H_69 := Option.some.inj (show some (10 : Int) = some r from H_67); subst H_69
      refine VL_ret ?_
      exact P_to [(4, .c (.val (.int .i64 (10 : Int))))] [] [] hn (by kernel_rfl) (by kernel_rfl) rfl rfl rfl (QF_retS (by kernel_rfl) (by kernel_rfl) rfl)
    · intro b_8; have H_68 := of_f H_61 b_8
      refine V_run hN hn 4 0 [0, 1, 15, 16, 17] [] ⟨[(0, .c (.val (.int .i64 base_1))), (1, .c (.imm (.slice (.pair (.int .i64) (.pair (.int .i64) .str))) l_2)), (15, .c (.imm (.slice (.pair (.int .i64) (.pair (.int .i64) .str))) l_2)), (16, .c (.val (.int .i64 (((List.length l_2) : Nat) : Int)))), (17, .c (.val (.int .i64 (0 : Int))))], [], 0⟩ [] (by kernel_rfl) rfl rfl ap0 ?_
      obtain ⟨q_70, H_71, H_72⟩ := of_bind H_68
      refine V_cut (Y := Unit) (R := (Int ⊕ Unit)) q_70 (fun y => (Sum.inr y)) (fun y => [(0, .c (.val (.int .i64 base_1))), (1, .c (.imm (.slice (.pair (.int .i64) (.pair (.int .i64) .str))) l_2))]) (fun y => []) ?_ ?_
      · skip
        refine VL_block ?_
        refine V_to [(0, .c (.val (.int .i64 base_1))), (1, .c (.imm (.slice (.pair (.int .i64) (.pair (.int .i64) .str))) l_2)), (15, .c (.imm (.slice (.pair (.int .i64) (.pair (.int .i64) .str))) l_2)), (16, .c (.val (.int .i64 (((List.length l_2) : Nat) : Int)))), (17, .c (.val (.int .i64 (0 : Int))))] [] [] hn (by kernel_rfl) (by kernel_rfl) rfl rfl rfl ?_
        refine VL_loop (X := Int) (fun x => [(0, .c (.val (.int .i64 base_1))), (1, .c (.imm (.slice (.pair (.int .i64) (.pair (.int .i64) .str))) l_2)), (15, .c (.imm (.slice (.pair (.int .i64) (.pair (.int .i64) .str))) l_2)), (16, .c (.val (.int .i64 (((List.length l_2) : Nat) : Int)))), (17, .c (.val (.int .i64 x)))]) (fun x => []) (fun k x => delta_check_gr.l0 K l_2 base_1 k x = some q_70) K (0 : Int) H_71 (fun _ h => no_none h) ?_
        intro k_12 t_11 H_74
        have H_75 : delta_check_gr.l0 K l_2 base_1 (k_12 + 1) t_11 = some q_70 := H_74
        rw [delta_check_gr.l0] at H_75
        refine V_run hN hn 3 0 [0, 1, 15, 16, 17, 18] [] ⟨[(0, .c (.val (.int .i64 base_1))), (1, .c (.imm (.slice (.pair (.int .i64) (.pair (.int .i64) .str))) l_2)), (15, .c (.imm (.slice (.pair (.int .i64) (.pair (.int .i64) .str))) l_2)), (16, .c (.val (.int .i64 (((List.length l_2) : Nat) : Int)))), (17, .c (.val (.int .i64 t_11))), (18, .c (.val (.bool (decide (t_11 < (((List.length l_2) : Nat) : Int))))))], [], 0⟩ [] (by kernel_rfl) rfl rfl ap0 ?_
        refine VL_cond ((decide (t_11 < (((List.length l_2) : Nat) : Int)))) (by kernel_rfl) ?_ ?_
        · intro b_14; have H_76 := of_t H_75 b_14
          refine V_run hN hn 2 0 [0, 1, 15, 16, 17, 18] [] ⟨[(0, .c (.val (.int .i64 base_1))), (1, .c (.imm (.slice (.pair (.int .i64) (.pair (.int .i64) .str))) l_2)), (15, .c (.imm (.slice (.pair (.int .i64) (.pair (.int .i64) .str))) l_2)), (16, .c (.val (.int .i64 (((List.length l_2) : Nat) : Int)))), (17, .c (.val (.int .i64 t_11))), (18, .c (.val (.bool (decide (t_11 < (((List.length l_2) : Nat) : Int))))))], [], 0⟩ [] (by kernel_rfl) rfl rfl ap0 ?_
          refine VL_block ?_
          obtain ⟨c_16, H_78⟩ := of_if H_76
          refine V_run hN hn 3 0 [0, 1, 6, 15, 16, 17] [0] ⟨[(0, .c (.val (.int .i64 base_1))), (1, .c (.imm (.slice (.pair (.int .i64) (.pair (.int .i64) .str))) l_2)), (6, .c (.h 0)), (15, .c (.imm (.slice (.pair (.int .i64) (.pair (.int .i64) .str))) l_2)), (16, .c (.val (.int .i64 (((List.length l_2) : Nat) : Int)))), (17, .c (.val (.int .i64 t_11)))], [(0, .box [.val (.int .i64 (List.getD l_2 (Int.toNat t_11) ((0 : Int), ((0 : Int), ByteArray.empty))).1), .val (.int .i64 (List.getD l_2 (Int.toNat t_11) ((0 : Int), ((0 : Int), ByteArray.empty))).2.1), .val (.string (List.getD l_2 (Int.toNat t_11) ((0 : Int), ((0 : Int), ByteArray.empty))).2.2)])], 1⟩ [0 ≤ t_11, t_11 < (((List.length l_2) : Nat) : Int)] (by kernel_rfl) rfl rfl (ap2 c_16.1 (ap1 c_16.2)) ?_
          obtain ⟨q_79, H_80, H_81⟩ := of_bind H_78
          refine V_cut (Y := Bool) (R := Bool) q_79 (fun y => y) (fun y => [(0, .c (.val (.int .i64 base_1))), (1, .c (.imm (.slice (.pair (.int .i64) (.pair (.int .i64) .str))) l_2)), (15, .c (.imm (.slice (.pair (.int .i64) (.pair (.int .i64) .str))) l_2)), (16, .c (.val (.int .i64 (((List.length l_2) : Nat) : Int)))), (17, .c (.val (.int .i64 t_11))), (36, .c (.val (.bool y)))]) (fun y => []) ?_ ?_
          · skip
            rcases Bool.eq_false_or_eq_true ((decide ((List.getD l_2 (Int.toNat t_11) ((0 : Int), ((0 : Int), ByteArray.empty))).1 < (0 : Int)))) with b_17 | b_17
            · have H_83 := of_t H_80 b_17
              refine V_reg hN hn [] [(24, true)] calls_nil 1 [0, 1, 15, 16, 17, 36] [] ⟨[(0, .c (.val (.int .i64 base_1))), (1, .c (.imm (.slice (.pair (.int .i64) (.pair (.int .i64) .str))) l_2)), (15, .c (.imm (.slice (.pair (.int .i64) (.pair (.int .i64) .str))) l_2)), (16, .c (.val (.int .i64 (((List.length l_2) : Nat) : Int)))), (17, .c (.val (.int .i64 t_11))), (36, .c (.val (.bool true)))], [], 1⟩ [(decide ((List.getD l_2 (Int.toNat t_11) ((0 : Int), ((0 : Int), ByteArray.empty))).1 < (0 : Int))) = true] (by kernel_rfl) rfl rfl (ap1 b_17) (by kernel_rfl) (by kernel_rfl) ?_
              have H_85 := Option.some.inj (show some true = some q_79 from H_83); subst H_85
              refine VL_nil ?_
              exact QP_end true rfl [] hn (by kernel_rfl) (by kernel_rfl) rfl rfl rfl
            · have H_84 := of_f H_80 b_17
              rcases Bool.eq_false_or_eq_true ((decide ((List.getD l_2 (Int.toNat t_11) ((0 : Int), ((0 : Int), ByteArray.empty))).1 > (List.getD l_2 (Int.toNat t_11) ((0 : Int), ((0 : Int), ByteArray.empty))).2.1))) with b_19 | b_19
              · have H_86 := of_t H_84 b_19
                refine V_reg hN hn [] [(24, false), (31, true)] calls_nil 1 [0, 1, 15, 16, 17, 36] [] ⟨[(0, .c (.val (.int .i64 base_1))), (1, .c (.imm (.slice (.pair (.int .i64) (.pair (.int .i64) .str))) l_2)), (15, .c (.imm (.slice (.pair (.int .i64) (.pair (.int .i64) .str))) l_2)), (16, .c (.val (.int .i64 (((List.length l_2) : Nat) : Int)))), (17, .c (.val (.int .i64 t_11))), (36, .c (.val (.bool true)))], [], 1⟩ [(decide ((List.getD l_2 (Int.toNat t_11) ((0 : Int), ((0 : Int), ByteArray.empty))).1 < (0 : Int))) = false, (decide ((List.getD l_2 (Int.toNat t_11) ((0 : Int), ((0 : Int), ByteArray.empty))).1 > (List.getD l_2 (Int.toNat t_11) ((0 : Int), ((0 : Int), ByteArray.empty))).2.1)) = true] (by kernel_rfl) rfl rfl (ap2 b_17 (ap1 b_19)) (by kernel_rfl) (by kernel_rfl) ?_
                have H_88 := Option.some.inj (show some true = some q_79 from H_86); subst H_88
                refine VL_nil ?_
                exact QP_end true rfl [] hn (by kernel_rfl) (by kernel_rfl) rfl rfl rfl
              · have H_87 := of_f H_84 b_19
                refine V_reg hN hn [] [(24, false), (31, false)] calls_nil 1 [0, 1, 15, 16, 17, 36] [] ⟨[(0, .c (.val (.int .i64 base_1))), (1, .c (.imm (.slice (.pair (.int .i64) (.pair (.int .i64) .str))) l_2)), (15, .c (.imm (.slice (.pair (.int .i64) (.pair (.int .i64) .str))) l_2)), (16, .c (.val (.int .i64 (((List.length l_2) : Nat) : Int)))), (17, .c (.val (.int .i64 t_11))), (36, .c (.val (.bool (decide ((List.getD l_2 (Int.toNat t_11) ((0 : Int), ((0 : Int), ByteArray.empty))).2.1 > base_1)))))], [], 1⟩ [(decide ((List.getD l_2 (Int.toNat t_11) ((0 : Int), ((0 : Int), ByteArray.empty))).1 < (0 : Int))) = false, (decide ((List.getD l_2 (Int.toNat t_11) ((0 : Int), ((0 : Int), ByteArray.empty))).1 > (List.getD l_2 (Int.toNat t_11) ((0 : Int), ((0 : Int), ByteArray.empty))).2.1)) = false] (by kernel_rfl) rfl rfl (ap2 b_17 (ap1 b_19)) (by kernel_rfl) (by kernel_rfl) ?_
                have H_89 := Option.some.inj (show some (decide ((List.getD l_2 (Int.toNat t_11) ((0 : Int), ((0 : Int), ByteArray.empty))).2.1 > base_1)) = some q_79 from H_87); subst H_89
                refine VL_nil ?_
                exact QP_end (decide ((List.getD l_2 (Int.toNat t_11) ((0 : Int), ((0 : Int), ByteArray.empty))).2.1 > base_1)) rfl [] hn (by kernel_rfl) (by kernel_rfl) rfl rfl rfl
          · intro y_82 hy; subst hy
            skip
            skip
            refine VL_cond (y_82) (by kernel_rfl) ?_ ?_
            · intro b_23; have H_90 := of_t H_81 b_23
              refine V_run hN hn 2 1 [4] [] ⟨[(4, .c (.val (.int .i64 (10 : Int))))], [], 1⟩ [] (by kernel_rfl) rfl rfl ap0 ?_
              have H_92 := Option.some.inj (show some (Sum.inl (10 : Int)) = some q_70 from H_90); subst H_92
              have H_93 := Option.some.inj (show some (10 : Int) = some r from H_72); subst H_93
              refine VL_ret ?_
              refine QB_ret ?_
              refine QL_ret ?_
              refine QB_ret ?_
              refine QP_ret ?_
              exact P_to [(4, .c (.val (.int .i64 (10 : Int))))] [] [] hn (by kernel_rfl) (by kernel_rfl) rfl rfl rfl (QF_retS (by kernel_rfl) (by kernel_rfl) rfl)
            · intro b_23; have H_91 := of_f H_81 b_23
              refine V_run hN hn 1 1 [0, 1, 15, 16, 17, 36] [] ⟨[(0, .c (.val (.int .i64 base_1))), (1, .c (.imm (.slice (.pair (.int .i64) (.pair (.int .i64) .str))) l_2)), (15, .c (.imm (.slice (.pair (.int .i64) (.pair (.int .i64) .str))) l_2)), (16, .c (.val (.int .i64 (((List.length l_2) : Nat) : Int)))), (17, .c (.val (.int .i64 t_11))), (36, .c (.val (.bool y_82)))], [], 1⟩ [] (by kernel_rfl) rfl rfl ap0 ?_
              refine VL_nil (QB_end ?_)
              refine V_run hN hn 1 1 [0, 1, 15, 16, 17] [] ⟨[(0, .c (.val (.int .i64 base_1))), (1, .c (.imm (.slice (.pair (.int .i64) (.pair (.int .i64) .str))) l_2)), (15, .c (.imm (.slice (.pair (.int .i64) (.pair (.int .i64) .str))) l_2)), (16, .c (.val (.int .i64 (((List.length l_2) : Nat) : Int)))), (17, .c (.val (.int .i64 (IntKind.wrap .i64 (t_11 + (1 : Int))))))], [], 1⟩ [] (by kernel_rfl) rfl rfl ap0 ?_
              refine VL_nil ?_
              exact V_roundEnd (IntKind.wrap .i64 (t_11 + (1 : Int))) H_91 [] hn (by kernel_rfl) (by kernel_rfl) rfl rfl rfl
        · intro b_14; have H_77 := of_f H_75 b_14
          refine VL_exit ?_
          refine QL_exit ?_
          refine QB_here ?_
          have H_94 := Option.some.inj (show some (Sum.inr ()) = some q_70 from H_77); subst H_94
          refine VL_nil ?_
          exact QP_end () rfl [] hn (by kernel_rfl) (by kernel_rfl) rfl rfl rfl
      · intro y_73 hy; subst hy
        skip
        refine V_run hN hn 2 0 [0, 1] [] ⟨[(0, .c (.val (.int .i64 base_1))), (1, .c (.imm (.slice (.pair (.int .i64) (.pair (.int .i64) .str))) l_2))], [], 0⟩ [] (by kernel_rfl) rfl rfl ap0 ?_
        obtain ⟨r_28, h_29, H_95⟩ := of_bind H_72
        refine V_reg hN hn [(1, ⟨60, 0, [.c (.imm (.slice (.pair (.int .i64) (.pair (.int .i64) .str))) l_2)], [], .c (.val (.bool r_28)), [], [], 0⟩)] [] (calls_cons (delta_Ordered_spec K l_2 r_28 h_29) (by kernel_rfl) calls_nil) 0 [0, 1, 40] [] ⟨[(0, .c (.val (.int .i64 base_1))), (1, .c (.imm (.slice (.pair (.int .i64) (.pair (.int .i64) .str))) l_2)), (40, .c (.val (.bool (!r_28))))], [], 0⟩ [] (by kernel_rfl) rfl rfl ap0 (by kernel_rfl) (by kernel_rfl) ?_
        refine VL_cond ((!r_28)) (by kernel_rfl) ?_ ?_
        · intro b_31; have H_96 := of_t H_95 b_31
          refine V_run hN hn 2 0 [4] [] ⟨[(4, .c (.val (.int .i64 (180 : Int))))], [], 0⟩ [] (by kernel_rfl) rfl rfl ap0 ?_
          have H_98 := Option.some.inj (show some (180 : Int) = some r from H_96); subst H_98
          refine VL_ret ?_
          exact P_to [(4, .c (.val (.int .i64 (180 : Int))))] [] [] hn (by kernel_rfl) (by kernel_rfl) rfl rfl rfl (QF_retS (by kernel_rfl) (by kernel_rfl) rfl)
        · intro b_31; have H_97 := of_f H_95 b_31
          refine V_run hN hn 4 0 [0, 1, 41, 42, 43] [] ⟨[(0, .c (.val (.int .i64 base_1))), (1, .c (.imm (.slice (.pair (.int .i64) (.pair (.int .i64) .str))) l_2)), (41, .c (.imm (.slice (.pair (.int .i64) (.pair (.int .i64) .str))) l_2)), (42, .c (.val (.int .i64 (((List.length l_2) : Nat) : Int)))), (43, .c (.val (.int .i64 (0 : Int))))], [], 0⟩ [] (by kernel_rfl) rfl rfl ap0 ?_
          obtain ⟨q_99, H_100, H_101⟩ := of_bind H_97
          refine V_cut (Y := Unit) (R := (Int ⊕ Unit)) q_99 (fun y => (Sum.inr y)) (fun y => [(0, .c (.val (.int .i64 base_1))), (1, .c (.imm (.slice (.pair (.int .i64) (.pair (.int .i64) .str))) l_2))]) (fun y => []) ?_ ?_
          · skip
            refine VL_block ?_
            refine V_to [(0, .c (.val (.int .i64 base_1))), (1, .c (.imm (.slice (.pair (.int .i64) (.pair (.int .i64) .str))) l_2)), (41, .c (.imm (.slice (.pair (.int .i64) (.pair (.int .i64) .str))) l_2)), (42, .c (.val (.int .i64 (((List.length l_2) : Nat) : Int)))), (43, .c (.val (.int .i64 (0 : Int))))] [] [] hn (by kernel_rfl) (by kernel_rfl) rfl rfl rfl ?_
            refine VL_loop (X := Int) (fun x => [(0, .c (.val (.int .i64 base_1))), (1, .c (.imm (.slice (.pair (.int .i64) (.pair (.int .i64) .str))) l_2)), (41, .c (.imm (.slice (.pair (.int .i64) (.pair (.int .i64) .str))) l_2)), (42, .c (.val (.int .i64 (((List.length l_2) : Nat) : Int)))), (43, .c (.val (.int .i64 x)))]) (fun x => []) (fun k x => delta_check_gr.l1 K l_2 k x = some q_99) K (0 : Int) H_100 (fun _ h => no_none h) ?_
            intro k_35 t_34 H_103
            have H_104 : delta_check_gr.l1 K l_2 (k_35 + 1) t_34 = some q_99 := H_103
            rw [delta_check_gr.l1] at H_104
            refine V_run hN hn 3 0 [0, 1, 41, 42, 43, 44] [] ⟨[(0, .c (.val (.int .i64 base_1))), (1, .c (.imm (.slice (.pair (.int .i64) (.pair (.int .i64) .str))) l_2)), (41, .c (.imm (.slice (.pair (.int .i64) (.pair (.int .i64) .str))) l_2)), (42, .c (.val (.int .i64 (((List.length l_2) : Nat) : Int)))), (43, .c (.val (.int .i64 t_34))), (44, .c (.val (.bool (decide (t_34 < (((List.length l_2) : Nat) : Int))))))], [], 0⟩ [] (by kernel_rfl) rfl rfl ap0 ?_
            refine VL_cond ((decide (t_34 < (((List.length l_2) : Nat) : Int)))) (by kernel_rfl) ?_ ?_
            · intro b_37; have H_105 := of_t H_104 b_37
              refine V_run hN hn 2 0 [0, 1, 41, 42, 43, 44] [] ⟨[(0, .c (.val (.int .i64 base_1))), (1, .c (.imm (.slice (.pair (.int .i64) (.pair (.int .i64) .str))) l_2)), (41, .c (.imm (.slice (.pair (.int .i64) (.pair (.int .i64) .str))) l_2)), (42, .c (.val (.int .i64 (((List.length l_2) : Nat) : Int)))), (43, .c (.val (.int .i64 t_34))), (44, .c (.val (.bool (decide (t_34 < (((List.length l_2) : Nat) : Int))))))], [], 0⟩ [] (by kernel_rfl) rfl rfl ap0 ?_
              refine VL_block ?_
              obtain ⟨c_39, H_107⟩ := of_if H_105
              refine V_run hN hn 3 0 [0, 1, 8, 41, 42, 43] [0] ⟨[(0, .c (.val (.int .i64 base_1))), (1, .c (.imm (.slice (.pair (.int .i64) (.pair (.int .i64) .str))) l_2)), (8, .c (.h 0)), (41, .c (.imm (.slice (.pair (.int .i64) (.pair (.int .i64) .str))) l_2)), (42, .c (.val (.int .i64 (((List.length l_2) : Nat) : Int)))), (43, .c (.val (.int .i64 t_34)))], [(0, .box [.val (.int .i64 (List.getD l_2 (Int.toNat t_34) ((0 : Int), ((0 : Int), ByteArray.empty))).1), .val (.int .i64 (List.getD l_2 (Int.toNat t_34) ((0 : Int), ((0 : Int), ByteArray.empty))).2.1), .val (.string (List.getD l_2 (Int.toNat t_34) ((0 : Int), ((0 : Int), ByteArray.empty))).2.2)])], 1⟩ [0 ≤ t_34, t_34 < (((List.length l_2) : Nat) : Int)] (by kernel_rfl) rfl rfl (ap2 c_39.1 (ap1 c_39.2)) ?_
              obtain ⟨r_40, h_41, H_108⟩ := of_bind H_107
              refine V_reg hN hn [(2, ⟨61, 0, [.c (.val (.string (List.getD l_2 (Int.toNat t_34) ((0 : Int), ((0 : Int), ByteArray.empty))).2.2))], [], .c (.val (.bool r_40)), [], [], 1⟩)] [] (calls_cons (utf_Valid_spec K (List.getD l_2 (Int.toNat t_34) ((0 : Int), ((0 : Int), ByteArray.empty))).2.2 r_40 h_41) (by kernel_rfl) calls_nil) 1 [0, 1, 41, 42, 43, 50] [] ⟨[(0, .c (.val (.int .i64 base_1))), (1, .c (.imm (.slice (.pair (.int .i64) (.pair (.int .i64) .str))) l_2)), (41, .c (.imm (.slice (.pair (.int .i64) (.pair (.int .i64) .str))) l_2)), (42, .c (.val (.int .i64 (((List.length l_2) : Nat) : Int)))), (43, .c (.val (.int .i64 t_34))), (50, .c (.val (.bool (!r_40))))], [], 1⟩ [] (by kernel_rfl) rfl rfl ap0 (by kernel_rfl) (by kernel_rfl) ?_
              refine VL_cond ((!r_40)) (by kernel_rfl) ?_ ?_
              · intro b_43; have H_109 := of_t H_108 b_43
                refine V_run hN hn 2 1 [4] [] ⟨[(4, .c (.val (.int .i64 (12 : Int))))], [], 1⟩ [] (by kernel_rfl) rfl rfl ap0 ?_
                have H_111 := Option.some.inj (show some (Sum.inl (12 : Int)) = some q_99 from H_109); subst H_111
                have H_112 := Option.some.inj (show some (12 : Int) = some r from H_101); subst H_112
                refine VL_ret ?_
                refine QB_ret ?_
                refine QL_ret ?_
                refine QB_ret ?_
                refine QP_ret ?_
                exact P_to [(4, .c (.val (.int .i64 (12 : Int))))] [] [] hn (by kernel_rfl) (by kernel_rfl) rfl rfl rfl (QF_retS (by kernel_rfl) (by kernel_rfl) rfl)
              · intro b_43; have H_110 := of_f H_108 b_43
                refine V_run hN hn 1 1 [0, 1, 41, 42, 43, 50] [] ⟨[(0, .c (.val (.int .i64 base_1))), (1, .c (.imm (.slice (.pair (.int .i64) (.pair (.int .i64) .str))) l_2)), (41, .c (.imm (.slice (.pair (.int .i64) (.pair (.int .i64) .str))) l_2)), (42, .c (.val (.int .i64 (((List.length l_2) : Nat) : Int)))), (43, .c (.val (.int .i64 t_34))), (50, .c (.val (.bool (!r_40))))], [], 1⟩ [] (by kernel_rfl) rfl rfl ap0 ?_
                refine VL_nil (QB_end ?_)
                refine V_run hN hn 1 1 [0, 1, 41, 42, 43] [] ⟨[(0, .c (.val (.int .i64 base_1))), (1, .c (.imm (.slice (.pair (.int .i64) (.pair (.int .i64) .str))) l_2)), (41, .c (.imm (.slice (.pair (.int .i64) (.pair (.int .i64) .str))) l_2)), (42, .c (.val (.int .i64 (((List.length l_2) : Nat) : Int)))), (43, .c (.val (.int .i64 (IntKind.wrap .i64 (t_34 + (1 : Int))))))], [], 1⟩ [] (by kernel_rfl) rfl rfl ap0 ?_
                refine VL_nil ?_
                exact V_roundEnd (IntKind.wrap .i64 (t_34 + (1 : Int))) H_110 [] hn (by kernel_rfl) (by kernel_rfl) rfl rfl rfl
            · intro b_37; have H_106 := of_f H_104 b_37
              refine VL_exit ?_
              refine QL_exit ?_
              refine QB_here ?_
              have H_113 := Option.some.inj (show some (Sum.inr ()) = some q_99 from H_106); subst H_113
              refine VL_nil ?_
              exact QP_end () rfl [] hn (by kernel_rfl) (by kernel_rfl) rfl rfl rfl
          · intro y_102 hy; subst hy
            skip
            refine V_run hN hn 1 0 [0, 1] [] ⟨[(0, .c (.val (.int .i64 base_1))), (1, .c (.imm (.slice (.pair (.int .i64) (.pair (.int .i64) .str))) l_2))], [], 0⟩ [] (by kernel_rfl) rfl rfl ap0 ?_
            obtain ⟨r_48, h_49, H_114⟩ := of_bind H_101
            refine V_reg hN hn [(2, ⟨62, 0, [.c (.val (.int .i64 base_1)), .c (.imm (.slice (.pair (.int .i64) (.pair (.int .i64) .str))) l_2)], [], .c (.val (.int .i64 r_48)), [], [], 0⟩)] [] (calls_cons (delta_long_spec K base_1 l_2 r_48 h_49) (by kernel_rfl) calls_nil) 0 [4] [] ⟨[(4, .c (.val (.int .i64 r_48)))], [], 0⟩ [] (by kernel_rfl) rfl rfl ap0 (by kernel_rfl) (by kernel_rfl) ?_
            have H_115 := Option.some.inj (show some r_48 = some r from H_114); subst H_115
            refine VL_ret ?_
            exact P_to [(4, .c (.val (.int .i64 r_48)))] [] [] hn (by kernel_rfl) (by kernel_rfl) rfl rfl rfl (QF_retS (by kernel_rfl) (by kernel_rfl) rfl)

theorem delta_Build_spec (K : Nat) (base_1 : Int) (l_2 : (List (Int × (Int × ByteArray)))) (r : (Int × (List (Int × (Int × ByteArray))) × Int)) (H : delta_Build_gr K base_1 l_2 = some r) : Spec Try.prog 19 0 [.c (.val (.int .i64 base_1)), .c (.imm (.slice (.pair (.int .i64) (.pair (.int .i64) .str))) l_2)] [] (.tup [(true, [.val (.int .i64 r.1), .imm (.slice (.pair (.int .i64) (.pair (.int .i64) .str))) r.2.1]), (false, [.val (.int .i64 r.2.2)])]) [] := by
  refine Spec_mk (fn := Try.f19) (c := (Try.f19.body).get!) Try.func19 (by kernel_rfl) rfl ?_
  intro C hN hn
  replace hN : C.N = 46 := hN
  unfold delta_Build_gr at H
  refine V_run hN hn 4 0 [0, 1, 4] [0] ⟨[(0, .c (.val (.int .i64 base_1))), (1, .c (.imm (.slice (.pair (.int .i64) (.pair (.int .i64) .str))) l_2)), (4, .c (.h 0))], [(0, .box [.val (.int .i64 (0 : Int)), .val (.slice none 0 0)])], 1⟩ [] (by kernel_rfl) rfl rfl ap0 ?_
  obtain ⟨r_4, h_5, H_60⟩ := of_bind H
  refine V_reg hN hn [(2, ⟨47, 0, [.c (.val (.int .i64 base_1)), .c (.imm (.slice (.pair (.int .i64) (.pair (.int .i64) .str))) l_2)], [], .c (.val (.int .i64 r_4)), [], [], 1⟩)] [] (calls_cons (delta_check_spec K base_1 l_2 r_4 h_5) (by kernel_rfl) calls_nil) 1 [0, 1, 4, 6] [0] ⟨[(0, .c (.val (.int .i64 base_1))), (1, .c (.imm (.slice (.pair (.int .i64) (.pair (.int .i64) .str))) l_2)), (4, .c (.h 0)), (6, .c (.val (.int .i64 r_4)))], [(0, .box [.val (.int .i64 (0 : Int)), .val (.slice none 0 0)])], 1⟩ [] (by kernel_rfl) rfl rfl ap0 (by kernel_rfl) (by kernel_rfl) ?_
  refine V_run hN hn 2 1 [0, 1, 4, 6, 15] [0] ⟨[(0, .c (.val (.int .i64 base_1))), (1, .c (.imm (.slice (.pair (.int .i64) (.pair (.int .i64) .str))) l_2)), (4, .c (.h 0)), (6, .c (.val (.int .i64 r_4))), (15, .c (.val (.bool (r_4 != (0 : Int)))))], [(0, .box [.val (.int .i64 (0 : Int)), .val (.slice none 0 0)])], 1⟩ [] (by kernel_rfl) rfl rfl ap0 ?_
  refine VL_cond ((r_4 != (0 : Int))) (by kernel_rfl) ?_ ?_
  · intro b_8; have H_61 := of_t H_60 b_8
    refine V_run hN hn 2 1 [4, 5] [0] ⟨[(4, .c (.h 0)), (5, .c (.val (.int .i64 r_4)))], [(0, .box [.val (.int .i64 (0 : Int)), .val (.slice none 0 0)])], 1⟩ [] (by kernel_rfl) rfl rfl ap0 ?_
    have H_63 := Option.some.inj (show some ((0 : Int), ([] : List (Int × (Int × ByteArray))), r_4) = some r from H_61); subst H_63
    refine VL_ret ?_
    refine P_ghost [.readCell 0 1 (.slice (.pair (.int .i64) (.pair (.int .i64) .str)))] 1 hn [4, 5] [0] ⟨[(4, .c (.h 0)), (5, .c (.val (.int .i64 r_4)))], [(0, .box [.val (.int .i64 (0 : Int)), .imm (.slice (.pair (.int .i64) (.pair (.int .i64) .str))) ([] : List (Int × (Int × ByteArray)))])], 1⟩ (by kernel_rfl) rfl rfl ?_
    exact P_to [(4, .c (.h 0)), (5, .c (.val (.int .i64 r_4)))] [(0, .box [.val (.int .i64 (0 : Int)), .imm (.slice (.pair (.int .i64) (.pair (.int .i64) .str))) ([] : List (Int × (Int × ByteArray)))])] [(0, 0)] hn (by kernel_rfl) (by kernel_rfl) rfl rfl rfl (QF_retS (by kernel_rfl) (by kernel_rfl) rfl)
  · intro b_8; have H_62 := of_f H_60 b_8
    refine V_run hN hn 2 1 [0, 1, 4, 6, 15] [0] ⟨[(0, .c (.val (.int .i64 base_1))), (1, .c (.imm (.slice (.pair (.int .i64) (.pair (.int .i64) .str))) l_2)), (4, .c (.h 0)), (6, .c (.val (.int .i64 r_4))), (15, .c (.val (.bool (r_4 != (0 : Int)))))], [(0, .box [.val (.int .i64 (0 : Int)), .val (.slice none 0 0)])], 1⟩ [] (by kernel_rfl) rfl rfl ap0 ?_
    obtain ⟨r_11, h_12, H_64⟩ := of_bind H_62
    refine V_reg hN hn [(1, ⟨39, 0, [.c (.val (.int .i64 base_1))], [], .c (.h 0), [(0, .box [.val (.int .i64 base_1), .val (.slice none 0 0)])], [(0, 1)], 2⟩)] [] (calls_cons (delta_NewMaker_spec K base_1 r_11 h_12) (by kernel_rfl) calls_nil) 1 [0, 1, 4, 7] [0, 1] ⟨[(0, .c (.val (.int .i64 base_1))), (1, .c (.imm (.slice (.pair (.int .i64) (.pair (.int .i64) .str))) l_2)), (4, .c (.h 0)), (7, .c (.h 1))], [(0, .box [.val (.int .i64 (0 : Int)), .val (.slice none 0 0)]), (1, .box [.val (.int .i64 base_1), .val (.slice none 0 0)])], 2⟩ [] (by kernel_rfl) rfl rfl ap0 (by kernel_rfl) (by kernel_rfl) ?_
    refine V_run hN hn 5 2 [0, 4, 7, 8, 20, 21, 22] [0, 1] ⟨[(0, .c (.val (.int .i64 base_1))), (4, .c (.h 0)), (7, .c (.h 1)), (8, .c (.val (.int .i64 (0 : Int)))), (20, .c (.imm (.slice (.pair (.int .i64) (.pair (.int .i64) .str))) l_2)), (21, .c (.val (.int .i64 (((List.length l_2) : Nat) : Int)))), (22, .c (.val (.int .i64 (0 : Int))))], [(0, .box [.val (.int .i64 (0 : Int)), .val (.slice none 0 0)]), (1, .box [.val (.int .i64 base_1), .val (.slice none 0 0)])], 2⟩ [] (by kernel_rfl) rfl rfl ap0 ?_
    obtain ⟨q_65, H_66, H_67⟩ := of_bind H_64
    refine V_cut (Y := ((List (Int × (Int × ByteArray))) × Int)) (R := ((List (Int × (Int × ByteArray))) × Int)) q_65 (fun y => y) (fun y => [(0, .c (.val (.int .i64 base_1))), (4, .c (.h 0)), (7, .c (.h 1)), (8, .c (.val (.int .i64 y.2)))]) (fun y => [(0, .box [.val (.int .i64 (0 : Int)), .val (.slice none 0 0)]), (1, .box [.val (.int .i64 base_1), .h 5]), (5, .row (.pair (.int .i64) (.pair (.int .i64) .str)) y.1)]) ?_ ?_
    · skip
      refine VL_block ?_
      refine V_ghost [.nilCell 1 1 (.pair (.int .i64) (.pair (.int .i64) .str))] 2 hn [0, 4, 7, 8, 20, 21, 22] [0, 1, 2] ⟨[(0, .c (.val (.int .i64 base_1))), (4, .c (.h 0)), (7, .c (.h 1)), (8, .c (.val (.int .i64 (0 : Int)))), (20, .c (.imm (.slice (.pair (.int .i64) (.pair (.int .i64) .str))) l_2)), (21, .c (.val (.int .i64 (((List.length l_2) : Nat) : Int)))), (22, .c (.val (.int .i64 (0 : Int))))], [(0, .box [.val (.int .i64 (0 : Int)), .val (.slice none 0 0)]), (1, .box [.val (.int .i64 base_1), .h 2]), (2, .row (.pair (.int .i64) (.pair (.int .i64) .str)) ([] : List (Int × (Int × ByteArray))))], 3⟩ (by kernel_rfl) rfl rfl ?_
      refine V_to [(0, .c (.val (.int .i64 base_1))), (4, .c (.h 0)), (7, .c (.h 1)), (8, .c (.val (.int .i64 (0 : Int)))), (20, .c (.imm (.slice (.pair (.int .i64) (.pair (.int .i64) .str))) l_2)), (21, .c (.val (.int .i64 (((List.length l_2) : Nat) : Int)))), (22, .c (.val (.int .i64 (0 : Int))))] [(0, .box [.val (.int .i64 (0 : Int)), .val (.slice none 0 0)]), (1, .box [.val (.int .i64 base_1), .h 5]), (5, .row (.pair (.int .i64) (.pair (.int .i64) .str)) ([] : List (Int × (Int × ByteArray))))] [(0, 0), (1, 1), (5, 2)] hn (by kernel_rfl) (by kernel_rfl) rfl rfl rfl ?_
      refine VL_loop (X := ((List (Int × (Int × ByteArray))) × Int × Int)) (fun x => [(0, .c (.val (.int .i64 base_1))), (4, .c (.h 0)), (7, .c (.h 1)), (8, .c (.val (.int .i64 x.2.1))), (20, .c (.imm (.slice (.pair (.int .i64) (.pair (.int .i64) .str))) l_2)), (21, .c (.val (.int .i64 (((List.length l_2) : Nat) : Int)))), (22, .c (.val (.int .i64 x.2.2)))]) (fun x => [(0, .box [.val (.int .i64 (0 : Int)), .val (.slice none 0 0)]), (1, .box [.val (.int .i64 base_1), .h 5]), (5, .row (.pair (.int .i64) (.pair (.int .i64) .str)) x.1)]) (fun k x => delta_Build_gr.l0 K l_2 base_1 k x.1 x.2.1 x.2.2 = some q_65) K (([] : List (Int × (Int × ByteArray))), (0 : Int), (0 : Int)) H_66 (fun _ h => no_none h) ?_
      intro k_32 x_32 H_69
      obtain ⟨x_31, at_15, t_16⟩ := x_32
      have H_70 : delta_Build_gr.l0 K l_2 base_1 (k_32 + 1) x_31 at_15 t_16 = some q_65 := H_69
      rw [delta_Build_gr.l0] at H_70
      refine V_run hN hn 3 6 [0, 4, 7, 8, 20, 21, 22, 23] [0, 1, 5] ⟨[(0, .c (.val (.int .i64 base_1))), (4, .c (.h 0)), (7, .c (.h 1)), (8, .c (.val (.int .i64 at_15))), (20, .c (.imm (.slice (.pair (.int .i64) (.pair (.int .i64) .str))) l_2)), (21, .c (.val (.int .i64 (((List.length l_2) : Nat) : Int)))), (22, .c (.val (.int .i64 t_16))), (23, .c (.val (.bool (decide (t_16 < (((List.length l_2) : Nat) : Int))))))], [(0, .box [.val (.int .i64 (0 : Int)), .val (.slice none 0 0)]), (1, .box [.val (.int .i64 base_1), .h 5]), (5, .row (.pair (.int .i64) (.pair (.int .i64) .str)) x_31)], 6⟩ [] (by kernel_rfl) rfl rfl ap0 ?_
      refine VL_cond ((decide (t_16 < (((List.length l_2) : Nat) : Int)))) (by kernel_rfl) ?_ ?_
      · intro b_34; have H_71 := of_t H_70 b_34
        refine V_run hN hn 2 6 [0, 4, 7, 8, 20, 21, 22, 23] [0, 1, 5] ⟨[(0, .c (.val (.int .i64 base_1))), (4, .c (.h 0)), (7, .c (.h 1)), (8, .c (.val (.int .i64 at_15))), (20, .c (.imm (.slice (.pair (.int .i64) (.pair (.int .i64) .str))) l_2)), (21, .c (.val (.int .i64 (((List.length l_2) : Nat) : Int)))), (22, .c (.val (.int .i64 t_16))), (23, .c (.val (.bool (decide (t_16 < (((List.length l_2) : Nat) : Int))))))], [(0, .box [.val (.int .i64 (0 : Int)), .val (.slice none 0 0)]), (1, .box [.val (.int .i64 base_1), .h 5]), (5, .row (.pair (.int .i64) (.pair (.int .i64) .str)) x_31)], 6⟩ [] (by kernel_rfl) rfl rfl ap0 ?_
        refine VL_block ?_
        obtain ⟨c_36, H_73⟩ := of_if H_71
        refine V_run hN hn 3 6 [0, 4, 7, 8, 10, 20, 21, 22] [0, 1, 5, 6] ⟨[(0, .c (.val (.int .i64 base_1))), (4, .c (.h 0)), (7, .c (.h 1)), (8, .c (.val (.int .i64 at_15))), (10, .c (.h 6)), (20, .c (.imm (.slice (.pair (.int .i64) (.pair (.int .i64) .str))) l_2)), (21, .c (.val (.int .i64 (((List.length l_2) : Nat) : Int)))), (22, .c (.val (.int .i64 t_16)))], [(0, .box [.val (.int .i64 (0 : Int)), .val (.slice none 0 0)]), (1, .box [.val (.int .i64 base_1), .h 5]), (5, .row (.pair (.int .i64) (.pair (.int .i64) .str)) x_31), (6, .box [.val (.int .i64 (List.getD l_2 (Int.toNat t_16) ((0 : Int), ((0 : Int), ByteArray.empty))).1), .val (.int .i64 (List.getD l_2 (Int.toNat t_16) ((0 : Int), ((0 : Int), ByteArray.empty))).2.1), .val (.string (List.getD l_2 (Int.toNat t_16) ((0 : Int), ((0 : Int), ByteArray.empty))).2.2)])], 7⟩ [0 ≤ t_16, t_16 < (((List.length l_2) : Nat) : Int)] (by kernel_rfl) rfl rfl (ap2 c_36.1 (ap1 c_36.2)) ?_
        obtain ⟨r_37, h_38, H_74⟩ := of_bind H_73
        refine V_reg hN hn [(4, ⟨41, 2, [.c (.h 0), .c (.val (.int .i64 at_15)), .c (.val (.int .i64 (List.getD l_2 (Int.toNat t_16) ((0 : Int), ((0 : Int), ByteArray.empty))).1))], [(0, .box [.val (.int .i64 base_1), .h 1]), (1, .row (.pair (.int .i64) (.pair (.int .i64) .str)) x_31)], .tup [], [(0, .box [.val (.int .i64 base_1), .h 4]), (4, .row (.pair (.int .i64) (.pair (.int .i64) .str)) r_37)], [(0, 1), (1, 5), (4, 7)], 8⟩)] [] (calls_cons (delta_Maker_Copy_bgg_11dec_spec K base_1 x_31 at_15 (List.getD l_2 (Int.toNat t_16) ((0 : Int), ((0 : Int), ByteArray.empty))).1 r_37 h_38) (by kernel_rfl) calls_nil) 7 [0, 4, 7, 10, 20, 21, 22] [0, 1, 6, 7] ⟨[(0, .c (.val (.int .i64 base_1))), (4, .c (.h 0)), (7, .c (.h 1)), (10, .c (.h 6)), (20, .c (.imm (.slice (.pair (.int .i64) (.pair (.int .i64) .str))) l_2)), (21, .c (.val (.int .i64 (((List.length l_2) : Nat) : Int)))), (22, .c (.val (.int .i64 t_16)))], [(0, .box [.val (.int .i64 (0 : Int)), .val (.slice none 0 0)]), (1, .box [.val (.int .i64 base_1), .h 7]), (6, .box [.val (.int .i64 (List.getD l_2 (Int.toNat t_16) ((0 : Int), ((0 : Int), ByteArray.empty))).1), .val (.int .i64 (List.getD l_2 (Int.toNat t_16) ((0 : Int), ((0 : Int), ByteArray.empty))).2.1), .val (.string (List.getD l_2 (Int.toNat t_16) ((0 : Int), ((0 : Int), ByteArray.empty))).2.2)]), (7, .row (.pair (.int .i64) (.pair (.int .i64) .str)) r_37)], 8⟩ [] (by kernel_rfl) rfl rfl ap0 (by kernel_rfl) (by kernel_rfl) ?_
        refine V_run hN hn 1 8 [0, 4, 7, 10, 20, 21, 22] [0, 1, 6, 7] ⟨[(0, .c (.val (.int .i64 base_1))), (4, .c (.h 0)), (7, .c (.h 1)), (10, .c (.h 6)), (20, .c (.imm (.slice (.pair (.int .i64) (.pair (.int .i64) .str))) l_2)), (21, .c (.val (.int .i64 (((List.length l_2) : Nat) : Int)))), (22, .c (.val (.int .i64 t_16)))], [(0, .box [.val (.int .i64 (0 : Int)), .val (.slice none 0 0)]), (1, .box [.val (.int .i64 base_1), .h 7]), (6, .box [.val (.int .i64 (List.getD l_2 (Int.toNat t_16) ((0 : Int), ((0 : Int), ByteArray.empty))).1), .val (.int .i64 (List.getD l_2 (Int.toNat t_16) ((0 : Int), ((0 : Int), ByteArray.empty))).2.1), .val (.string (List.getD l_2 (Int.toNat t_16) ((0 : Int), ((0 : Int), ByteArray.empty))).2.2)]), (7, .row (.pair (.int .i64) (.pair (.int .i64) .str)) r_37)], 8⟩ [] (by kernel_rfl) rfl rfl ap0 ?_
        obtain ⟨r_41, h_42, H_75⟩ := of_bind H_74
        refine V_reg hN hn [(3, ⟨42, 2, [.c (.h 0), .c (.val (.string (List.getD l_2 (Int.toNat t_16) ((0 : Int), ((0 : Int), ByteArray.empty))).2.2))], [(0, .box [.val (.int .i64 base_1), .h 1]), (1, .row (.pair (.int .i64) (.pair (.int .i64) .str)) r_37)], .tup [], [(0, .box [.val (.int .i64 base_1), .h 4]), (4, .row (.pair (.int .i64) (.pair (.int .i64) .str)) r_41)], [(0, 1), (1, 7), (4, 8)], 9⟩)] [] (calls_cons (delta_Maker_Put_bg_92925_spec K base_1 r_37 (List.getD l_2 (Int.toNat t_16) ((0 : Int), ((0 : Int), ByteArray.empty))).2.2 r_41 h_42) (by kernel_rfl) calls_nil) 8 [0, 4, 7, 10, 20, 21, 22] [0, 1, 6, 8] ⟨[(0, .c (.val (.int .i64 base_1))), (4, .c (.h 0)), (7, .c (.h 1)), (10, .c (.h 6)), (20, .c (.imm (.slice (.pair (.int .i64) (.pair (.int .i64) .str))) l_2)), (21, .c (.val (.int .i64 (((List.length l_2) : Nat) : Int)))), (22, .c (.val (.int .i64 t_16)))], [(0, .box [.val (.int .i64 (0 : Int)), .val (.slice none 0 0)]), (1, .box [.val (.int .i64 base_1), .h 8]), (6, .box [.val (.int .i64 (List.getD l_2 (Int.toNat t_16) ((0 : Int), ((0 : Int), ByteArray.empty))).1), .val (.int .i64 (List.getD l_2 (Int.toNat t_16) ((0 : Int), ((0 : Int), ByteArray.empty))).2.1), .val (.string (List.getD l_2 (Int.toNat t_16) ((0 : Int), ((0 : Int), ByteArray.empty))).2.2)]), (8, .row (.pair (.int .i64) (.pair (.int .i64) .str)) r_41)], 9⟩ [] (by kernel_rfl) rfl rfl ap0 (by kernel_rfl) (by kernel_rfl) ?_
        refine V_run hN hn 1 9 [0, 4, 7, 8, 20, 21, 22] [0, 1, 8] ⟨[(0, .c (.val (.int .i64 base_1))), (4, .c (.h 0)), (7, .c (.h 1)), (8, .c (.val (.int .i64 (List.getD l_2 (Int.toNat t_16) ((0 : Int), ((0 : Int), ByteArray.empty))).2.1))), (20, .c (.imm (.slice (.pair (.int .i64) (.pair (.int .i64) .str))) l_2)), (21, .c (.val (.int .i64 (((List.length l_2) : Nat) : Int)))), (22, .c (.val (.int .i64 t_16)))], [(0, .box [.val (.int .i64 (0 : Int)), .val (.slice none 0 0)]), (1, .box [.val (.int .i64 base_1), .h 8]), (8, .row (.pair (.int .i64) (.pair (.int .i64) .str)) r_41)], 9⟩ [] (by kernel_rfl) rfl rfl ap0 ?_
        refine VL_nil (QB_end ?_)
        refine V_run hN hn 1 9 [0, 4, 7, 8, 20, 21, 22] [0, 1, 8] ⟨[(0, .c (.val (.int .i64 base_1))), (4, .c (.h 0)), (7, .c (.h 1)), (8, .c (.val (.int .i64 (List.getD l_2 (Int.toNat t_16) ((0 : Int), ((0 : Int), ByteArray.empty))).2.1))), (20, .c (.imm (.slice (.pair (.int .i64) (.pair (.int .i64) .str))) l_2)), (21, .c (.val (.int .i64 (((List.length l_2) : Nat) : Int)))), (22, .c (.val (.int .i64 (IntKind.wrap .i64 (t_16 + (1 : Int))))))], [(0, .box [.val (.int .i64 (0 : Int)), .val (.slice none 0 0)]), (1, .box [.val (.int .i64 base_1), .h 8]), (8, .row (.pair (.int .i64) (.pair (.int .i64) .str)) r_41)], 9⟩ [] (by kernel_rfl) rfl rfl ap0 ?_
        refine VL_nil ?_
        exact V_roundEnd (r_41, (List.getD l_2 (Int.toNat t_16) ((0 : Int), ((0 : Int), ByteArray.empty))).2.1, (IntKind.wrap .i64 (t_16 + (1 : Int)))) H_75 [(0, 0), (1, 1), (5, 8)] hn (by kernel_rfl) (by kernel_rfl) rfl rfl rfl
      · intro b_34; have H_72 := of_f H_70 b_34
        refine VL_exit ?_
        refine QL_exit ?_
        refine QB_here ?_
        have H_76 := Option.some.inj (show some (x_31, at_15) = some q_65 from H_72); subst H_76
        refine VL_nil ?_
        exact QP_end (x_31, at_15) rfl [(0, 0), (1, 1), (5, 5)] hn (by kernel_rfl) (by kernel_rfl) rfl rfl rfl
    · intro y_68 hy; subst hy
      obtain ⟨x_46, at_47⟩ := y_68
      refine V_run hN hn 1 6 [0, 4, 7, 8] [0, 1, 5] ⟨[(0, .c (.val (.int .i64 base_1))), (4, .c (.h 0)), (7, .c (.h 1)), (8, .c (.val (.int .i64 at_47)))], [(0, .box [.val (.int .i64 (0 : Int)), .val (.slice none 0 0)]), (1, .box [.val (.int .i64 base_1), .h 5]), (5, .row (.pair (.int .i64) (.pair (.int .i64) .str)) x_46)], 6⟩ [] (by kernel_rfl) rfl rfl ap0 ?_
      obtain ⟨r_49, h_50, H_77⟩ := of_bind H_67
      refine V_reg hN hn [(3, ⟨41, 2, [.c (.h 0), .c (.val (.int .i64 at_47)), .c (.val (.int .i64 base_1))], [(0, .box [.val (.int .i64 base_1), .h 1]), (1, .row (.pair (.int .i64) (.pair (.int .i64) .str)) x_46)], .tup [], [(0, .box [.val (.int .i64 base_1), .h 4]), (4, .row (.pair (.int .i64) (.pair (.int .i64) .str)) r_49)], [(0, 1), (1, 5), (4, 6)], 7⟩)] [] (calls_cons (delta_Maker_Copy_bgg_11dec_spec K base_1 x_46 at_47 base_1 r_49 h_50) (by kernel_rfl) calls_nil) 6 [4, 7] [0, 1, 6] ⟨[(4, .c (.h 0)), (7, .c (.h 1))], [(0, .box [.val (.int .i64 (0 : Int)), .val (.slice none 0 0)]), (1, .box [.val (.int .i64 base_1), .h 6]), (6, .row (.pair (.int .i64) (.pair (.int .i64) .str)) r_49)], 7⟩ [] (by kernel_rfl) rfl rfl ap0 (by kernel_rfl) (by kernel_rfl) ?_
      refine V_run hN hn 1 7 [4, 7] [0, 1, 6] ⟨[(4, .c (.h 0)), (7, .c (.h 1))], [(0, .box [.val (.int .i64 (0 : Int)), .val (.slice none 0 0)]), (1, .box [.val (.int .i64 base_1), .h 6]), (6, .row (.pair (.int .i64) (.pair (.int .i64) .str)) r_49)], 7⟩ [] (by kernel_rfl) rfl rfl ap0 ?_
      refine V_ghost [.shut 6] 7 hn [4, 7] [0, 1] ⟨[(4, .c (.h 0)), (7, .c (.h 1))], [(0, .box [.val (.int .i64 (0 : Int)), .val (.slice none 0 0)]), (1, .box [.val (.int .i64 base_1), .imm (.slice (.pair (.int .i64) (.pair (.int .i64) .str))) r_49])], 7⟩ (by kernel_rfl) rfl rfl ?_
      obtain ⟨r_53, h_54, H_78⟩ := of_bind H_77
      refine V_reg hN hn [(1, ⟨43, 1, [.c (.h 0)], [(0, .box [.val (.int .i64 base_1), .imm (.slice (.pair (.int .i64) (.pair (.int .i64) .str))) r_49])], .tup [(true, [.val (.int .i64 r_53.1), .imm (.slice (.pair (.int .i64) (.pair (.int .i64) .str))) r_53.2.1]), (false, [.val (.int .i64 r_53.2.2)])], [(0, .box [.val (.int .i64 base_1), .imm (.slice (.pair (.int .i64) (.pair (.int .i64) .str))) r_49])], [(0, 1)], 7⟩)] [] (calls_cons (delta_Maker_Delta_b_ee1c6_spec K base_1 r_49 r_53 h_54) (by kernel_rfl) calls_nil) 7 [4, 5] [0] ⟨[(4, .c (.h 0)), (5, .c (.val (.int .i64 r_53.2.2)))], [(0, .box [.val (.int .i64 r_53.1), .imm (.slice (.pair (.int .i64) (.pair (.int .i64) .str))) r_53.2.1])], 7⟩ [] (by kernel_rfl) rfl rfl ap0 (by kernel_rfl) (by kernel_rfl) ?_
      have H_79 := Option.some.inj (show some (r_53.1, r_53.2.1, r_53.2.2) = some r from H_78); subst H_79
      refine VL_ret ?_
      exact P_to [(4, .c (.h 0)), (5, .c (.val (.int .i64 r_53.2.2)))] [(0, .box [.val (.int .i64 r_53.1), .imm (.slice (.pair (.int .i64) (.pair (.int .i64) .str))) r_53.2.1])] [(0, 0)] hn (by kernel_rfl) (by kernel_rfl) rfl rfl rfl (QF_retS (by kernel_rfl) (by kernel_rfl) rfl)

theorem delta_Size_spec (K : Nat) (d_1 : Int) (d_2 : (List (Int × (Int × ByteArray)))) (r : Int) (H : delta_Size K d_1 d_2 = some r) : Spec Try.prog 23 0 [.agg [.val (.int .i64 d_1), .imm (.slice (.pair (.int .i64) (.pair (.int .i64) .str))) d_2]] [] (.c (.val (.int .i64 r))) [] := by
  refine Spec_mk (fn := Try.f23) (c := (Try.f23.body).get!) Try.func23 (by kernel_rfl) rfl ?_
  intro C hN hn
  replace hN : C.N = 13 := hN
  unfold delta_Size at H
  refine V_run hN hn 3 0 [1] [0] ⟨[(1, .c (.h 0))], [(0, .box [.val (.int .i64 d_1), .imm (.slice (.pair (.int .i64) (.pair (.int .i64) .str))) d_2])], 1⟩ [] (by kernel_rfl) rfl rfl ap0 ?_
  obtain ⟨r_4, h_5, H_9⟩ := of_bind H
  refine V_reg hN hn [(1, ⟨48, 0, [.agg [.val (.int .i64 d_1), .imm (.slice (.pair (.int .i64) (.pair (.int .i64) .str))) d_2]], [], .tup [(false, [.val (.int .i64 r_4.1)]), (false, [.val (.int .i64 r_4.2)])], [], [], 1⟩)] [] (calls_cons (delta_sums_spec K d_1 d_2 r_4 h_5) (by kernel_rfl) calls_nil) 1 [3, 4] [] ⟨[(3, .c (.val (.int .i64 r_4.1))), (4, .c (.val (.int .i64 r_4.2)))], [], 1⟩ [] (by kernel_rfl) rfl rfl ap0 (by kernel_rfl) (by kernel_rfl) ?_
  refine V_run hN hn 2 1 [2] [] ⟨[(2, .c (.val (.int .i64 (IntKind.wrap .i64 (r_4.1 + r_4.2)))))], [], 1⟩ [] (by kernel_rfl) rfl rfl ap0 ?_
  have H_10 := Option.some.inj (show some (IntKind.wrap .i64 (r_4.1 + r_4.2)) = some r from H_9); subst H_10
  refine VL_ret ?_
  exact P_to [(2, .c (.val (.int .i64 (IntKind.wrap .i64 (r_4.1 + r_4.2)))))] [] [] hn (by kernel_rfl) (by kernel_rfl) rfl rfl rfl (QF_retS (by kernel_rfl) (by kernel_rfl) rfl)

theorem delta_Apply_spec (K : Nat) (d_1 : Int) (d_2 : (List (Int × (Int × ByteArray)))) (s_3 : ByteArray) (r : (ByteArray × Int)) (H : delta_Apply K d_1 d_2 s_3 = some r) : Spec Try.prog 34 0 [.agg [.val (.int .i64 d_1), .imm (.slice (.pair (.int .i64) (.pair (.int .i64) .str))) d_2], .c (.val (.string s_3))] [] (.tup [(false, [.val (.string r.1)]), (false, [.val (.int .i64 r.2)])]) [] := by
  refine Spec_mk (fn := Try.f34) (c := (Try.f34.body).get!) Try.func34 (by kernel_rfl) rfl ?_
  intro C hN hn
  replace hN : C.N = 53 := hN
  unfold delta_Apply at H
  refine V_run hN hn 3 0 [1, 2] [0] ⟨[(1, .c (.val (.string s_3))), (2, .c (.h 0))], [(0, .box [.val (.int .i64 d_1), .imm (.slice (.pair (.int .i64) (.pair (.int .i64) .str))) d_2])], 1⟩ [] (by kernel_rfl) rfl rfl ap0 ?_
  refine VL_block ?_
  refine V_run hN hn 1 1 [1, 2] [0] ⟨[(1, .c (.val (.string s_3))), (2, .c (.h 0))], [(0, .box [.val (.int .i64 d_1), .imm (.slice (.pair (.int .i64) (.pair (.int .i64) .str))) d_2])], 1⟩ [] (by kernel_rfl) rfl rfl ap0 ?_
  obtain ⟨r_6, h_7, H_43⟩ := of_bind H
  refine V_reg hN hn [(1, ⟨44, 0, [.agg [.val (.int .i64 d_1), .imm (.slice (.pair (.int .i64) (.pair (.int .i64) .str))) d_2]], [], .c (.val (.bool r_6)), [], [], 1⟩)] [] (calls_cons (delta_Is_spec K d_1 d_2 r_6 h_7) (by kernel_rfl) calls_nil) 1 [1, 2, 10] [0] ⟨[(1, .c (.val (.string s_3))), (2, .c (.h 0)), (10, .c (.val (.bool (!r_6))))], [(0, .box [.val (.int .i64 d_1), .imm (.slice (.pair (.int .i64) (.pair (.int .i64) .str))) d_2])], 1⟩ [] (by kernel_rfl) rfl rfl ap0 (by kernel_rfl) (by kernel_rfl) ?_
  refine VL_cond ((!r_6)) (by kernel_rfl) ?_ ?_
  · intro b_9; have H_44 := of_t H_43 b_9
    refine V_run hN hn 2 1 [4, 5] [] ⟨[(4, .c (.val (.string (ByteArray.mk #[])))), (5, .c (.val (.int .i64 (12 : Int))))], [], 1⟩ [] (by kernel_rfl) rfl rfl ap0 ?_
    have H_46 := Option.some.inj (show some ((ByteArray.mk #[]), (12 : Int)) = some r from H_44); subst H_46
    refine VL_ret ?_
    refine QB_ret ?_
    exact P_to [(4, .c (.val (.string (ByteArray.mk #[])))), (5, .c (.val (.int .i64 (12 : Int))))] [] [] hn (by kernel_rfl) (by kernel_rfl) rfl rfl rfl (QF_retS (by kernel_rfl) (by kernel_rfl) rfl)
  · intro b_9; have H_45 := of_f H_43 b_9
    refine V_run hN hn 2 1 [1, 2, 14] [0] ⟨[(1, .c (.val (.string s_3))), (2, .c (.h 0)), (14, .c (.val (.bool ((((ByteArray.size s_3) : Nat) : Int) != d_1))))], [(0, .box [.val (.int .i64 d_1), .imm (.slice (.pair (.int .i64) (.pair (.int .i64) .str))) d_2])], 1⟩ [] (by kernel_rfl) rfl rfl ap0 ?_
    refine VL_cond (((((ByteArray.size s_3) : Nat) : Int) != d_1)) (by kernel_rfl) ?_ ?_
    · intro b_12; have H_47 := of_t H_45 b_12
      refine V_run hN hn 2 1 [4, 5] [] ⟨[(4, .c (.val (.string (ByteArray.mk #[])))), (5, .c (.val (.int .i64 (80 : Int))))], [], 1⟩ [] (by kernel_rfl) rfl rfl ap0 ?_
      have H_49 := Option.some.inj (show some ((ByteArray.mk #[]), (80 : Int)) = some r from H_47); subst H_49
      refine VL_ret ?_
      refine QB_ret ?_
      exact P_to [(4, .c (.val (.string (ByteArray.mk #[])))), (5, .c (.val (.int .i64 (80 : Int))))] [] [] hn (by kernel_rfl) (by kernel_rfl) rfl rfl rfl (QF_retS (by kernel_rfl) (by kernel_rfl) rfl)
    · intro b_12; have H_48 := of_f H_45 b_12
      refine V_run hN hn 1 1 [1, 2, 14] [0] ⟨[(1, .c (.val (.string s_3))), (2, .c (.h 0)), (14, .c (.val (.bool ((((ByteArray.size s_3) : Nat) : Int) != d_1))))], [(0, .box [.val (.int .i64 d_1), .imm (.slice (.pair (.int .i64) (.pair (.int .i64) .str))) d_2])], 1⟩ [] (by kernel_rfl) rfl rfl ap0 ?_
      refine VL_nil (QB_end ?_)
      refine V_run hN hn 1 1 [1, 2, 14] [0] ⟨[(1, .c (.val (.string s_3))), (2, .c (.h 0)), (14, .c (.val (.bool ((((ByteArray.size s_3) : Nat) : Int) != d_1))))], [(0, .box [.val (.int .i64 d_1), .imm (.slice (.pair (.int .i64) (.pair (.int .i64) .str))) d_2])], 1⟩ [] (by kernel_rfl) rfl rfl ap0 ?_
      obtain ⟨r_16, h_17, H_50⟩ := of_bind H_48
      obtain ⟨c_18, H_51⟩ := of_if H_50
      refine V_reg hN hn [(1, ⟨23, 0, [.agg [.val (.int .i64 d_1), .imm (.slice (.pair (.int .i64) (.pair (.int .i64) .str))) d_2]], [], .c (.val (.int .i64 r_16)), [], [], 1⟩)] [] (calls_cons (delta_Size_spec K d_1 d_2 r_16 h_17) (by kernel_rfl) calls_nil) 1 [1, 2, 6] [0, 1] ⟨[(1, .c (.val (.string s_3))), (2, .c (.h 0)), (6, .c (.h 1))], [(0, .box [.val (.int .i64 d_1), .imm (.slice (.pair (.int .i64) (.pair (.int .i64) .str))) d_2]), (1, .row (.int .u8) (List.replicate (Int.toNat r_16) (0 : Int)))], 2⟩ [(0 : Int) ≤ r_16, r_16 ≤ r_16, r_16 * 1 ≤ (140737488355328 : Int), r_16 ≤ (9223372036854775807 : Int)] (by kernel_rfl) rfl rfl (ap2 c_18.1 (ap2 c_18.2.1 (ap2 c_18.2.2.1 (ap1 c_18.2.2.2)))) (by kernel_rfl) (by kernel_rfl) ?_
      refine V_run hN hn 5 2 [1, 6, 7, 24, 25, 26] [1] ⟨[(1, .c (.val (.string s_3))), (6, .c (.h 1)), (7, .c (.val (.int .i64 (0 : Int)))), (24, .c (.imm (.slice (.pair (.int .i64) (.pair (.int .i64) .str))) d_2)), (25, .c (.val (.int .i64 (((List.length d_2) : Nat) : Int)))), (26, .c (.val (.int .i64 (0 : Int))))], [(1, .row (.int .u8) (List.replicate (Int.toNat r_16) (0 : Int)))], 2⟩ [] (by kernel_rfl) rfl rfl ap0 ?_
      refine VL_block ?_
      refine V_to [(1, .c (.val (.string s_3))), (6, .c (.h 1)), (7, .c (.val (.int .i64 (0 : Int)))), (24, .c (.imm (.slice (.pair (.int .i64) (.pair (.int .i64) .str))) d_2)), (25, .c (.val (.int .i64 (((List.length d_2) : Nat) : Int)))), (26, .c (.val (.int .i64 (0 : Int))))] [(1, .row (.int .u8) (List.replicate (Int.toNat r_16) (0 : Int)))] [(1, 1)] hn (by kernel_rfl) (by kernel_rfl) rfl rfl rfl ?_
      refine VL_loop (X := ((List Int) × Int × Int)) (fun x => [(1, .c (.val (.string s_3))), (6, .c (.h 1)), (7, .c (.val (.int .i64 x.2.1))), (24, .c (.imm (.slice (.pair (.int .i64) (.pair (.int .i64) .str))) d_2)), (25, .c (.val (.int .i64 (((List.length d_2) : Nat) : Int)))), (26, .c (.val (.int .i64 x.2.2)))]) (fun x => [(1, .row (.int .u8) x.1)]) (fun k x => delta_Apply.l0 K d_2 s_3 k x.1 x.2.1 x.2.2 = some r) K ((List.replicate (Int.toNat r_16) (0 : Int)), (0 : Int), (0 : Int)) H_51 (fun _ h => no_none h) ?_
      intro k_32 x_32 H_52
      obtain ⟨out_31, n_20, t_21⟩ := x_32
      have H_53 : delta_Apply.l0 K d_2 s_3 (k_32 + 1) out_31 n_20 t_21 = some r := H_52
      rw [delta_Apply.l0] at H_53
      refine V_run hN hn 3 3 [1, 6, 7, 24, 25, 26, 27] [1] ⟨[(1, .c (.val (.string s_3))), (6, .c (.h 1)), (7, .c (.val (.int .i64 n_20))), (24, .c (.imm (.slice (.pair (.int .i64) (.pair (.int .i64) .str))) d_2)), (25, .c (.val (.int .i64 (((List.length d_2) : Nat) : Int)))), (26, .c (.val (.int .i64 t_21))), (27, .c (.val (.bool (decide (t_21 < (((List.length d_2) : Nat) : Int))))))], [(1, .row (.int .u8) out_31)], 3⟩ [] (by kernel_rfl) rfl rfl ap0 ?_
      refine VL_cond ((decide (t_21 < (((List.length d_2) : Nat) : Int)))) (by kernel_rfl) ?_ ?_
      · intro b_34; have H_54 := of_t H_53 b_34
        refine V_run hN hn 2 3 [1, 6, 7, 24, 25, 26, 27] [1] ⟨[(1, .c (.val (.string s_3))), (6, .c (.h 1)), (7, .c (.val (.int .i64 n_20))), (24, .c (.imm (.slice (.pair (.int .i64) (.pair (.int .i64) .str))) d_2)), (25, .c (.val (.int .i64 (((List.length d_2) : Nat) : Int)))), (26, .c (.val (.int .i64 t_21))), (27, .c (.val (.bool (decide (t_21 < (((List.length d_2) : Nat) : Int))))))], [(1, .row (.int .u8) out_31)], 3⟩ [] (by kernel_rfl) rfl rfl ap0 ?_
        refine VL_block ?_
        obtain ⟨c_36, H_56⟩ := of_if H_54
        refine V_run hN hn 3 3 [1, 6, 7, 9, 24, 25, 26] [1, 3] ⟨[(1, .c (.val (.string s_3))), (6, .c (.h 1)), (7, .c (.val (.int .i64 n_20))), (9, .c (.h 3)), (24, .c (.imm (.slice (.pair (.int .i64) (.pair (.int .i64) .str))) d_2)), (25, .c (.val (.int .i64 (((List.length d_2) : Nat) : Int)))), (26, .c (.val (.int .i64 t_21)))], [(1, .row (.int .u8) out_31), (3, .box [.val (.int .i64 (List.getD d_2 (Int.toNat t_21) ((0 : Int), ((0 : Int), ByteArray.empty))).1), .val (.int .i64 (List.getD d_2 (Int.toNat t_21) ((0 : Int), ((0 : Int), ByteArray.empty))).2.1), .val (.string (List.getD d_2 (Int.toNat t_21) ((0 : Int), ((0 : Int), ByteArray.empty))).2.2)])], 4⟩ [0 ≤ t_21, t_21 < (((List.length d_2) : Nat) : Int)] (by kernel_rfl) rfl rfl (ap2 c_36.1 (ap1 c_36.2)) ?_
        obtain ⟨c_37, H_57⟩ := of_if H_56
        refine V_draw hN hn (by kernel_rfl) [] [] calls_nil 4 [1, 6, 7, 9, 24, 25, 26] [1, 3] ⟨[(1, .c (.val (.string s_3))), (6, .c (.h 1)), (7, .c (.val (.int .i64 (IntKind.wrap .i64 (n_20 + (((List.length (List.take ((List.length out_31) - (Int.toNat n_20)) (List.map (fun b => (UInt8.toNat b : Int)) (Array.toList (ByteArray.data (ByteArray.extract s_3 (Int.toNat (List.getD d_2 (Int.toNat t_21) ((0 : Int), ((0 : Int), ByteArray.empty))).1) (Int.toNat (List.getD d_2 (Int.toNat t_21) ((0 : Int), ((0 : Int), ByteArray.empty))).2.1))))))) : Nat) : Int)))))), (9, .c (.h 3)), (24, .c (.imm (.slice (.pair (.int .i64) (.pair (.int .i64) .str))) d_2)), (25, .c (.val (.int .i64 (((List.length d_2) : Nat) : Int)))), (26, .c (.val (.int .i64 t_21)))], [(1, .row (.int .u8) (putAt out_31 (List.take ((List.length out_31) - (Int.toNat n_20)) (List.map (fun b => (UInt8.toNat b : Int)) (Array.toList (ByteArray.data (ByteArray.extract s_3 (Int.toNat (List.getD d_2 (Int.toNat t_21) ((0 : Int), ((0 : Int), ByteArray.empty))).1) (Int.toNat (List.getD d_2 (Int.toNat t_21) ((0 : Int), ((0 : Int), ByteArray.empty))).2.1)))))) (Int.toNat n_20))), (3, .box [.val (.int .i64 (List.getD d_2 (Int.toNat t_21) ((0 : Int), ((0 : Int), ByteArray.empty))).1), .val (.int .i64 (List.getD d_2 (Int.toNat t_21) ((0 : Int), ((0 : Int), ByteArray.empty))).2.1), .val (.string (List.getD d_2 (Int.toNat t_21) ((0 : Int), ((0 : Int), ByteArray.empty))).2.2)])], 4⟩ [(0 : Int) ≤ n_20, n_20 ≤ (((List.length out_31) : Nat) : Int), (0 : Int) ≤ (List.getD d_2 (Int.toNat t_21) ((0 : Int), ((0 : Int), ByteArray.empty))).1, (List.getD d_2 (Int.toNat t_21) ((0 : Int), ((0 : Int), ByteArray.empty))).1 ≤ (List.getD d_2 (Int.toNat t_21) ((0 : Int), ((0 : Int), ByteArray.empty))).2.1, (List.getD d_2 (Int.toNat t_21) ((0 : Int), ((0 : Int), ByteArray.empty))).2.1 ≤ (((ByteArray.size s_3) : Nat) : Int)] (by kernel_rfl) rfl rfl (ap2 c_37.1 (ap2 c_37.2.1 (ap2 c_37.2.2.1 (ap2 c_37.2.2.2.1 (ap1 c_37.2.2.2.2))))) (by kernel_rfl) (by kernel_rfl) ?_
        obtain ⟨c_38, H_58⟩ := of_if H_57
        refine V_draw hN hn (by kernel_rfl) [] [] calls_nil 4 [1, 6, 7, 24, 25, 26] [1] ⟨[(1, .c (.val (.string s_3))), (6, .c (.h 1)), (7, .c (.val (.int .i64 (IntKind.wrap .i64 ((IntKind.wrap .i64 (n_20 + (((List.length (List.take ((List.length out_31) - (Int.toNat n_20)) (List.map (fun b => (UInt8.toNat b : Int)) (Array.toList (ByteArray.data (ByteArray.extract s_3 (Int.toNat (List.getD d_2 (Int.toNat t_21) ((0 : Int), ((0 : Int), ByteArray.empty))).1) (Int.toNat (List.getD d_2 (Int.toNat t_21) ((0 : Int), ((0 : Int), ByteArray.empty))).2.1))))))) : Nat) : Int))) + (((List.length (List.take ((List.length (putAt out_31 (List.take ((List.length out_31) - (Int.toNat n_20)) (List.map (fun b => (UInt8.toNat b : Int)) (Array.toList (ByteArray.data (ByteArray.extract s_3 (Int.toNat (List.getD d_2 (Int.toNat t_21) ((0 : Int), ((0 : Int), ByteArray.empty))).1) (Int.toNat (List.getD d_2 (Int.toNat t_21) ((0 : Int), ((0 : Int), ByteArray.empty))).2.1)))))) (Int.toNat n_20))) - (Int.toNat (IntKind.wrap .i64 (n_20 + (((List.length (List.take ((List.length out_31) - (Int.toNat n_20)) (List.map (fun b => (UInt8.toNat b : Int)) (Array.toList (ByteArray.data (ByteArray.extract s_3 (Int.toNat (List.getD d_2 (Int.toNat t_21) ((0 : Int), ((0 : Int), ByteArray.empty))).1) (Int.toNat (List.getD d_2 (Int.toNat t_21) ((0 : Int), ((0 : Int), ByteArray.empty))).2.1))))))) : Nat) : Int))))) (List.map (fun b => (UInt8.toNat b : Int)) (Array.toList (ByteArray.data (List.getD d_2 (Int.toNat t_21) ((0 : Int), ((0 : Int), ByteArray.empty))).2.2))))) : Nat) : Int)))))), (24, .c (.imm (.slice (.pair (.int .i64) (.pair (.int .i64) .str))) d_2)), (25, .c (.val (.int .i64 (((List.length d_2) : Nat) : Int)))), (26, .c (.val (.int .i64 t_21)))], [(1, .row (.int .u8) (putAt (putAt out_31 (List.take ((List.length out_31) - (Int.toNat n_20)) (List.map (fun b => (UInt8.toNat b : Int)) (Array.toList (ByteArray.data (ByteArray.extract s_3 (Int.toNat (List.getD d_2 (Int.toNat t_21) ((0 : Int), ((0 : Int), ByteArray.empty))).1) (Int.toNat (List.getD d_2 (Int.toNat t_21) ((0 : Int), ((0 : Int), ByteArray.empty))).2.1)))))) (Int.toNat n_20)) (List.take ((List.length (putAt out_31 (List.take ((List.length out_31) - (Int.toNat n_20)) (List.map (fun b => (UInt8.toNat b : Int)) (Array.toList (ByteArray.data (ByteArray.extract s_3 (Int.toNat (List.getD d_2 (Int.toNat t_21) ((0 : Int), ((0 : Int), ByteArray.empty))).1) (Int.toNat (List.getD d_2 (Int.toNat t_21) ((0 : Int), ((0 : Int), ByteArray.empty))).2.1)))))) (Int.toNat n_20))) - (Int.toNat (IntKind.wrap .i64 (n_20 + (((List.length (List.take ((List.length out_31) - (Int.toNat n_20)) (List.map (fun b => (UInt8.toNat b : Int)) (Array.toList (ByteArray.data (ByteArray.extract s_3 (Int.toNat (List.getD d_2 (Int.toNat t_21) ((0 : Int), ((0 : Int), ByteArray.empty))).1) (Int.toNat (List.getD d_2 (Int.toNat t_21) ((0 : Int), ((0 : Int), ByteArray.empty))).2.1))))))) : Nat) : Int))))) (List.map (fun b => (UInt8.toNat b : Int)) (Array.toList (ByteArray.data (List.getD d_2 (Int.toNat t_21) ((0 : Int), ((0 : Int), ByteArray.empty))).2.2)))) (Int.toNat (IntKind.wrap .i64 (n_20 + (((List.length (List.take ((List.length out_31) - (Int.toNat n_20)) (List.map (fun b => (UInt8.toNat b : Int)) (Array.toList (ByteArray.data (ByteArray.extract s_3 (Int.toNat (List.getD d_2 (Int.toNat t_21) ((0 : Int), ((0 : Int), ByteArray.empty))).1) (Int.toNat (List.getD d_2 (Int.toNat t_21) ((0 : Int), ((0 : Int), ByteArray.empty))).2.1))))))) : Nat) : Int))))))], 4⟩ [(0 : Int) ≤ (IntKind.wrap .i64 (n_20 + (((List.length (List.take ((List.length out_31) - (Int.toNat n_20)) (List.map (fun b => (UInt8.toNat b : Int)) (Array.toList (ByteArray.data (ByteArray.extract s_3 (Int.toNat (List.getD d_2 (Int.toNat t_21) ((0 : Int), ((0 : Int), ByteArray.empty))).1) (Int.toNat (List.getD d_2 (Int.toNat t_21) ((0 : Int), ((0 : Int), ByteArray.empty))).2.1))))))) : Nat) : Int))), (IntKind.wrap .i64 (n_20 + (((List.length (List.take ((List.length out_31) - (Int.toNat n_20)) (List.map (fun b => (UInt8.toNat b : Int)) (Array.toList (ByteArray.data (ByteArray.extract s_3 (Int.toNat (List.getD d_2 (Int.toNat t_21) ((0 : Int), ((0 : Int), ByteArray.empty))).1) (Int.toNat (List.getD d_2 (Int.toNat t_21) ((0 : Int), ((0 : Int), ByteArray.empty))).2.1))))))) : Nat) : Int))) ≤ (((List.length (putAt out_31 (List.take ((List.length out_31) - (Int.toNat n_20)) (List.map (fun b => (UInt8.toNat b : Int)) (Array.toList (ByteArray.data (ByteArray.extract s_3 (Int.toNat (List.getD d_2 (Int.toNat t_21) ((0 : Int), ((0 : Int), ByteArray.empty))).1) (Int.toNat (List.getD d_2 (Int.toNat t_21) ((0 : Int), ((0 : Int), ByteArray.empty))).2.1)))))) (Int.toNat n_20))) : Nat) : Int)] (by kernel_rfl) rfl rfl (ap2 c_38.1 (ap1 c_38.2)) (by kernel_rfl) (by kernel_rfl) ?_
        refine VL_nil (QB_end ?_)
        refine V_run hN hn 1 4 [1, 6, 7, 24, 25, 26] [1] ⟨[(1, .c (.val (.string s_3))), (6, .c (.h 1)), (7, .c (.val (.int .i64 (IntKind.wrap .i64 ((IntKind.wrap .i64 (n_20 + (((List.length (List.take ((List.length out_31) - (Int.toNat n_20)) (List.map (fun b => (UInt8.toNat b : Int)) (Array.toList (ByteArray.data (ByteArray.extract s_3 (Int.toNat (List.getD d_2 (Int.toNat t_21) ((0 : Int), ((0 : Int), ByteArray.empty))).1) (Int.toNat (List.getD d_2 (Int.toNat t_21) ((0 : Int), ((0 : Int), ByteArray.empty))).2.1))))))) : Nat) : Int))) + (((List.length (List.take ((List.length (putAt out_31 (List.take ((List.length out_31) - (Int.toNat n_20)) (List.map (fun b => (UInt8.toNat b : Int)) (Array.toList (ByteArray.data (ByteArray.extract s_3 (Int.toNat (List.getD d_2 (Int.toNat t_21) ((0 : Int), ((0 : Int), ByteArray.empty))).1) (Int.toNat (List.getD d_2 (Int.toNat t_21) ((0 : Int), ((0 : Int), ByteArray.empty))).2.1)))))) (Int.toNat n_20))) - (Int.toNat (IntKind.wrap .i64 (n_20 + (((List.length (List.take ((List.length out_31) - (Int.toNat n_20)) (List.map (fun b => (UInt8.toNat b : Int)) (Array.toList (ByteArray.data (ByteArray.extract s_3 (Int.toNat (List.getD d_2 (Int.toNat t_21) ((0 : Int), ((0 : Int), ByteArray.empty))).1) (Int.toNat (List.getD d_2 (Int.toNat t_21) ((0 : Int), ((0 : Int), ByteArray.empty))).2.1))))))) : Nat) : Int))))) (List.map (fun b => (UInt8.toNat b : Int)) (Array.toList (ByteArray.data (List.getD d_2 (Int.toNat t_21) ((0 : Int), ((0 : Int), ByteArray.empty))).2.2))))) : Nat) : Int)))))), (24, .c (.imm (.slice (.pair (.int .i64) (.pair (.int .i64) .str))) d_2)), (25, .c (.val (.int .i64 (((List.length d_2) : Nat) : Int)))), (26, .c (.val (.int .i64 (IntKind.wrap .i64 (t_21 + (1 : Int))))))], [(1, .row (.int .u8) (putAt (putAt out_31 (List.take ((List.length out_31) - (Int.toNat n_20)) (List.map (fun b => (UInt8.toNat b : Int)) (Array.toList (ByteArray.data (ByteArray.extract s_3 (Int.toNat (List.getD d_2 (Int.toNat t_21) ((0 : Int), ((0 : Int), ByteArray.empty))).1) (Int.toNat (List.getD d_2 (Int.toNat t_21) ((0 : Int), ((0 : Int), ByteArray.empty))).2.1)))))) (Int.toNat n_20)) (List.take ((List.length (putAt out_31 (List.take ((List.length out_31) - (Int.toNat n_20)) (List.map (fun b => (UInt8.toNat b : Int)) (Array.toList (ByteArray.data (ByteArray.extract s_3 (Int.toNat (List.getD d_2 (Int.toNat t_21) ((0 : Int), ((0 : Int), ByteArray.empty))).1) (Int.toNat (List.getD d_2 (Int.toNat t_21) ((0 : Int), ((0 : Int), ByteArray.empty))).2.1)))))) (Int.toNat n_20))) - (Int.toNat (IntKind.wrap .i64 (n_20 + (((List.length (List.take ((List.length out_31) - (Int.toNat n_20)) (List.map (fun b => (UInt8.toNat b : Int)) (Array.toList (ByteArray.data (ByteArray.extract s_3 (Int.toNat (List.getD d_2 (Int.toNat t_21) ((0 : Int), ((0 : Int), ByteArray.empty))).1) (Int.toNat (List.getD d_2 (Int.toNat t_21) ((0 : Int), ((0 : Int), ByteArray.empty))).2.1))))))) : Nat) : Int))))) (List.map (fun b => (UInt8.toNat b : Int)) (Array.toList (ByteArray.data (List.getD d_2 (Int.toNat t_21) ((0 : Int), ((0 : Int), ByteArray.empty))).2.2)))) (Int.toNat (IntKind.wrap .i64 (n_20 + (((List.length (List.take ((List.length out_31) - (Int.toNat n_20)) (List.map (fun b => (UInt8.toNat b : Int)) (Array.toList (ByteArray.data (ByteArray.extract s_3 (Int.toNat (List.getD d_2 (Int.toNat t_21) ((0 : Int), ((0 : Int), ByteArray.empty))).1) (Int.toNat (List.getD d_2 (Int.toNat t_21) ((0 : Int), ((0 : Int), ByteArray.empty))).2.1))))))) : Nat) : Int))))))], 4⟩ [] (by kernel_rfl) rfl rfl ap0 ?_
        refine VL_nil ?_
        exact V_roundEnd ((putAt (putAt out_31 (List.take ((List.length out_31) - (Int.toNat n_20)) (List.map (fun b => (UInt8.toNat b : Int)) (Array.toList (ByteArray.data (ByteArray.extract s_3 (Int.toNat (List.getD d_2 (Int.toNat t_21) ((0 : Int), ((0 : Int), ByteArray.empty))).1) (Int.toNat (List.getD d_2 (Int.toNat t_21) ((0 : Int), ((0 : Int), ByteArray.empty))).2.1)))))) (Int.toNat n_20)) (List.take ((List.length (putAt out_31 (List.take ((List.length out_31) - (Int.toNat n_20)) (List.map (fun b => (UInt8.toNat b : Int)) (Array.toList (ByteArray.data (ByteArray.extract s_3 (Int.toNat (List.getD d_2 (Int.toNat t_21) ((0 : Int), ((0 : Int), ByteArray.empty))).1) (Int.toNat (List.getD d_2 (Int.toNat t_21) ((0 : Int), ((0 : Int), ByteArray.empty))).2.1)))))) (Int.toNat n_20))) - (Int.toNat (IntKind.wrap .i64 (n_20 + (((List.length (List.take ((List.length out_31) - (Int.toNat n_20)) (List.map (fun b => (UInt8.toNat b : Int)) (Array.toList (ByteArray.data (ByteArray.extract s_3 (Int.toNat (List.getD d_2 (Int.toNat t_21) ((0 : Int), ((0 : Int), ByteArray.empty))).1) (Int.toNat (List.getD d_2 (Int.toNat t_21) ((0 : Int), ((0 : Int), ByteArray.empty))).2.1))))))) : Nat) : Int))))) (List.map (fun b => (UInt8.toNat b : Int)) (Array.toList (ByteArray.data (List.getD d_2 (Int.toNat t_21) ((0 : Int), ((0 : Int), ByteArray.empty))).2.2)))) (Int.toNat (IntKind.wrap .i64 (n_20 + (((List.length (List.take ((List.length out_31) - (Int.toNat n_20)) (List.map (fun b => (UInt8.toNat b : Int)) (Array.toList (ByteArray.data (ByteArray.extract s_3 (Int.toNat (List.getD d_2 (Int.toNat t_21) ((0 : Int), ((0 : Int), ByteArray.empty))).1) (Int.toNat (List.getD d_2 (Int.toNat t_21) ((0 : Int), ((0 : Int), ByteArray.empty))).2.1))))))) : Nat) : Int))))), (IntKind.wrap .i64 ((IntKind.wrap .i64 (n_20 + (((List.length (List.take ((List.length out_31) - (Int.toNat n_20)) (List.map (fun b => (UInt8.toNat b : Int)) (Array.toList (ByteArray.data (ByteArray.extract s_3 (Int.toNat (List.getD d_2 (Int.toNat t_21) ((0 : Int), ((0 : Int), ByteArray.empty))).1) (Int.toNat (List.getD d_2 (Int.toNat t_21) ((0 : Int), ((0 : Int), ByteArray.empty))).2.1))))))) : Nat) : Int))) + (((List.length (List.take ((List.length (putAt out_31 (List.take ((List.length out_31) - (Int.toNat n_20)) (List.map (fun b => (UInt8.toNat b : Int)) (Array.toList (ByteArray.data (ByteArray.extract s_3 (Int.toNat (List.getD d_2 (Int.toNat t_21) ((0 : Int), ((0 : Int), ByteArray.empty))).1) (Int.toNat (List.getD d_2 (Int.toNat t_21) ((0 : Int), ((0 : Int), ByteArray.empty))).2.1)))))) (Int.toNat n_20))) - (Int.toNat (IntKind.wrap .i64 (n_20 + (((List.length (List.take ((List.length out_31) - (Int.toNat n_20)) (List.map (fun b => (UInt8.toNat b : Int)) (Array.toList (ByteArray.data (ByteArray.extract s_3 (Int.toNat (List.getD d_2 (Int.toNat t_21) ((0 : Int), ((0 : Int), ByteArray.empty))).1) (Int.toNat (List.getD d_2 (Int.toNat t_21) ((0 : Int), ((0 : Int), ByteArray.empty))).2.1))))))) : Nat) : Int))))) (List.map (fun b => (UInt8.toNat b : Int)) (Array.toList (ByteArray.data (List.getD d_2 (Int.toNat t_21) ((0 : Int), ((0 : Int), ByteArray.empty))).2.2))))) : Nat) : Int))), (IntKind.wrap .i64 (t_21 + (1 : Int)))) H_58 [(1, 1)] hn (by kernel_rfl) (by kernel_rfl) rfl rfl rfl
      · intro b_34; have H_55 := of_f H_53 b_34
        refine VL_exit ?_
        refine QL_exit ?_
        refine QB_here ?_
        refine V_run hN hn 2 3 [4, 5] [] ⟨[(4, .c (.val (.string (ofBytes out_31)))), (5, .c (.val (.int .i64 (0 : Int))))], [], 3⟩ [] (by kernel_rfl) rfl rfl ap0 ?_
        have H_59 := Option.some.inj (show some ((ofBytes out_31), (0 : Int)) = some r from H_55); subst H_59
        refine VL_ret ?_
        exact P_to [(4, .c (.val (.string (ofBytes out_31)))), (5, .c (.val (.int .i64 (0 : Int))))] [] [] hn (by kernel_rfl) (by kernel_rfl) rfl rfl rfl (QF_retS (by kernel_rfl) (by kernel_rfl) rfl)

theorem algebra_size_spec (K : Nat) (s_1 : (Option ((List (Int × Int)) × Int))) (r : Int) (H : algebra_size K s_1 = some r) : Spec Try.prog 52 0 [.c (.imm (.opt (.pair (.slice (.pair (.int .i64) (.int .i64))) (.int .i64))) s_1)] [] (.c (.val (.int .i64 r))) [] := by
  refine Spec_mk (fn := Try.f52) (c := (Try.f52.body).get!) Try.func52 (by kernel_rfl) rfl ?_
  intro C hN hn
  replace hN : C.N = 7 := hN
  unfold algebra_size at H
  refine V_run hN hn 5 0 [0, 4] [] ⟨[(0, .c (.imm (.opt (.pair (.slice (.pair (.int .i64) (.int .i64))) (.int .i64))) s_1)), (4, .c (.val (.bool (Option.isNone s_1))))], [], 0⟩ [] (by kernel_rfl) rfl rfl ap0 ?_
  refine VL_cond ((Option.isNone s_1)) (by kernel_rfl) ?_ ?_
  · intro b_3; have H_10 := of_t H b_3
    refine V_run hN hn 2 0 [2] [] ⟨[(2, .c (.val (.int .i64 (0 : Int))))], [], 0⟩ [] (by kernel_rfl) rfl rfl ap0 ?_
    have H_12 := Option.some.inj (show some (0 : Int) = some r from H_10); subst H_12
    refine VL_ret ?_
    exact P_to [(2, .c (.val (.int .i64 (0 : Int))))] [] [] hn (by kernel_rfl) (by kernel_rfl) rfl rfl rfl (QF_retS (by kernel_rfl) (by kernel_rfl) rfl)
  · intro b_3; have H_11 := of_f H b_3
    refine V_run hN hn 2 0 [0, 4] [] ⟨[(0, .c (.imm (.opt (.pair (.slice (.pair (.int .i64) (.int .i64))) (.int .i64))) s_1)), (4, .c (.val (.bool (Option.isNone s_1))))], [], 0⟩ [] (by kernel_rfl) rfl rfl ap0 ?_
    obtain ⟨r_6, h_7, H_13⟩ := of_bind H_11
    refine V_reg hN hn [(1, ⟨22, 0, [.c (.imm (.opt (.pair (.slice (.pair (.int .i64) (.int .i64))) (.int .i64))) s_1)], [], .c (.val (.int .i64 r_6)), [], [], 0⟩)] [] (calls_cons (subset_Subset_Len_spec K s_1 r_6 h_7) (by kernel_rfl) calls_nil) 0 [2] [] ⟨[(2, .c (.val (.int .i64 r_6)))], [], 0⟩ [] (by kernel_rfl) rfl rfl ap0 (by kernel_rfl) (by kernel_rfl) ?_
    have H_14 := Option.some.inj (show some r_6 = some r from H_13); subst H_14
    refine VL_ret ?_
    exact P_to [(2, .c (.val (.int .i64 r_6)))] [] [] hn (by kernel_rfl) (by kernel_rfl) rfl rfl rfl (QF_retS (by kernel_rfl) (by kernel_rfl) rfl)

theorem algebra_in_spec (K : Nat) (s_1 : (Option ((List (Int × Int)) × Int))) (r : Int) (H : algebra_in K s_1 = some r) : Spec Try.prog 53 0 [.c (.imm (.opt (.pair (.slice (.pair (.int .i64) (.int .i64))) (.int .i64))) s_1)] [] (.c (.val (.int .i64 r))) [] := by
  refine Spec_mk (fn := Try.f53) (c := (Try.f53.body).get!) Try.func53 (by kernel_rfl) rfl ?_
  intro C hN hn
  replace hN : C.N = 7 := hN
  unfold algebra_in at H
  refine V_run hN hn 5 0 [0, 4] [] ⟨[(0, .c (.imm (.opt (.pair (.slice (.pair (.int .i64) (.int .i64))) (.int .i64))) s_1)), (4, .c (.val (.bool (Option.isNone s_1))))], [], 0⟩ [] (by kernel_rfl) rfl rfl ap0 ?_
  refine VL_cond ((Option.isNone s_1)) (by kernel_rfl) ?_ ?_
  · intro b_3; have H_10 := of_t H b_3
    refine V_run hN hn 2 0 [2] [] ⟨[(2, .c (.val (.int .i64 (0 : Int))))], [], 0⟩ [] (by kernel_rfl) rfl rfl ap0 ?_
    have H_12 := Option.some.inj (show some (0 : Int) = some r from H_10); subst H_12
    refine VL_ret ?_
    exact P_to [(2, .c (.val (.int .i64 (0 : Int))))] [] [] hn (by kernel_rfl) (by kernel_rfl) rfl rfl rfl (QF_retS (by kernel_rfl) (by kernel_rfl) rfl)
  · intro b_3; have H_11 := of_f H b_3
    refine V_run hN hn 2 0 [0, 4] [] ⟨[(0, .c (.imm (.opt (.pair (.slice (.pair (.int .i64) (.int .i64))) (.int .i64))) s_1)), (4, .c (.val (.bool (Option.isNone s_1))))], [], 0⟩ [] (by kernel_rfl) rfl rfl ap0 ?_
    obtain ⟨r_6, h_7, H_13⟩ := of_bind H_11
    refine V_reg hN hn [(1, ⟨20, 0, [.c (.imm (.opt (.pair (.slice (.pair (.int .i64) (.int .i64))) (.int .i64))) s_1)], [], .c (.val (.int .i64 r_6)), [], [], 0⟩)] [] (calls_cons (subset_Subset_Size_spec K s_1 r_6 h_7) (by kernel_rfl) calls_nil) 0 [2] [] ⟨[(2, .c (.val (.int .i64 r_6)))], [], 0⟩ [] (by kernel_rfl) rfl rfl ap0 (by kernel_rfl) (by kernel_rfl) ?_
    have H_14 := Option.some.inj (show some r_6 = some r from H_13); subst H_14
    refine VL_ret ?_
    exact P_to [(2, .c (.val (.int .i64 r_6)))] [] [] hn (by kernel_rfl) (by kernel_rfl) rfl rfl rfl (QF_retS (by kernel_rfl) (by kernel_rfl) rfl)

theorem algebra_segs_spec (K : Nat) (s_1 : (Option ((List (Int × Int)) × Int))) (r : (List (Int × Int))) (H : algebra_segs K s_1 = some r) : Spec Try.prog 54 0 [.c (.imm (.opt (.pair (.slice (.pair (.int .i64) (.int .i64))) (.int .i64))) s_1)] [] (.c (.h 2)) [(2, .row (.pair (.int .i64) (.int .i64)) r)] := by
  refine Spec_mk (fn := Try.f54) (c := (Try.f54.body).get!) Try.func54 (by kernel_rfl) rfl ?_
  intro C hN hn
  replace hN : C.N = 16 := hN
  unfold algebra_segs at H
  refine V_run hN hn 5 0 [0, 6] [] ⟨[(0, .c (.imm (.opt (.pair (.slice (.pair (.int .i64) (.int .i64))) (.int .i64))) s_1)), (6, .c (.val (.bool (Option.isNone s_1))))], [], 0⟩ [] (by kernel_rfl) rfl rfl ap0 ?_
  refine VL_cond ((Option.isNone s_1)) (by kernel_rfl) ?_ ?_
  · intro b_3; have H_11 := of_t H b_3
    refine V_run hN hn 2 0 [2] [] ⟨[(2, .c (.val (.slice none 0 0)))], [], 0⟩ [] (by kernel_rfl) rfl rfl ap0 ?_
    have H_13 := Option.some.inj (show some ([] : List (Int × Int)) = some r from H_11); subst H_13
    refine VL_ret ?_
    refine P_ghost [.nilSlot 2 (.pair (.int .i64) (.int .i64))] 0 hn [2] [0] ⟨[(2, .c (.h 0))], [(0, .row (.pair (.int .i64) (.int .i64)) ([] : List (Int × Int)))], 1⟩ (by kernel_rfl) rfl rfl ?_
    exact P_to [(2, .c (.h 2))] [(2, .row (.pair (.int .i64) (.int .i64)) ([] : List (Int × Int)))] [(2, 0)] hn (by kernel_rfl) (by kernel_rfl) rfl rfl rfl (QF_retS (by kernel_rfl) (by kernel_rfl) rfl)
  · intro b_3; have H_12 := of_f H b_3
    refine V_run hN hn 2 0 [0, 6] [] ⟨[(0, .c (.imm (.opt (.pair (.slice (.pair (.int .i64) (.int .i64))) (.int .i64))) s_1)), (6, .c (.val (.bool (Option.isNone s_1))))], [], 0⟩ [] (by kernel_rfl) rfl rfl ap0 ?_
    obtain ⟨r_6, h_7, H_14⟩ := of_bind H_12
    refine V_reg hN hn [(1, ⟨63, 0, [.c (.imm (.opt (.pair (.slice (.pair (.int .i64) (.int .i64))) (.int .i64))) s_1)], [], .c (.h 0), [(0, .row (.pair (.int .i64) (.int .i64)) r_6)], [(0, 0)], 1⟩)] [] (calls_cons (subset_Subset_Segs_spec K s_1 r_6 h_7) (by kernel_rfl) calls_nil) 0 [3] [0] ⟨[(3, .c (.h 0))], [(0, .row (.pair (.int .i64) (.int .i64)) r_6)], 1⟩ [] (by kernel_rfl) rfl rfl ap0 (by kernel_rfl) (by kernel_rfl) ?_
    obtain ⟨c_9, H_15⟩ := of_if H_14
    refine V_run hN hn 6 1 [2] [1] ⟨[(2, .c (.h 1))], [(1, .row (.pair (.int .i64) (.int .i64)) (putAt (List.replicate (Int.toNat (((List.length r_6) : Nat) : Int)) ((0 : Int), (0 : Int))) (List.take (List.length (List.replicate (Int.toNat (((List.length r_6) : Nat) : Int)) ((0 : Int), (0 : Int)))) r_6) 0))], 2⟩ [(0 : Int) ≤ (((List.length r_6) : Nat) : Int), (((List.length r_6) : Nat) : Int) ≤ (((List.length r_6) : Nat) : Int), (((List.length r_6) : Nat) : Int) * 16 ≤ (140737488355328 : Int), (((List.length r_6) : Nat) : Int) ≤ (9223372036854775807 : Int)] (by kernel_rfl) rfl rfl (ap2 c_9.1 (ap2 c_9.2.1 (ap2 c_9.2.2.1 (ap1 c_9.2.2.2)))) ?_
    have H_16 := Option.some.inj (show some (putAt (List.replicate (Int.toNat (((List.length r_6) : Nat) : Int)) ((0 : Int), (0 : Int))) (List.take (List.length (List.replicate (Int.toNat (((List.length r_6) : Nat) : Int)) ((0 : Int), (0 : Int)))) r_6) 0) = some r from H_15); subst H_16
    refine VL_ret ?_
    exact P_to [(2, .c (.h 2))] [(2, .row (.pair (.int .i64) (.int .i64)) (putAt (List.replicate (Int.toNat (((List.length r_6) : Nat) : Int)) ((0 : Int), (0 : Int))) (List.take (List.length (List.replicate (Int.toNat (((List.length r_6) : Nat) : Int)) ((0 : Int), (0 : Int)))) r_6) 0))] [(2, 1)] hn (by kernel_rfl) (by kernel_rfl) rfl rfl rfl (QF_retS (by kernel_rfl) (by kernel_rfl) rfl)

theorem algebra_less_rg_spec (K : Nat) (l_1 : (List (Int × Int))) (n_2 : Int) (r : (List (Int × Int))) (H : algebra_less_rg K l_1 n_2 = some r) : Spec Try.prog 55 1 [.c (.h 0), .c (.val (.int .i64 n_2))] [(0, .row (.pair (.int .i64) (.int .i64)) l_1)] (.c (.h 2)) [(2, .row (.pair (.int .i64) (.int .i64)) r)] := by
  refine Spec_mk (fn := Try.f55) (c := (Try.f55.body).get!) Try.func55 (by kernel_rfl) rfl ?_
  intro C hN hn
  replace hN : C.N = 21 := hN
  unfold algebra_less_rg at H
  obtain ⟨c_3, H_8⟩ := of_if H
  refine V_run hN hn 7 1 [0, 17] [0] ⟨[(0, .c (.h 0)), (17, .c (.val (.bool ((List.getD (List.set l_1 0 ((IntKind.wrap .i64 ((List.getD l_1 0 ((0 : Int), (0 : Int))).1 - n_2)), (List.getD l_1 0 ((0 : Int), (0 : Int))).2)) 0 ((0 : Int), (0 : Int))).1 == (0 : Int)))))], [(0, .row (.pair (.int .i64) (.int .i64)) (List.set l_1 0 ((IntKind.wrap .i64 ((List.getD l_1 0 ((0 : Int), (0 : Int))).1 - n_2)), (List.getD l_1 0 ((0 : Int), (0 : Int))).2)))], 1⟩ [(0 : Int) ≤ (0 : Int), (0 : Int) < (((List.length l_1) : Nat) : Int), (0 : Int) ≤ (0 : Int), (0 : Int) < (((List.length l_1) : Nat) : Int), (0 : Int) ≤ (0 : Int), (0 : Int) < (((List.length (List.set l_1 0 ((IntKind.wrap .i64 ((List.getD l_1 0 ((0 : Int), (0 : Int))).1 - n_2)), (List.getD l_1 0 ((0 : Int), (0 : Int))).2))) : Nat) : Int)] (by kernel_rfl) rfl rfl (ap2 (by decide) (ap2 c_3.1 (ap2 (by decide) (ap2 c_3.1 (ap2 (by decide) (ap1 c_3.2)))))) ?_
  refine VL_cond (((List.getD (List.set l_1 0 ((IntKind.wrap .i64 ((List.getD l_1 0 ((0 : Int), (0 : Int))).1 - n_2)), (List.getD l_1 0 ((0 : Int), (0 : Int))).2)) 0 ((0 : Int), (0 : Int))).1 == (0 : Int))) (by kernel_rfl) ?_ ?_
  · intro b_4; have H_9 := of_t H_8 b_4
    obtain ⟨c_5, H_11⟩ := of_if H_9
    refine V_run hN hn 2 1 [4] [0] ⟨[(4, .c (.sub 0 2 1 ((List.length (List.set l_1 0 ((IntKind.wrap .i64 ((List.getD l_1 0 ((0 : Int), (0 : Int))).1 - n_2)), (List.getD l_1 0 ((0 : Int), (0 : Int))).2))) - 1)))], [(0, .row (.pair (.int .i64) (.int .i64)) (List.set l_1 0 ((IntKind.wrap .i64 ((List.getD l_1 0 ((0 : Int), (0 : Int))).1 - n_2)), (List.getD l_1 0 ((0 : Int), (0 : Int))).2)))], 1⟩ [(0 : Int) ≤ (1 : Int), (1 : Int) ≤ (((List.length (List.set l_1 0 ((IntKind.wrap .i64 ((List.getD l_1 0 ((0 : Int), (0 : Int))).1 - n_2)), (List.getD l_1 0 ((0 : Int), (0 : Int))).2))) : Nat) : Int)] (by kernel_rfl) rfl rfl (ap2 (by decide) (ap1 c_5)) ?_
    have H_12 := Option.some.inj (show some (List.take ((List.length (List.set l_1 0 ((IntKind.wrap .i64 ((List.getD l_1 0 ((0 : Int), (0 : Int))).1 - n_2)), (List.getD l_1 0 ((0 : Int), (0 : Int))).2))) - 1) (List.drop 1 (List.set l_1 0 ((IntKind.wrap .i64 ((List.getD l_1 0 ((0 : Int), (0 : Int))).1 - n_2)), (List.getD l_1 0 ((0 : Int), (0 : Int))).2)))) = some r from H_11); subst H_12
    refine VL_ret ?_
    refine P_ghost [.own 4] 1 hn [4] [1] ⟨[(4, .c (.h 1))], [(1, .row (.pair (.int .i64) (.int .i64)) (List.take ((List.length (List.set l_1 0 ((IntKind.wrap .i64 ((List.getD l_1 0 ((0 : Int), (0 : Int))).1 - n_2)), (List.getD l_1 0 ((0 : Int), (0 : Int))).2))) - 1) (List.drop 1 (List.set l_1 0 ((IntKind.wrap .i64 ((List.getD l_1 0 ((0 : Int), (0 : Int))).1 - n_2)), (List.getD l_1 0 ((0 : Int), (0 : Int))).2)))))], 2⟩ (by kernel_rfl) rfl rfl ?_
    exact P_to [(4, .c (.h 2))] [(2, .row (.pair (.int .i64) (.int .i64)) (List.take ((List.length (List.set l_1 0 ((IntKind.wrap .i64 ((List.getD l_1 0 ((0 : Int), (0 : Int))).1 - n_2)), (List.getD l_1 0 ((0 : Int), (0 : Int))).2))) - 1) (List.drop 1 (List.set l_1 0 ((IntKind.wrap .i64 ((List.getD l_1 0 ((0 : Int), (0 : Int))).1 - n_2)), (List.getD l_1 0 ((0 : Int), (0 : Int))).2)))))] [(2, 1)] hn (by kernel_rfl) (by kernel_rfl) rfl rfl rfl (QF_retS (by kernel_rfl) (by kernel_rfl) rfl)
  · intro b_4; have H_10 := of_f H_8 b_4
    refine V_run hN hn 3 1 [4] [0] ⟨[(4, .c (.h 0))], [(0, .row (.pair (.int .i64) (.int .i64)) (List.set l_1 0 ((IntKind.wrap .i64 ((List.getD l_1 0 ((0 : Int), (0 : Int))).1 - n_2)), (List.getD l_1 0 ((0 : Int), (0 : Int))).2)))], 1⟩ [] (by kernel_rfl) rfl rfl ap0 ?_
    have H_13 := Option.some.inj (show some (List.set l_1 0 ((IntKind.wrap .i64 ((List.getD l_1 0 ((0 : Int), (0 : Int))).1 - n_2)), (List.getD l_1 0 ((0 : Int), (0 : Int))).2)) = some r from H_10); subst H_13
    refine VL_ret ?_
    exact P_to [(4, .c (.h 2))] [(2, .row (.pair (.int .i64) (.int .i64)) (List.set l_1 0 ((IntKind.wrap .i64 ((List.getD l_1 0 ((0 : Int), (0 : Int))).1 - n_2)), (List.getD l_1 0 ((0 : Int), (0 : Int))).2)))] [(2, 0)] hn (by kernel_rfl) (by kernel_rfl) rfl rfl rfl (QF_retS (by kernel_rfl) (by kernel_rfl) rfl)

theorem algebra_Expand_spec (K : Nat) (a_1 : (Option ((List (Int × Int)) × Int))) (b_2 : (Option ((List (Int × Int)) × Int))) (r : ((Option ((List (Int × Int)) × Int)) × Int)) (H : algebra_Expand K a_1 b_2 = some r) : Spec Try.prog 35 0 [.c (.imm (.opt (.pair (.slice (.pair (.int .i64) (.int .i64))) (.int .i64))) a_1), .c (.imm (.opt (.pair (.slice (.pair (.int .i64) (.int .i64))) (.int .i64))) b_2)] [] (.tup [(false, [.imm (.opt (.pair (.slice (.pair (.int .i64) (.int .i64))) (.int .i64))) r.1]), (false, [.val (.int .i64 r.2)])]) [] := by
  refine Spec_mk (fn := Try.f35) (c := (Try.f35.body).get!) Try.func35 (by kernel_rfl) rfl ?_
  intro C hN hn
  replace hN : C.N = 68 := hN
  unfold algebra_Expand at H
  refine V_run hN hn 4 0 [0, 1] [] ⟨[(0, .c (.imm (.opt (.pair (.slice (.pair (.int .i64) (.int .i64))) (.int .i64))) a_1)), (1, .c (.imm (.opt (.pair (.slice (.pair (.int .i64) (.int .i64))) (.int .i64))) b_2))], [], 0⟩ [] (by kernel_rfl) rfl rfl ap0 ?_
  obtain ⟨r_4, h_5, H_98⟩ := of_bind H
  obtain ⟨r_6, h_7, H_99⟩ := of_bind H_98
  obtain ⟨r_8, h_9, H_100⟩ := of_bind H_99
  refine V_reg hN hn [(1, ⟨52, 0, [.c (.imm (.opt (.pair (.slice (.pair (.int .i64) (.int .i64))) (.int .i64))) b_2)], [], .c (.val (.int .i64 r_4)), [], [], 0⟩), (3, ⟨53, 0, [.c (.imm (.opt (.pair (.slice (.pair (.int .i64) (.int .i64))) (.int .i64))) b_2)], [], .c (.val (.int .i64 r_6)), [], [], 0⟩), (6, ⟨52, 0, [.c (.imm (.opt (.pair (.slice (.pair (.int .i64) (.int .i64))) (.int .i64))) a_1)], [], .c (.val (.int .i64 r_8)), [], [], 0⟩)] [] (calls_cons (algebra_size_spec K b_2 r_4 h_5) (by kernel_rfl) (calls_cons (algebra_in_spec K b_2 r_6 h_7) (by kernel_rfl) (calls_cons (algebra_size_spec K a_1 r_8 h_9) (by kernel_rfl) calls_nil))) 0 [0, 1, 19] [] ⟨[(0, .c (.imm (.opt (.pair (.slice (.pair (.int .i64) (.int .i64))) (.int .i64))) a_1)), (1, .c (.imm (.opt (.pair (.slice (.pair (.int .i64) (.int .i64))) (.int .i64))) b_2)), (19, .c (.val (.bool ((IntKind.wrap .i64 (r_4 - r_6)) != r_8))))], [], 0⟩ [] (by kernel_rfl) rfl rfl ap0 (by kernel_rfl) (by kernel_rfl) ?_
  refine VL_cond (((IntKind.wrap .i64 (r_4 - r_6)) != r_8)) (by kernel_rfl) ?_ ?_
  · intro b_11; have H_101 := of_t H_100 b_11
    refine V_run hN hn 2 0 [4, 5] [] ⟨[(4, .c (.val (.pointer none))), (5, .c (.val (.int .i64 (80 : Int))))], [], 0⟩ [] (by kernel_rfl) rfl rfl ap0 ?_
    have H_103 := Option.some.inj (show some ((none : (Option ((List (Int × Int)) × Int))), (80 : Int)) = some r from H_101); subst H_103
    refine VL_ret ?_
    refine P_ghost [.read 4 (.opt (.pair (.slice (.pair (.int .i64) (.int .i64))) (.int .i64)))] 0 hn [4, 5] [] ⟨[(4, .c (.imm (.opt (.pair (.slice (.pair (.int .i64) (.int .i64))) (.int .i64))) (none : (Option ((List (Int × Int)) × Int))))), (5, .c (.val (.int .i64 (80 : Int))))], [], 0⟩ (by kernel_rfl) rfl rfl ?_
    exact P_to [(4, .c (.imm (.opt (.pair (.slice (.pair (.int .i64) (.int .i64))) (.int .i64))) (none : (Option ((List (Int × Int)) × Int))))), (5, .c (.val (.int .i64 (80 : Int))))] [] [] hn (by kernel_rfl) (by kernel_rfl) rfl rfl rfl (QF_retS (by kernel_rfl) (by kernel_rfl) rfl)
  · intro b_11; have H_102 := of_f H_100 b_11
    refine V_run hN hn 2 0 [0, 1, 19] [] ⟨[(0, .c (.imm (.opt (.pair (.slice (.pair (.int .i64) (.int .i64))) (.int .i64))) a_1)), (1, .c (.imm (.opt (.pair (.slice (.pair (.int .i64) (.int .i64))) (.int .i64))) b_2)), (19, .c (.val (.bool ((IntKind.wrap .i64 (r_4 - r_6)) != r_8))))], [], 0⟩ [] (by kernel_rfl) rfl rfl ap0 ?_
    obtain ⟨r_14, h_15, H_104⟩ := of_bind H_102
    refine V_reg hN hn [(1, ⟨54, 0, [.c (.imm (.opt (.pair (.slice (.pair (.int .i64) (.int .i64))) (.int .i64))) a_1)], [], .c (.h 2), [(2, .row (.pair (.int .i64) (.int .i64)) r_14)], [(2, 0)], 1⟩)] [] (calls_cons (algebra_segs_spec K a_1 r_14 h_15) (by kernel_rfl) calls_nil) 0 [1, 6] [0] ⟨[(1, .c (.imm (.opt (.pair (.slice (.pair (.int .i64) (.int .i64))) (.int .i64))) b_2)), (6, .c (.h 0))], [(0, .row (.pair (.int .i64) (.int .i64)) r_14)], 1⟩ [] (by kernel_rfl) rfl rfl ap0 (by kernel_rfl) (by kernel_rfl) ?_
    refine V_run hN hn 4 1 [1, 6, 7] [0] ⟨[(1, .c (.imm (.opt (.pair (.slice (.pair (.int .i64) (.int .i64))) (.int .i64))) b_2)), (6, .c (.h 0)), (7, .c (.val (.slice none 0 0)))], [(0, .row (.pair (.int .i64) (.int .i64)) r_14)], 1⟩ [] (by kernel_rfl) rfl rfl ap0 ?_
    obtain ⟨r_18, h_19, H_105⟩ := of_bind H_104
    refine V_reg hN hn [(1, ⟨54, 0, [.c (.imm (.opt (.pair (.slice (.pair (.int .i64) (.int .i64))) (.int .i64))) b_2)], [], .c (.h 2), [(2, .row (.pair (.int .i64) (.int .i64)) r_18)], [(2, 1)], 2⟩)] [] (calls_cons (algebra_segs_spec K b_2 r_18 h_19) (by kernel_rfl) calls_nil) 1 [6, 7, 23, 24, 25] [0, 1] ⟨[(6, .c (.h 0)), (7, .c (.val (.slice none 0 0))), (23, .c (.h 1)), (24, .c (.val (.int .i64 (((List.length r_18) : Nat) : Int)))), (25, .c (.val (.int .i64 (0 : Int))))], [(0, .row (.pair (.int .i64) (.int .i64)) r_14), (1, .row (.pair (.int .i64) (.int .i64)) r_18)], 2⟩ [] (by kernel_rfl) rfl rfl ap0 (by kernel_rfl) (by kernel_rfl) ?_
    obtain ⟨q_106, H_107, H_108⟩ := of_bind H_105
    refine V_cut (Y := (List (Int × Int))) (R := (List (Int × Int))) q_106 (fun y => y) (fun y => [(7, .c (.h 12))]) (fun y => [(12, .row (.pair (.int .i64) (.int .i64)) y)]) ?_ ?_
    · skip
      refine VL_block ?_
      refine V_ghost [.nilSlot 7 (.pair (.int .i64) (.int .i64))] 2 hn [6, 7, 23, 24, 25] [0, 1, 2] ⟨[(6, .c (.h 0)), (7, .c (.h 2)), (23, .c (.h 1)), (24, .c (.val (.int .i64 (((List.length r_18) : Nat) : Int)))), (25, .c (.val (.int .i64 (0 : Int))))], [(0, .row (.pair (.int .i64) (.int .i64)) r_14), (1, .row (.pair (.int .i64) (.int .i64)) r_18), (2, .row (.pair (.int .i64) (.int .i64)) ([] : List (Int × Int)))], 3⟩ (by kernel_rfl) rfl rfl ?_
      refine V_to [(6, .c (.h 11)), (7, .c (.h 12)), (23, .c (.h 1)), (24, .c (.val (.int .i64 (((List.length r_18) : Nat) : Int)))), (25, .c (.val (.int .i64 (0 : Int))))] [(1, .row (.pair (.int .i64) (.int .i64)) r_18), (11, .row (.pair (.int .i64) (.int .i64)) r_14), (12, .row (.pair (.int .i64) (.int .i64)) ([] : List (Int × Int)))] [(1, 1), (11, 0), (12, 2)] hn (by kernel_rfl) (by kernel_rfl) rfl rfl rfl ?_
      refine VL_loop (X := ((List (Int × Int)) × (List (Int × Int)) × Int)) (fun x => [(6, .c (.h 11)), (7, .c (.h 12)), (23, .c (.h 1)), (24, .c (.val (.int .i64 (((List.length r_18) : Nat) : Int)))), (25, .c (.val (.int .i64 x.2.2)))]) (fun x => [(1, .row (.pair (.int .i64) (.int .i64)) r_18), (11, .row (.pair (.int .i64) (.int .i64)) x.1), (12, .row (.pair (.int .i64) (.int .i64)) x.2.1)]) (fun k x => algebra_Expand.l0 K r_18 k x.1 x.2.1 x.2.2 = some q_106) K (r_14, ([] : List (Int × Int)), (0 : Int)) H_107 (fun _ h => no_none h) ?_
      intro k_56 x_56 H_110
      obtain ⟨l_54, out_55, t_21⟩ := x_56
      have H_111 : algebra_Expand.l0 K r_18 (k_56 + 1) l_54 out_55 t_21 = some q_106 := H_110
      rw [algebra_Expand.l0] at H_111
      refine V_run hN hn 3 13 [6, 7, 23, 24, 25, 26] [1, 11, 12] ⟨[(6, .c (.h 11)), (7, .c (.h 12)), (23, .c (.h 1)), (24, .c (.val (.int .i64 (((List.length r_18) : Nat) : Int)))), (25, .c (.val (.int .i64 t_21))), (26, .c (.val (.bool (decide (t_21 < (((List.length r_18) : Nat) : Int))))))], [(1, .row (.pair (.int .i64) (.int .i64)) r_18), (11, .row (.pair (.int .i64) (.int .i64)) l_54), (12, .row (.pair (.int .i64) (.int .i64)) out_55)], 13⟩ [] (by kernel_rfl) rfl rfl ap0 ?_
      refine VL_cond ((decide (t_21 < (((List.length r_18) : Nat) : Int)))) (by kernel_rfl) ?_ ?_
      · intro b_58; have H_112 := of_t H_111 b_58
        refine V_run hN hn 2 13 [6, 7, 23, 24, 25, 26] [1, 11, 12] ⟨[(6, .c (.h 11)), (7, .c (.h 12)), (23, .c (.h 1)), (24, .c (.val (.int .i64 (((List.length r_18) : Nat) : Int)))), (25, .c (.val (.int .i64 t_21))), (26, .c (.val (.bool (decide (t_21 < (((List.length r_18) : Nat) : Int))))))], [(1, .row (.pair (.int .i64) (.int .i64)) r_18), (11, .row (.pair (.int .i64) (.int .i64)) l_54), (12, .row (.pair (.int .i64) (.int .i64)) out_55)], 13⟩ [] (by kernel_rfl) rfl rfl ap0 ?_
        obtain ⟨q_114, H_115, H_116⟩ := of_bind H_112
        refine V_cut (Y := ((List (Int × Int)) × (List (Int × Int)))) (R := ((List (Int × Int)) × (List (Int × Int)))) q_114 (fun y => y) (fun y => [(6, .c (.h 19)), (7, .c (.h 20)), (23, .c (.h 1)), (24, .c (.val (.int .i64 (((List.length r_18) : Nat) : Int)))), (25, .c (.val (.int .i64 t_21)))]) (fun y => [(1, .row (.pair (.int .i64) (.int .i64)) r_18), (19, .row (.pair (.int .i64) (.int .i64)) y.1), (20, .row (.pair (.int .i64) (.int .i64)) y.2)]) ?_ ?_
        · skip
          refine VL_block ?_
          obtain ⟨c_60, H_118⟩ := of_if H_115
          refine V_run hN hn 5 13 [6, 7, 9, 23, 24, 25, 31] [1, 11, 12, 13] ⟨[(6, .c (.h 11)), (7, .c (.h 12)), (9, .c (.h 13)), (23, .c (.h 1)), (24, .c (.val (.int .i64 (((List.length r_18) : Nat) : Int)))), (25, .c (.val (.int .i64 t_21))), (31, .c (.val (.bool (decide ((List.getD r_18 (Int.toNat t_21) ((0 : Int), (0 : Int))).2 > (0 : Int))))))], [(1, .row (.pair (.int .i64) (.int .i64)) r_18), (11, .row (.pair (.int .i64) (.int .i64)) l_54), (12, .row (.pair (.int .i64) (.int .i64)) out_55), (13, .box [.val (.int .i64 (List.getD r_18 (Int.toNat t_21) ((0 : Int), (0 : Int))).1), .val (.int .i64 (List.getD r_18 (Int.toNat t_21) ((0 : Int), (0 : Int))).2)])], 14⟩ [0 ≤ t_21, t_21 < (((List.length r_18) : Nat) : Int)] (by kernel_rfl) rfl rfl (ap2 c_60.1 (ap1 c_60.2)) ?_
          refine VL_cond ((decide ((List.getD r_18 (Int.toNat t_21) ((0 : Int), (0 : Int))).2 > (0 : Int)))) (by kernel_rfl) ?_ ?_
          · intro b_61; have H_119 := of_t H_118 b_61
            obtain ⟨c_62, H_121⟩ := of_if H_119
            refine V_run hN hn 2 14 [6, 7, 23, 24, 25] [1, 11, 15] ⟨[(6, .c (.h 11)), (7, .c (.h 15)), (23, .c (.h 1)), (24, .c (.val (.int .i64 (((List.length r_18) : Nat) : Int)))), (25, .c (.val (.int .i64 t_21)))], [(1, .row (.pair (.int .i64) (.int .i64)) r_18), (11, .row (.pair (.int .i64) (.int .i64)) l_54), (15, .row (.pair (.int .i64) (.int .i64)) (out_55 ++ ([((List.getD r_18 (Int.toNat t_21) ((0 : Int), (0 : Int))).1, (0 : Int))] : List (Int × Int))))], 16⟩ [(List.length out_55 + List.length ([((List.getD r_18 (Int.toNat t_21) ((0 : Int), (0 : Int))).1, (0 : Int))] : List (Int × Int))) * 16 ≤ 140737488355328] (by kernel_rfl) rfl rfl (ap1 c_62) ?_
            refine VL_exit ?_
            refine QB_here ?_
            have H_122 := Option.some.inj (show some (l_54, (out_55 ++ ([((List.getD r_18 (Int.toNat t_21) ((0 : Int), (0 : Int))).1, (0 : Int))] : List (Int × Int)))) = some q_114 from H_121); subst H_122
            refine VL_nil ?_
            exact QP_end (l_54, (out_55 ++ ([((List.getD r_18 (Int.toNat t_21) ((0 : Int), (0 : Int))).1, (0 : Int))] : List (Int × Int)))) rfl [(1, 1), (19, 11), (20, 15)] hn (by kernel_rfl) (by kernel_rfl) rfl rfl rfl
          · intro b_61; have H_120 := of_f H_118 b_61
            refine V_run hN hn 3 14 [6, 7, 10, 23, 24, 25] [1, 11, 12] ⟨[(6, .c (.h 11)), (7, .c (.h 12)), (10, .c (.val (.int .i64 (List.getD r_18 (Int.toNat t_21) ((0 : Int), (0 : Int))).1))), (23, .c (.h 1)), (24, .c (.val (.int .i64 (((List.length r_18) : Nat) : Int)))), (25, .c (.val (.int .i64 t_21)))], [(1, .row (.pair (.int .i64) (.int .i64)) r_18), (11, .row (.pair (.int .i64) (.int .i64)) l_54), (12, .row (.pair (.int .i64) (.int .i64)) out_55)], 14⟩ [] (by kernel_rfl) rfl rfl ap0 ?_
            refine VL_block ?_
            refine V_to [(6, .c (.h 17)), (7, .c (.h 18)), (10, .c (.val (.int .i64 (List.getD r_18 (Int.toNat t_21) ((0 : Int), (0 : Int))).1))), (23, .c (.h 1)), (24, .c (.val (.int .i64 (((List.length r_18) : Nat) : Int)))), (25, .c (.val (.int .i64 t_21)))] [(1, .row (.pair (.int .i64) (.int .i64)) r_18), (17, .row (.pair (.int .i64) (.int .i64)) l_54), (18, .row (.pair (.int .i64) (.int .i64)) out_55)] [(1, 1), (17, 11), (18, 12)] hn (by kernel_rfl) (by kernel_rfl) rfl rfl rfl ?_
            refine VL_loop (X := ((List (Int × Int)) × (List (Int × Int)) × Int)) (fun x => [(6, .c (.h 17)), (7, .c (.h 18)), (10, .c (.val (.int .i64 x.2.2))), (23, .c (.h 1)), (24, .c (.val (.int .i64 (((List.length r_18) : Nat) : Int)))), (25, .c (.val (.int .i64 t_21)))]) (fun x => [(1, .row (.pair (.int .i64) (.int .i64)) r_18), (17, .row (.pair (.int .i64) (.int .i64)) x.1), (18, .row (.pair (.int .i64) (.int .i64)) x.2.1)]) (fun k x => algebra_Expand.l1 K k x.1 x.2.1 x.2.2 = some q_114) K (l_54, out_55, (List.getD r_18 (Int.toNat t_21) ((0 : Int), (0 : Int))).1) H_120 (fun _ h => no_none h) ?_
            intro k_76 x_76 H_123
            obtain ⟨l_74, out_75, left_64⟩ := x_76
            have H_124 : algebra_Expand.l1 K (k_76 + 1) l_74 out_75 left_64 = some q_114 := H_123
            rw [algebra_Expand.l1] at H_124
            refine V_run hN hn 3 19 [6, 7, 10, 23, 24, 25, 41] [1, 17, 18] ⟨[(6, .c (.h 17)), (7, .c (.h 18)), (10, .c (.val (.int .i64 left_64))), (23, .c (.h 1)), (24, .c (.val (.int .i64 (((List.length r_18) : Nat) : Int)))), (25, .c (.val (.int .i64 t_21))), (41, .c (.val (.bool (decide (left_64 > (0 : Int))))))], [(1, .row (.pair (.int .i64) (.int .i64)) r_18), (17, .row (.pair (.int .i64) (.int .i64)) l_74), (18, .row (.pair (.int .i64) (.int .i64)) out_75)], 19⟩ [] (by kernel_rfl) rfl rfl ap0 ?_
            refine VL_cond ((decide (left_64 > (0 : Int)))) (by kernel_rfl) ?_ ?_
            · intro b_78; have H_125 := of_t H_124 b_78
              refine V_run hN hn 1 19 [6, 7, 10, 23, 24, 25, 41] [1, 17, 18] ⟨[(6, .c (.h 17)), (7, .c (.h 18)), (10, .c (.val (.int .i64 left_64))), (23, .c (.h 1)), (24, .c (.val (.int .i64 (((List.length r_18) : Nat) : Int)))), (25, .c (.val (.int .i64 t_21))), (41, .c (.val (.bool (decide (left_64 > (0 : Int))))))], [(1, .row (.pair (.int .i64) (.int .i64)) r_18), (17, .row (.pair (.int .i64) (.int .i64)) l_74), (18, .row (.pair (.int .i64) (.int .i64)) out_75)], 19⟩ [] (by kernel_rfl) rfl rfl ap0 ?_
              refine VL_block ?_
              obtain ⟨c_80, H_127⟩ := of_if H_125
              refine V_run hN hn 5 19 [6, 7, 10, 11, 23, 24, 25] [1, 17, 20] ⟨[(6, .c (.h 17)), (7, .c (.h 20)), (10, .c (.val (.int .i64 left_64))), (11, .c (.val (.int .i64 (mn2 left_64 (List.getD l_74 0 ((0 : Int), (0 : Int))).1)))), (23, .c (.h 1)), (24, .c (.val (.int .i64 (((List.length r_18) : Nat) : Int)))), (25, .c (.val (.int .i64 t_21)))], [(1, .row (.pair (.int .i64) (.int .i64)) r_18), (17, .row (.pair (.int .i64) (.int .i64)) l_74), (20, .row (.pair (.int .i64) (.int .i64)) (out_75 ++ ([((mn2 left_64 (List.getD l_74 0 ((0 : Int), (0 : Int))).1), (List.getD l_74 0 ((0 : Int), (0 : Int))).2)] : List (Int × Int))))], 21⟩ [(0 : Int) ≤ (0 : Int), (0 : Int) < (((List.length l_74) : Nat) : Int), (0 : Int) ≤ (0 : Int), (0 : Int) < (((List.length l_74) : Nat) : Int), (List.length out_75 + List.length ([((mn2 left_64 (List.getD l_74 0 ((0 : Int), (0 : Int))).1), (List.getD l_74 0 ((0 : Int), (0 : Int))).2)] : List (Int × Int))) * 16 ≤ 140737488355328] (by kernel_rfl) rfl rfl (ap2 (by decide) (ap2 c_80.1 (ap2 (by decide) (ap2 c_80.1 (ap1 c_80.2))))) ?_
              obtain ⟨r_81, h_82, H_128⟩ := of_bind H_127
              refine V_reg hN hn [(2, ⟨55, 1, [.c (.h 0), .c (.val (.int .i64 (mn2 left_64 (List.getD l_74 0 ((0 : Int), (0 : Int))).1)))], [(0, .row (.pair (.int .i64) (.int .i64)) l_74)], .c (.h 2), [(2, .row (.pair (.int .i64) (.int .i64)) r_81)], [(0, 17), (2, 21)], 22⟩)] [] (calls_cons (algebra_less_rg_spec K l_74 (mn2 left_64 (List.getD l_74 0 ((0 : Int), (0 : Int))).1) r_81 h_82) (by kernel_rfl) calls_nil) 21 [6, 7, 10, 11, 23, 24, 25] [1, 20, 21] ⟨[(6, .c (.h 21)), (7, .c (.h 20)), (10, .c (.val (.int .i64 left_64))), (11, .c (.val (.int .i64 (mn2 left_64 (List.getD l_74 0 ((0 : Int), (0 : Int))).1)))), (23, .c (.h 1)), (24, .c (.val (.int .i64 (((List.length r_18) : Nat) : Int)))), (25, .c (.val (.int .i64 t_21)))], [(1, .row (.pair (.int .i64) (.int .i64)) r_18), (20, .row (.pair (.int .i64) (.int .i64)) (out_75 ++ ([((mn2 left_64 (List.getD l_74 0 ((0 : Int), (0 : Int))).1), (List.getD l_74 0 ((0 : Int), (0 : Int))).2)] : List (Int × Int)))), (21, .row (.pair (.int .i64) (.int .i64)) r_81)], 22⟩ [] (by kernel_rfl) rfl rfl ap0 (by kernel_rfl) (by kernel_rfl) ?_
              refine V_run hN hn 1 22 [6, 7, 10, 23, 24, 25] [1, 20, 21] ⟨[(6, .c (.h 21)), (7, .c (.h 20)), (10, .c (.val (.int .i64 (IntKind.wrap .i64 (left_64 - (mn2 left_64 (List.getD l_74 0 ((0 : Int), (0 : Int))).1)))))), (23, .c (.h 1)), (24, .c (.val (.int .i64 (((List.length r_18) : Nat) : Int)))), (25, .c (.val (.int .i64 t_21)))], [(1, .row (.pair (.int .i64) (.int .i64)) r_18), (20, .row (.pair (.int .i64) (.int .i64)) (out_75 ++ ([((mn2 left_64 (List.getD l_74 0 ((0 : Int), (0 : Int))).1), (List.getD l_74 0 ((0 : Int), (0 : Int))).2)] : List (Int × Int)))), (21, .row (.pair (.int .i64) (.int .i64)) r_81)], 22⟩ [] (by kernel_rfl) rfl rfl ap0 ?_
              refine VL_nil (QB_end ?_)
              refine VL_nil ?_
              exact V_roundEnd (r_81, (out_75 ++ ([((mn2 left_64 (List.getD l_74 0 ((0 : Int), (0 : Int))).1), (List.getD l_74 0 ((0 : Int), (0 : Int))).2)] : List (Int × Int))), (IntKind.wrap .i64 (left_64 - (mn2 left_64 (List.getD l_74 0 ((0 : Int), (0 : Int))).1)))) H_128 [(1, 1), (17, 21), (18, 20)] hn (by kernel_rfl) (by kernel_rfl) rfl rfl rfl
            · intro b_78; have H_126 := of_f H_124 b_78
              refine VL_exit ?_
              refine QL_exit ?_
              refine QB_here ?_
              refine VL_nil (QB_end ?_)
              have H_129 := Option.some.inj (show some (l_74, out_75) = some q_114 from H_126); subst H_129
              refine VL_nil ?_
              exact QP_end (l_74, out_75) rfl [(1, 1), (19, 17), (20, 18)] hn (by kernel_rfl) (by kernel_rfl) rfl rfl rfl
        · intro y_117 hy; subst hy
          obtain ⟨l_85, out_86⟩ := y_117
          refine V_run hN hn 1 21 [6, 7, 23, 24, 25] [1, 19, 20] ⟨[(6, .c (.h 19)), (7, .c (.h 20)), (23, .c (.h 1)), (24, .c (.val (.int .i64 (((List.length r_18) : Nat) : Int)))), (25, .c (.val (.int .i64 (IntKind.wrap .i64 (t_21 + (1 : Int))))))], [(1, .row (.pair (.int .i64) (.int .i64)) r_18), (19, .row (.pair (.int .i64) (.int .i64)) l_85), (20, .row (.pair (.int .i64) (.int .i64)) out_86)], 21⟩ [] (by kernel_rfl) rfl rfl ap0 ?_
          refine VL_nil ?_
          exact V_roundEnd (l_85, out_86, (IntKind.wrap .i64 (t_21 + (1 : Int)))) H_116 [(1, 1), (11, 19), (12, 20)] hn (by kernel_rfl) (by kernel_rfl) rfl rfl rfl
      · intro b_58; have H_113 := of_f H_111 b_58
        refine VL_exit ?_
        refine QL_exit ?_
        refine QB_here ?_
        have H_130 := Option.some.inj (show some out_55 = some q_106 from H_113); subst H_130
        refine VL_nil ?_
        exact QP_end out_55 rfl [(12, 12)] hn (by kernel_rfl) (by kernel_rfl) rfl rfl rfl
    · intro y_109 hy; subst hy
      skip
      skip
      refine V_run hN hn 1 13 [7] [12] ⟨[(7, .c (.h 12))], [(12, .row (.pair (.int .i64) (.int .i64)) y_109)], 13⟩ [] (by kernel_rfl) rfl rfl ap0 ?_
      obtain ⟨r_90, h_91, H_131⟩ := of_bind H_108
      refine V_reg hN hn [(1, ⟨45, 1, [.c (.h 0)], [(0, .row (.pair (.int .i64) (.int .i64)) y_109)], .tup [(false, [.imm (.opt (.pair (.slice (.pair (.int .i64) (.int .i64))) (.int .i64))) r_90.1]), (false, [.val (.int .i64 r_90.2)])], [(0, .row (.pair (.int .i64) (.int .i64)) y_109)], [(0, 12)], 13⟩)] [] (calls_cons (subset_Pack_r_spec K y_109 r_90 h_91) (by kernel_rfl) calls_nil) 13 [4, 5] [] ⟨[(4, .c (.imm (.opt (.pair (.slice (.pair (.int .i64) (.int .i64))) (.int .i64))) r_90.1)), (5, .c (.val (.int .i64 r_90.2)))], [], 13⟩ [] (by kernel_rfl) rfl rfl ap0 (by kernel_rfl) (by kernel_rfl) ?_
      have H_132 := Option.some.inj (show some (r_90.1, r_90.2) = some r from H_131); subst H_132
      refine VL_ret ?_
      exact P_to [(4, .c (.imm (.opt (.pair (.slice (.pair (.int .i64) (.int .i64))) (.int .i64))) r_90.1)), (5, .c (.val (.int .i64 r_90.2)))] [] [] hn (by kernel_rfl) (by kernel_rfl) rfl rfl rfl (QF_retS (by kernel_rfl) (by kernel_rfl) rfl)

theorem algebra_Delete_spec (K : Nat) (a_1 : (Option ((List (Int × Int)) × Int))) (s_2 : ByteArray) (r : (ByteArray × Int)) (H : algebra_Delete K a_1 s_2 = some r) : Spec Try.prog 36 0 [.c (.imm (.opt (.pair (.slice (.pair (.int .i64) (.int .i64))) (.int .i64))) a_1), .c (.val (.string s_2))] [] (.tup [(false, [.val (.string r.1)]), (false, [.val (.int .i64 r.2)])]) [] := by
  refine Spec_mk (fn := Try.f36) (c := (Try.f36.body).get!) Try.func36 (by kernel_rfl) rfl ?_
  intro C hN hn
  replace hN : C.N = 51 := hN
  unfold algebra_Delete at H
  refine V_run hN hn 4 0 [0, 1] [] ⟨[(0, .c (.imm (.opt (.pair (.slice (.pair (.int .i64) (.int .i64))) (.int .i64))) a_1)), (1, .c (.val (.string s_2)))], [], 0⟩ [] (by kernel_rfl) rfl rfl ap0 ?_
  obtain ⟨r_4, h_5, H_43⟩ := of_bind H
  refine V_reg hN hn [(1, ⟨52, 0, [.c (.imm (.opt (.pair (.slice (.pair (.int .i64) (.int .i64))) (.int .i64))) a_1)], [], .c (.val (.int .i64 r_4)), [], [], 0⟩)] [] (calls_cons (algebra_size_spec K a_1 r_4 h_5) (by kernel_rfl) calls_nil) 0 [0, 1, 15] [] ⟨[(0, .c (.imm (.opt (.pair (.slice (.pair (.int .i64) (.int .i64))) (.int .i64))) a_1)), (1, .c (.val (.string s_2))), (15, .c (.val (.bool (r_4 != (((ByteArray.size s_2) : Nat) : Int)))))], [], 0⟩ [] (by kernel_rfl) rfl rfl ap0 (by kernel_rfl) (by kernel_rfl) ?_
  refine VL_cond ((r_4 != (((ByteArray.size s_2) : Nat) : Int))) (by kernel_rfl) ?_ ?_
  · intro b_7; have H_44 := of_t H_43 b_7
    refine V_run hN hn 2 0 [4, 5] [] ⟨[(4, .c (.val (.string (ByteArray.mk #[])))), (5, .c (.val (.int .i64 (80 : Int))))], [], 0⟩ [] (by kernel_rfl) rfl rfl ap0 ?_
    have H_46 := Option.some.inj (show some ((ByteArray.mk #[]), (80 : Int)) = some r from H_44); subst H_46
    refine VL_ret ?_
    exact P_to [(4, .c (.val (.string (ByteArray.mk #[])))), (5, .c (.val (.int .i64 (80 : Int))))] [] [] hn (by kernel_rfl) (by kernel_rfl) rfl rfl rfl (QF_retS (by kernel_rfl) (by kernel_rfl) rfl)
  · intro b_7; have H_45 := of_f H_43 b_7
    obtain ⟨c_9, H_47⟩ := of_if H_45
    refine V_run hN hn 7 0 [0, 1, 6, 7, 8] [0] ⟨[(0, .c (.imm (.opt (.pair (.slice (.pair (.int .i64) (.int .i64))) (.int .i64))) a_1)), (1, .c (.val (.string s_2))), (6, .c (.h 0)), (7, .c (.val (.int .i64 (0 : Int)))), (8, .c (.val (.int .i64 (0 : Int))))], [(0, .row (.int .u8) (List.replicate (Int.toNat (((ByteArray.size s_2) : Nat) : Int)) (0 : Int)))], 1⟩ [(0 : Int) ≤ (((ByteArray.size s_2) : Nat) : Int), (((ByteArray.size s_2) : Nat) : Int) ≤ (((ByteArray.size s_2) : Nat) : Int), (((ByteArray.size s_2) : Nat) : Int) * 1 ≤ (140737488355328 : Int), (((ByteArray.size s_2) : Nat) : Int) ≤ (9223372036854775807 : Int)] (by kernel_rfl) rfl rfl (ap2 c_9.1 (ap2 c_9.2.1 (ap2 c_9.2.2.1 (ap1 c_9.2.2.2)))) ?_
    obtain ⟨r_10, h_11, H_48⟩ := of_bind H_47
    refine V_reg hN hn [(1, ⟨54, 0, [.c (.imm (.opt (.pair (.slice (.pair (.int .i64) (.int .i64))) (.int .i64))) a_1)], [], .c (.h 2), [(2, .row (.pair (.int .i64) (.int .i64)) r_10)], [(2, 1)], 2⟩)] [] (calls_cons (algebra_segs_spec K a_1 r_10 h_11) (by kernel_rfl) calls_nil) 1 [1, 6, 7, 8, 20, 21, 22] [0, 1] ⟨[(1, .c (.val (.string s_2))), (6, .c (.h 0)), (7, .c (.val (.int .i64 (0 : Int)))), (8, .c (.val (.int .i64 (0 : Int)))), (20, .c (.h 1)), (21, .c (.val (.int .i64 (((List.length r_10) : Nat) : Int)))), (22, .c (.val (.int .i64 (0 : Int))))], [(0, .row (.int .u8) (List.replicate (Int.toNat (((ByteArray.size s_2) : Nat) : Int)) (0 : Int))), (1, .row (.pair (.int .i64) (.int .i64)) r_10)], 2⟩ [] (by kernel_rfl) rfl rfl ap0 (by kernel_rfl) (by kernel_rfl) ?_
    refine VL_block ?_
    refine V_to [(1, .c (.val (.string s_2))), (6, .c (.h 0)), (7, .c (.val (.int .i64 (0 : Int)))), (8, .c (.val (.int .i64 (0 : Int)))), (20, .c (.h 1)), (21, .c (.val (.int .i64 (((List.length r_10) : Nat) : Int)))), (22, .c (.val (.int .i64 (0 : Int))))] [(0, .row (.int .u8) (List.replicate (Int.toNat (((ByteArray.size s_2) : Nat) : Int)) (0 : Int))), (1, .row (.pair (.int .i64) (.int .i64)) r_10)] [(0, 0), (1, 1)] hn (by kernel_rfl) (by kernel_rfl) rfl rfl rfl ?_
    refine VL_loop (X := ((List Int) × Int × Int × Int)) (fun x => [(1, .c (.val (.string s_2))), (6, .c (.h 0)), (7, .c (.val (.int .i64 x.2.1))), (8, .c (.val (.int .i64 x.2.2.1))), (20, .c (.h 1)), (21, .c (.val (.int .i64 (((List.length r_10) : Nat) : Int)))), (22, .c (.val (.int .i64 x.2.2.2)))]) (fun x => [(0, .row (.int .u8) x.1), (1, .row (.pair (.int .i64) (.int .i64)) r_10)]) (fun k x => algebra_Delete.l0 K r_10 s_2 k x.1 x.2.1 x.2.2.1 x.2.2.2 = some r) K ((List.replicate (Int.toNat (((ByteArray.size s_2) : Nat) : Int)) (0 : Int)), (0 : Int), (0 : Int), (0 : Int)) H_48 (fun _ h => no_none h) ?_
    intro k_29 x_29 H_49
    obtain ⟨out_28, n_13, at_14, t_15⟩ := x_29
    have H_50 : algebra_Delete.l0 K r_10 s_2 (k_29 + 1) out_28 n_13 at_14 t_15 = some r := H_49
    rw [algebra_Delete.l0] at H_50
    refine V_run hN hn 3 3 [1, 6, 7, 8, 20, 21, 22, 23] [0, 1] ⟨[(1, .c (.val (.string s_2))), (6, .c (.h 0)), (7, .c (.val (.int .i64 n_13))), (8, .c (.val (.int .i64 at_14))), (20, .c (.h 1)), (21, .c (.val (.int .i64 (((List.length r_10) : Nat) : Int)))), (22, .c (.val (.int .i64 t_15))), (23, .c (.val (.bool (decide (t_15 < (((List.length r_10) : Nat) : Int))))))], [(0, .row (.int .u8) out_28), (1, .row (.pair (.int .i64) (.int .i64)) r_10)], 3⟩ [] (by kernel_rfl) rfl rfl ap0 ?_
    refine VL_cond ((decide (t_15 < (((List.length r_10) : Nat) : Int)))) (by kernel_rfl) ?_ ?_
    · intro b_31; have H_51 := of_t H_50 b_31
      refine V_run hN hn 2 3 [1, 6, 7, 8, 20, 21, 22, 23] [0, 1] ⟨[(1, .c (.val (.string s_2))), (6, .c (.h 0)), (7, .c (.val (.int .i64 n_13))), (8, .c (.val (.int .i64 at_14))), (20, .c (.h 1)), (21, .c (.val (.int .i64 (((List.length r_10) : Nat) : Int)))), (22, .c (.val (.int .i64 t_15))), (23, .c (.val (.bool (decide (t_15 < (((List.length r_10) : Nat) : Int))))))], [(0, .row (.int .u8) out_28), (1, .row (.pair (.int .i64) (.int .i64)) r_10)], 3⟩ [] (by kernel_rfl) rfl rfl ap0 ?_
      refine VL_block ?_
      obtain ⟨c_33, H_53⟩ := of_if H_51
      refine V_run hN hn 5 3 [1, 6, 7, 8, 10, 20, 21, 22, 28] [0, 1, 3] ⟨[(1, .c (.val (.string s_2))), (6, .c (.h 0)), (7, .c (.val (.int .i64 n_13))), (8, .c (.val (.int .i64 at_14))), (10, .c (.h 3)), (20, .c (.h 1)), (21, .c (.val (.int .i64 (((List.length r_10) : Nat) : Int)))), (22, .c (.val (.int .i64 t_15))), (28, .c (.val (.bool ((List.getD r_10 (Int.toNat t_15) ((0 : Int), (0 : Int))).2 == (0 : Int)))))], [(0, .row (.int .u8) out_28), (1, .row (.pair (.int .i64) (.int .i64)) r_10), (3, .box [.val (.int .i64 (List.getD r_10 (Int.toNat t_15) ((0 : Int), (0 : Int))).1), .val (.int .i64 (List.getD r_10 (Int.toNat t_15) ((0 : Int), (0 : Int))).2)])], 4⟩ [0 ≤ t_15, t_15 < (((List.length r_10) : Nat) : Int)] (by kernel_rfl) rfl rfl (ap2 c_33.1 (ap1 c_33.2)) ?_
      refine VL_cond (((List.getD r_10 (Int.toNat t_15) ((0 : Int), (0 : Int))).2 == (0 : Int))) (by kernel_rfl) ?_ ?_
      · intro b_34; have H_54 := of_t H_53 b_34
        obtain ⟨c_35, H_56⟩ := of_if H_54
        refine V_draw hN hn (by kernel_rfl) [] [] calls_nil 4 [1, 6, 7, 8, 10, 20, 21, 22] [0, 1, 3] ⟨[(1, .c (.val (.string s_2))), (6, .c (.h 0)), (7, .c (.val (.int .i64 (IntKind.wrap .i64 (n_13 + (((List.length (List.take ((List.length out_28) - (Int.toNat n_13)) (List.map (fun b => (UInt8.toNat b : Int)) (Array.toList (ByteArray.data (ByteArray.extract s_2 (Int.toNat at_14) (Int.toNat (IntKind.wrap .i64 (at_14 + (List.getD r_10 (Int.toNat t_15) ((0 : Int), (0 : Int))).1))))))))) : Nat) : Int)))))), (8, .c (.val (.int .i64 at_14))), (10, .c (.h 3)), (20, .c (.h 1)), (21, .c (.val (.int .i64 (((List.length r_10) : Nat) : Int)))), (22, .c (.val (.int .i64 t_15)))], [(0, .row (.int .u8) (putAt out_28 (List.take ((List.length out_28) - (Int.toNat n_13)) (List.map (fun b => (UInt8.toNat b : Int)) (Array.toList (ByteArray.data (ByteArray.extract s_2 (Int.toNat at_14) (Int.toNat (IntKind.wrap .i64 (at_14 + (List.getD r_10 (Int.toNat t_15) ((0 : Int), (0 : Int))).1)))))))) (Int.toNat n_13))), (1, .row (.pair (.int .i64) (.int .i64)) r_10), (3, .box [.val (.int .i64 (List.getD r_10 (Int.toNat t_15) ((0 : Int), (0 : Int))).1), .val (.int .i64 (List.getD r_10 (Int.toNat t_15) ((0 : Int), (0 : Int))).2)])], 4⟩ [(0 : Int) ≤ n_13, n_13 ≤ (((List.length out_28) : Nat) : Int), (0 : Int) ≤ at_14, at_14 ≤ (IntKind.wrap .i64 (at_14 + (List.getD r_10 (Int.toNat t_15) ((0 : Int), (0 : Int))).1)), (IntKind.wrap .i64 (at_14 + (List.getD r_10 (Int.toNat t_15) ((0 : Int), (0 : Int))).1)) ≤ (((ByteArray.size s_2) : Nat) : Int)] (by kernel_rfl) rfl rfl (ap2 c_35.1 (ap2 c_35.2.1 (ap2 c_35.2.2.1 (ap2 c_35.2.2.2.1 (ap1 c_35.2.2.2.2))))) (by kernel_rfl) (by kernel_rfl) ?_
        refine V_run hN hn 1 4 [1, 6, 7, 8, 20, 21, 22] [0, 1] ⟨[(1, .c (.val (.string s_2))), (6, .c (.h 0)), (7, .c (.val (.int .i64 (IntKind.wrap .i64 (n_13 + (((List.length (List.take ((List.length out_28) - (Int.toNat n_13)) (List.map (fun b => (UInt8.toNat b : Int)) (Array.toList (ByteArray.data (ByteArray.extract s_2 (Int.toNat at_14) (Int.toNat (IntKind.wrap .i64 (at_14 + (List.getD r_10 (Int.toNat t_15) ((0 : Int), (0 : Int))).1))))))))) : Nat) : Int)))))), (8, .c (.val (.int .i64 (IntKind.wrap .i64 (at_14 + (List.getD r_10 (Int.toNat t_15) ((0 : Int), (0 : Int))).1))))), (20, .c (.h 1)), (21, .c (.val (.int .i64 (((List.length r_10) : Nat) : Int)))), (22, .c (.val (.int .i64 t_15)))], [(0, .row (.int .u8) (putAt out_28 (List.take ((List.length out_28) - (Int.toNat n_13)) (List.map (fun b => (UInt8.toNat b : Int)) (Array.toList (ByteArray.data (ByteArray.extract s_2 (Int.toNat at_14) (Int.toNat (IntKind.wrap .i64 (at_14 + (List.getD r_10 (Int.toNat t_15) ((0 : Int), (0 : Int))).1)))))))) (Int.toNat n_13))), (1, .row (.pair (.int .i64) (.int .i64)) r_10)], 4⟩ [] (by kernel_rfl) rfl rfl ap0 ?_
        refine VL_nil (QB_end ?_)
        refine V_run hN hn 1 4 [1, 6, 7, 8, 20, 21, 22] [0, 1] ⟨[(1, .c (.val (.string s_2))), (6, .c (.h 0)), (7, .c (.val (.int .i64 (IntKind.wrap .i64 (n_13 + (((List.length (List.take ((List.length out_28) - (Int.toNat n_13)) (List.map (fun b => (UInt8.toNat b : Int)) (Array.toList (ByteArray.data (ByteArray.extract s_2 (Int.toNat at_14) (Int.toNat (IntKind.wrap .i64 (at_14 + (List.getD r_10 (Int.toNat t_15) ((0 : Int), (0 : Int))).1))))))))) : Nat) : Int)))))), (8, .c (.val (.int .i64 (IntKind.wrap .i64 (at_14 + (List.getD r_10 (Int.toNat t_15) ((0 : Int), (0 : Int))).1))))), (20, .c (.h 1)), (21, .c (.val (.int .i64 (((List.length r_10) : Nat) : Int)))), (22, .c (.val (.int .i64 (IntKind.wrap .i64 (t_15 + (1 : Int))))))], [(0, .row (.int .u8) (putAt out_28 (List.take ((List.length out_28) - (Int.toNat n_13)) (List.map (fun b => (UInt8.toNat b : Int)) (Array.toList (ByteArray.data (ByteArray.extract s_2 (Int.toNat at_14) (Int.toNat (IntKind.wrap .i64 (at_14 + (List.getD r_10 (Int.toNat t_15) ((0 : Int), (0 : Int))).1)))))))) (Int.toNat n_13))), (1, .row (.pair (.int .i64) (.int .i64)) r_10)], 4⟩ [] (by kernel_rfl) rfl rfl ap0 ?_
        refine VL_nil ?_
        exact V_roundEnd ((putAt out_28 (List.take ((List.length out_28) - (Int.toNat n_13)) (List.map (fun b => (UInt8.toNat b : Int)) (Array.toList (ByteArray.data (ByteArray.extract s_2 (Int.toNat at_14) (Int.toNat (IntKind.wrap .i64 (at_14 + (List.getD r_10 (Int.toNat t_15) ((0 : Int), (0 : Int))).1)))))))) (Int.toNat n_13)), (IntKind.wrap .i64 (n_13 + (((List.length (List.take ((List.length out_28) - (Int.toNat n_13)) (List.map (fun b => (UInt8.toNat b : Int)) (Array.toList (ByteArray.data (ByteArray.extract s_2 (Int.toNat at_14) (Int.toNat (IntKind.wrap .i64 (at_14 + (List.getD r_10 (Int.toNat t_15) ((0 : Int), (0 : Int))).1))))))))) : Nat) : Int))), (IntKind.wrap .i64 (at_14 + (List.getD r_10 (Int.toNat t_15) ((0 : Int), (0 : Int))).1)), (IntKind.wrap .i64 (t_15 + (1 : Int)))) H_56 [(0, 0), (1, 1)] hn (by kernel_rfl) (by kernel_rfl) rfl rfl rfl
      · intro b_34; have H_55 := of_f H_53 b_34
        refine V_run hN hn 2 4 [1, 6, 7, 8, 20, 21, 22] [0, 1] ⟨[(1, .c (.val (.string s_2))), (6, .c (.h 0)), (7, .c (.val (.int .i64 n_13))), (8, .c (.val (.int .i64 (IntKind.wrap .i64 (at_14 + (List.getD r_10 (Int.toNat t_15) ((0 : Int), (0 : Int))).1))))), (20, .c (.h 1)), (21, .c (.val (.int .i64 (((List.length r_10) : Nat) : Int)))), (22, .c (.val (.int .i64 t_15)))], [(0, .row (.int .u8) out_28), (1, .row (.pair (.int .i64) (.int .i64)) r_10)], 4⟩ [] (by kernel_rfl) rfl rfl ap0 ?_
        refine VL_nil (QB_end ?_)
        refine V_run hN hn 1 4 [1, 6, 7, 8, 20, 21, 22] [0, 1] ⟨[(1, .c (.val (.string s_2))), (6, .c (.h 0)), (7, .c (.val (.int .i64 n_13))), (8, .c (.val (.int .i64 (IntKind.wrap .i64 (at_14 + (List.getD r_10 (Int.toNat t_15) ((0 : Int), (0 : Int))).1))))), (20, .c (.h 1)), (21, .c (.val (.int .i64 (((List.length r_10) : Nat) : Int)))), (22, .c (.val (.int .i64 (IntKind.wrap .i64 (t_15 + (1 : Int))))))], [(0, .row (.int .u8) out_28), (1, .row (.pair (.int .i64) (.int .i64)) r_10)], 4⟩ [] (by kernel_rfl) rfl rfl ap0 ?_
        refine VL_nil ?_
        exact V_roundEnd (out_28, n_13, (IntKind.wrap .i64 (at_14 + (List.getD r_10 (Int.toNat t_15) ((0 : Int), (0 : Int))).1)), (IntKind.wrap .i64 (t_15 + (1 : Int)))) H_55 [(0, 0), (1, 1)] hn (by kernel_rfl) (by kernel_rfl) rfl rfl rfl
    · intro b_31; have H_52 := of_f H_50 b_31
      refine VL_exit ?_
      refine QL_exit ?_
      refine QB_here ?_
      obtain ⟨c_40, H_57⟩ := of_if H_52
      refine V_run hN hn 2 3 [4, 5] [] ⟨[(4, .c (.val (.string (ofBytes (List.take ((Int.toNat n_13) - 0) (List.drop 0 out_28)))))), (5, .c (.val (.int .i64 (0 : Int))))], [], 3⟩ [(0 : Int) ≤ n_13, n_13 ≤ (((List.length out_28) : Nat) : Int)] (by kernel_rfl) rfl rfl (ap2 c_40.1 (ap1 c_40.2)) ?_
      have H_58 := Option.some.inj (show some ((ofBytes (List.take ((Int.toNat n_13) - 0) (List.drop 0 out_28))), (0 : Int)) = some r from H_57); subst H_58
      refine VL_ret ?_
      exact P_to [(4, .c (.val (.string (ofBytes (List.take ((Int.toNat n_13) - 0) (List.drop 0 out_28)))))), (5, .c (.val (.int .i64 (0 : Int))))] [] [] hn (by kernel_rfl) (by kernel_rfl) rfl rfl rfl (QF_retS (by kernel_rfl) (by kernel_rfl) rfl)

theorem subset_Subset_Same_1_spec (K : Nat) (a_1 : Int) (a_2 : Int) (b_3 : Int) (b_4 : Int) (r : Bool) (H : subset_Subset_Same_1 K a_1 a_2 b_3 b_4 = some r) : Spec Try.prog 57 0 [.agg [.val (.int .i64 a_1), .val (.int .i64 a_2)], .agg [.val (.int .i64 b_3), .val (.int .i64 b_4)]] [] (.c (.val (.bool r))) [] := by
  refine Spec_mk (fn := Try.f57) (c := (Try.f57.body).get!) Try.func57 (by kernel_rfl) rfl ?_
  intro C hN hn
  replace hN : C.N = 8 := hN
  unfold subset_Subset_Same_1 at H
  refine V_run hN hn 4 0 [4] [] ⟨[(4, .c (.val (.bool ((a_1 == b_3) && (a_2 == b_4)))))], [], 2⟩ [] (by kernel_rfl) rfl rfl ap0 ?_
  have H_7 := Option.some.inj (show some ((a_1 == b_3) && (a_2 == b_4)) = some r from H); subst H_7
  refine VL_ret ?_
  exact P_to [(4, .c (.val (.bool ((a_1 == b_3) && (a_2 == b_4)))))] [] [] hn (by kernel_rfl) (by kernel_rfl) rfl rfl rfl (QF_retS (by kernel_rfl) (by kernel_rfl) rfl)

theorem slices_EqualFunc_ggcsubsetSubsetSame1_spec (K : Nat) (s1_1 : (List (Int × Int))) (s2_2 : (List (Int × Int))) (r : Bool) (H : slices_EqualFunc_ggcsubsetSubsetSame1 K s1_1 s2_2 = some r) : Spec Try.prog 56 0 [.c (.imm (.slice (.pair (.int .i64) (.int .i64))) s1_1), .c (.imm (.slice (.pair (.int .i64) (.int .i64))) s2_2), .c (.clo 57 [])] [] (.c (.val (.bool r))) [] := by
  refine Spec_mk (fn := Try.f56) (c := (Try.f56.body).get!) Try.func56 (by kernel_rfl) rfl ?_
  intro C hN hn
  replace hN : C.N = 32 := hN
  unfold slices_EqualFunc_ggcsubsetSubsetSame1 at H
  refine V_run hN hn 5 0 [0, 1, 2, 14] [] ⟨[(0, .c (.imm (.slice (.pair (.int .i64) (.int .i64))) s1_1)), (1, .c (.imm (.slice (.pair (.int .i64) (.int .i64))) s2_2)), (2, .c (.clo 57 [])), (14, .c (.val (.bool ((((List.length s1_1) : Nat) : Int) != (((List.length s2_2) : Nat) : Int)))))], [], 0⟩ [] (by kernel_rfl) rfl rfl ap0 ?_
  refine VL_cond (((((List.length s1_1) : Nat) : Int) != (((List.length s2_2) : Nat) : Int))) (by kernel_rfl) ?_ ?_
  · intro b_4; have H_22 := of_t H b_4
    refine V_run hN hn 2 0 [6] [] ⟨[(6, .c (.val (.bool false)))], [], 0⟩ [] (by kernel_rfl) rfl rfl ap0 ?_
    have H_24 := Option.some.inj (show some false = some r from H_22); subst H_24
    refine VL_ret ?_
    exact P_to [(6, .c (.val (.bool false)))] [] [] hn (by kernel_rfl) (by kernel_rfl) rfl rfl rfl (QF_retS (by kernel_rfl) (by kernel_rfl) rfl)
  · intro b_4; have H_23 := of_f H b_4
    refine V_run hN hn 4 0 [1, 2, 15, 16, 17] [] ⟨[(1, .c (.imm (.slice (.pair (.int .i64) (.int .i64))) s2_2)), (2, .c (.clo 57 [])), (15, .c (.imm (.slice (.pair (.int .i64) (.int .i64))) s1_1)), (16, .c (.val (.int .i64 (((List.length s1_1) : Nat) : Int)))), (17, .c (.val (.int .i64 (0 : Int))))], [], 0⟩ [] (by kernel_rfl) rfl rfl ap0 ?_
    refine VL_block ?_
    refine V_to [(1, .c (.imm (.slice (.pair (.int .i64) (.int .i64))) s2_2)), (2, .c (.clo 57 [])), (15, .c (.imm (.slice (.pair (.int .i64) (.int .i64))) s1_1)), (16, .c (.val (.int .i64 (((List.length s1_1) : Nat) : Int)))), (17, .c (.val (.int .i64 (0 : Int))))] [] [] hn (by kernel_rfl) (by kernel_rfl) rfl rfl rfl ?_
    refine VL_loop (X := Int) (fun x => [(1, .c (.imm (.slice (.pair (.int .i64) (.int .i64))) s2_2)), (2, .c (.clo 57 [])), (15, .c (.imm (.slice (.pair (.int .i64) (.int .i64))) s1_1)), (16, .c (.val (.int .i64 (((List.length s1_1) : Nat) : Int)))), (17, .c (.val (.int .i64 x)))]) (fun x => []) (fun k x => slices_EqualFunc_ggcsubsetSubsetSame1.l0 K s1_1 s2_2 k x = some r) K (0 : Int) H_23 (fun _ h => no_none h) ?_
    intro k_8 t_7 H_25
    have H_26 : slices_EqualFunc_ggcsubsetSubsetSame1.l0 K s1_1 s2_2 (k_8 + 1) t_7 = some r := H_25
    rw [slices_EqualFunc_ggcsubsetSubsetSame1.l0] at H_26
    refine V_run hN hn 3 0 [1, 2, 15, 16, 17, 18] [] ⟨[(1, .c (.imm (.slice (.pair (.int .i64) (.int .i64))) s2_2)), (2, .c (.clo 57 [])), (15, .c (.imm (.slice (.pair (.int .i64) (.int .i64))) s1_1)), (16, .c (.val (.int .i64 (((List.length s1_1) : Nat) : Int)))), (17, .c (.val (.int .i64 t_7))), (18, .c (.val (.bool (decide (t_7 < (((List.length s1_1) : Nat) : Int))))))], [], 0⟩ [] (by kernel_rfl) rfl rfl ap0 ?_
    refine VL_cond ((decide (t_7 < (((List.length s1_1) : Nat) : Int)))) (by kernel_rfl) ?_ ?_
    · intro b_10; have H_27 := of_t H_26 b_10
      refine V_run hN hn 2 0 [1, 2, 15, 16, 17, 18] [] ⟨[(1, .c (.imm (.slice (.pair (.int .i64) (.int .i64))) s2_2)), (2, .c (.clo 57 [])), (15, .c (.imm (.slice (.pair (.int .i64) (.int .i64))) s1_1)), (16, .c (.val (.int .i64 (((List.length s1_1) : Nat) : Int)))), (17, .c (.val (.int .i64 t_7))), (18, .c (.val (.bool (decide (t_7 < (((List.length s1_1) : Nat) : Int))))))], [], 0⟩ [] (by kernel_rfl) rfl rfl ap0 ?_
      refine VL_block ?_
      obtain ⟨c_12, H_29⟩ := of_if H_27
      refine V_run hN hn 5 0 [1, 2, 8, 9, 15, 16, 17] [0, 1] ⟨[(1, .c (.imm (.slice (.pair (.int .i64) (.int .i64))) s2_2)), (2, .c (.clo 57 [])), (8, .c (.h 0)), (9, .c (.h 1)), (15, .c (.imm (.slice (.pair (.int .i64) (.int .i64))) s1_1)), (16, .c (.val (.int .i64 (((List.length s1_1) : Nat) : Int)))), (17, .c (.val (.int .i64 t_7)))], [(0, .box [.val (.int .i64 (List.getD s1_1 (Int.toNat t_7) ((0 : Int), (0 : Int))).1), .val (.int .i64 (List.getD s1_1 (Int.toNat t_7) ((0 : Int), (0 : Int))).2)]), (1, .box [.val (.int .i64 (List.getD s2_2 (Int.toNat t_7) ((0 : Int), (0 : Int))).1), .val (.int .i64 (List.getD s2_2 (Int.toNat t_7) ((0 : Int), (0 : Int))).2)])], 2⟩ [0 ≤ t_7, t_7 < (((List.length s1_1) : Nat) : Int), 0 ≤ t_7, t_7 < (((List.length s2_2) : Nat) : Int)] (by kernel_rfl) rfl rfl (ap2 c_12.1 (ap2 c_12.2.1 (ap2 c_12.1 (ap1 c_12.2.2)))) ?_
      obtain ⟨r_13, h_14, H_30⟩ := of_bind H_29
      refine V_reg hN hn [(3, ⟨57, 0, [.agg [.val (.int .i64 (List.getD s1_1 (Int.toNat t_7) ((0 : Int), (0 : Int))).1), .val (.int .i64 (List.getD s1_1 (Int.toNat t_7) ((0 : Int), (0 : Int))).2)], .agg [.val (.int .i64 (List.getD s2_2 (Int.toNat t_7) ((0 : Int), (0 : Int))).1), .val (.int .i64 (List.getD s2_2 (Int.toNat t_7) ((0 : Int), (0 : Int))).2)]], [], .c (.val (.bool r_13)), [], [], 2⟩)] [] (calls_cons (subset_Subset_Same_1_spec K (List.getD s1_1 (Int.toNat t_7) ((0 : Int), (0 : Int))).1 (List.getD s1_1 (Int.toNat t_7) ((0 : Int), (0 : Int))).2 (List.getD s2_2 (Int.toNat t_7) ((0 : Int), (0 : Int))).1 (List.getD s2_2 (Int.toNat t_7) ((0 : Int), (0 : Int))).2 r_13 h_14) (by kernel_rfl) calls_nil) 2 [1, 2, 15, 16, 17, 30] [] ⟨[(1, .c (.imm (.slice (.pair (.int .i64) (.int .i64))) s2_2)), (2, .c (.clo 57 [])), (15, .c (.imm (.slice (.pair (.int .i64) (.int .i64))) s1_1)), (16, .c (.val (.int .i64 (((List.length s1_1) : Nat) : Int)))), (17, .c (.val (.int .i64 t_7))), (30, .c (.val (.bool (!r_13))))], [], 2⟩ [] (by kernel_rfl) rfl rfl ap0 (by kernel_rfl) (by kernel_rfl) ?_
      refine VL_cond ((!r_13)) (by kernel_rfl) ?_ ?_
      · intro b_16; have H_31 := of_t H_30 b_16
        refine V_run hN hn 2 2 [6] [] ⟨[(6, .c (.val (.bool false)))], [], 2⟩ [] (by kernel_rfl) rfl rfl ap0 ?_
        have H_33 := Option.some.inj (show some false = some r from H_31); subst H_33
        refine VL_ret ?_
        refine QB_ret ?_
        refine QL_ret ?_
        refine QB_ret ?_
        exact P_to [(6, .c (.val (.bool false)))] [] [] hn (by kernel_rfl) (by kernel_rfl) rfl rfl rfl (QF_retS (by kernel_rfl) (by kernel_rfl) rfl)
      · intro b_16; have H_32 := of_f H_30 b_16
        refine V_run hN hn 1 2 [1, 2, 15, 16, 17, 30] [] ⟨[(1, .c (.imm (.slice (.pair (.int .i64) (.int .i64))) s2_2)), (2, .c (.clo 57 [])), (15, .c (.imm (.slice (.pair (.int .i64) (.int .i64))) s1_1)), (16, .c (.val (.int .i64 (((List.length s1_1) : Nat) : Int)))), (17, .c (.val (.int .i64 t_7))), (30, .c (.val (.bool (!r_13))))], [], 2⟩ [] (by kernel_rfl) rfl rfl ap0 ?_
        refine VL_nil (QB_end ?_)
        refine V_run hN hn 1 2 [1, 2, 15, 16, 17] [] ⟨[(1, .c (.imm (.slice (.pair (.int .i64) (.int .i64))) s2_2)), (2, .c (.clo 57 [])), (15, .c (.imm (.slice (.pair (.int .i64) (.int .i64))) s1_1)), (16, .c (.val (.int .i64 (((List.length s1_1) : Nat) : Int)))), (17, .c (.val (.int .i64 (IntKind.wrap .i64 (t_7 + (1 : Int))))))], [], 2⟩ [] (by kernel_rfl) rfl rfl ap0 ?_
        refine VL_nil ?_
        exact V_roundEnd (IntKind.wrap .i64 (t_7 + (1 : Int))) H_32 [] hn (by kernel_rfl) (by kernel_rfl) rfl rfl rfl
    · intro b_10; have H_28 := of_f H_26 b_10
      refine VL_exit ?_
      refine QL_exit ?_
      refine QB_here ?_
      refine V_run hN hn 2 0 [6] [] ⟨[(6, .c (.val (.bool true)))], [], 0⟩ [] (by kernel_rfl) rfl rfl ap0 ?_
      have H_34 := Option.some.inj (show some true = some r from H_28); subst H_34
      refine VL_ret ?_
      exact P_to [(6, .c (.val (.bool true)))] [] [] hn (by kernel_rfl) (by kernel_rfl) rfl rfl rfl (QF_retS (by kernel_rfl) (by kernel_rfl) rfl)

end Go.Pal
