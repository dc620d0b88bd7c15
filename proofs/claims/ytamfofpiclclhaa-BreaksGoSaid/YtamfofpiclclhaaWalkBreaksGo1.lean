/- The Go functions that BreaksGo reaches compute what the plain functions say: part 1, printed by a program of this workplace. -/
import Derived.Test.YtamfofpiclclhaaChecked
import Derived.Test.YtamfofpiclclhaaWalkBreaksGo0
namespace Go.Pal
open Go Go.Proofs
set_option maxRecDepth 100000
set_option linter.unusedVariables false

theorem delta_check_gr_spec (K : Nat) (base_1 : Int) (l_2 : (List (Int × (Int × ByteArray)))) (r : Int) (H : delta_check_gr K base_1 l_2 = some r) : Spec Try.prog 38 1 [.c (.val (.int .i64 base_1)), .c (.h 0)] [(0, .row (.pair (.int .i64) (.pair (.int .i64) .str)) l_2)] (.c (.val (.int .i64 r))) [(0, .row (.pair (.int .i64) (.pair (.int .i64) .str)) l_2)] := by
  refine Spec_mk (fn := Try.f38) (c := (Try.f38.body).get!) Try.func38 (by kernel_rfl) rfl ?_
  intro C hN hn
  replace hN : C.N = 55 := hN
  unfold delta_check_gr at H
  refine V_run hN hn 4 1 [0, 1] [0] ⟨[(0, .c (.val (.int .i64 base_1))), (1, .c (.h 0))], [(0, .row (.pair (.int .i64) (.pair (.int .i64) .str)) l_2)], 1⟩ [] (by kernel_rfl) rfl rfl ap0 ?_
  obtain ⟨q_59, H_60, H_61⟩ := of_bind H
  refine V_cut (Y := Bool) (R := Bool) q_59 (fun y => y) (fun y => [(0, .c (.val (.int .i64 base_1))), (1, .c (.h 0)), (14, .c (.val (.bool y)))]) (fun y => [(0, .row (.pair (.int .i64) (.pair (.int .i64) .str)) l_2)]) ?_ ?_
  · skip
    rcases Bool.eq_false_or_eq_true ((decide (base_1 < (0 : Int)))) with b_4 | b_4
    · have H_63 := of_t H_60 b_4
      refine V_reg hN hn [] [(11, true)] calls_nil 1 [0, 1, 14] [0] ⟨[(0, .c (.val (.int .i64 base_1))), (1, .c (.h 0)), (14, .c (.val (.bool true)))], [(0, .row (.pair (.int .i64) (.pair (.int .i64) .str)) l_2)], 1⟩ [(decide (base_1 < (0 : Int))) = true] (by kernel_rfl) rfl rfl (ap1 b_4) (by kernel_rfl) (by kernel_rfl) ?_
      have H_65 := Option.some.inj (show some true = some q_59 from H_63); subst H_65
      refine VL_nil ?_
      exact QP_end true rfl [] hn (by kernel_rfl) (by kernel_rfl) rfl rfl rfl
    · have H_64 := of_f H_60 b_4
      refine V_reg hN hn [] [(11, false)] calls_nil 1 [0, 1, 14] [0] ⟨[(0, .c (.val (.int .i64 base_1))), (1, .c (.h 0)), (14, .c (.val (.bool (decide (base_1 > (20000 : Int))))))], [(0, .row (.pair (.int .i64) (.pair (.int .i64) .str)) l_2)], 1⟩ [(decide (base_1 < (0 : Int))) = false] (by kernel_rfl) rfl rfl (ap1 b_4) (by kernel_rfl) (by kernel_rfl) ?_
      have H_66 := Option.some.inj (show some (decide (base_1 > (20000 : Int))) = some q_59 from H_64); subst H_66
      refine VL_nil ?_
      exact QP_end (decide (base_1 > (20000 : Int))) rfl [] hn (by kernel_rfl) (by kernel_rfl) rfl rfl rfl
  · intro y_62 hy; subst hy
    skip
    skip
    refine VL_cond (y_62) (by kernel_rfl) ?_ ?_
    · intro b_8; have H_67 := of_t H_61 b_8
      refine V_run hN hn 2 1 [4] [0] ⟨[(4, .c (.val (.int .i64 (10 : Int))))], [(0, .row (.pair (.int .i64) (.pair (.int .i64) .str)) l_2)], 1⟩ [] (by kernel_rfl) rfl rfl ap0 ?_
      have H_69 := Option.some.inj (show some (10 : Int) = some r from H_67); subst H_69
      refine VL_ret ?_
      exact P_to [(4, .c (.val (.int .i64 (10 : Int))))] [(0, .row (.pair (.int .i64) (.pair (.int .i64) .str)) l_2)] [] hn (by kernel_rfl) (by kernel_rfl) rfl rfl rfl (QF_retS (by kernel_rfl) (by kernel_rfl) rfl)
    · intro b_8; have H_68 := of_f H_61 b_8
      refine V_run hN hn 4 1 [0, 1, 15, 16, 17] [0] ⟨[(0, .c (.val (.int .i64 base_1))), (1, .c (.h 0)), (15, .c (.h 0)), (16, .c (.val (.int .i64 (((List.length l_2) : Nat) : Int)))), (17, .c (.val (.int .i64 (0 : Int))))], [(0, .row (.pair (.int .i64) (.pair (.int .i64) .str)) l_2)], 1⟩ [] (by kernel_rfl) rfl rfl ap0 ?_
      obtain ⟨q_70, H_71, H_72⟩ := of_bind H_68
      refine V_cut (Y := Unit) (R := (Int ⊕ Unit)) q_70 (fun y => (Sum.inr y)) (fun y => [(0, .c (.val (.int .i64 base_1))), (1, .c (.h 0))]) (fun y => [(0, .row (.pair (.int .i64) (.pair (.int .i64) .str)) l_2)]) ?_ ?_
      · skip
        refine VL_block ?_
        refine V_to [(0, .c (.val (.int .i64 base_1))), (1, .c (.h 0)), (15, .c (.h 0)), (16, .c (.val (.int .i64 (((List.length l_2) : Nat) : Int)))), (17, .c (.val (.int .i64 (0 : Int))))] [(0, .row (.pair (.int .i64) (.pair (.int .i64) .str)) l_2)] [] hn (by kernel_rfl) (by kernel_rfl) rfl rfl rfl ?_
        refine VL_loop (X := Int) (fun x => [(0, .c (.val (.int .i64 base_1))), (1, .c (.h 0)), (15, .c (.h 0)), (16, .c (.val (.int .i64 (((List.length l_2) : Nat) : Int)))), (17, .c (.val (.int .i64 x)))]) (fun x => [(0, .row (.pair (.int .i64) (.pair (.int .i64) .str)) l_2)]) (fun k x => delta_check_gr.l0 K l_2 base_1 k x = some q_70) K (0 : Int) H_71 (fun _ h => no_none h) ?_
        intro k_12 t_11 H_74
        have H_75 : delta_check_gr.l0 K l_2 base_1 (k_12 + 1) t_11 = some q_70 := H_74
        rw [delta_check_gr.l0] at H_75
        refine V_run hN hn 3 1 [0, 1, 15, 16, 17, 18] [0] ⟨[(0, .c (.val (.int .i64 base_1))), (1, .c (.h 0)), (15, .c (.h 0)), (16, .c (.val (.int .i64 (((List.length l_2) : Nat) : Int)))), (17, .c (.val (.int .i64 t_11))), (18, .c (.val (.bool (decide (t_11 < (((List.length l_2) : Nat) : Int))))))], [(0, .row (.pair (.int .i64) (.pair (.int .i64) .str)) l_2)], 1⟩ [] (by kernel_rfl) rfl rfl ap0 ?_
        refine VL_cond ((decide (t_11 < (((List.length l_2) : Nat) : Int)))) (by kernel_rfl) ?_ ?_
        · intro b_14; have H_76 := of_t H_75 b_14
          refine V_run hN hn 2 1 [0, 1, 15, 16, 17, 18] [0] ⟨[(0, .c (.val (.int .i64 base_1))), (1, .c (.h 0)), (15, .c (.h 0)), (16, .c (.val (.int .i64 (((List.length l_2) : Nat) : Int)))), (17, .c (.val (.int .i64 t_11))), (18, .c (.val (.bool (decide (t_11 < (((List.length l_2) : Nat) : Int))))))], [(0, .row (.pair (.int .i64) (.pair (.int .i64) .str)) l_2)], 1⟩ [] (by kernel_rfl) rfl rfl ap0 ?_
          refine VL_block ?_
          obtain ⟨c_16, H_78⟩ := of_if H_76
          refine V_run hN hn 3 1 [0, 1, 6, 15, 16, 17] [0, 1] ⟨[(0, .c (.val (.int .i64 base_1))), (1, .c (.h 0)), (6, .c (.h 1)), (15, .c (.h 0)), (16, .c (.val (.int .i64 (((List.length l_2) : Nat) : Int)))), (17, .c (.val (.int .i64 t_11)))], [(0, .row (.pair (.int .i64) (.pair (.int .i64) .str)) l_2), (1, .box [.val (.int .i64 (List.getD l_2 (Int.toNat t_11) ((0 : Int), ((0 : Int), ByteArray.empty))).1), .val (.int .i64 (List.getD l_2 (Int.toNat t_11) ((0 : Int), ((0 : Int), ByteArray.empty))).2.1), .val (.string (List.getD l_2 (Int.toNat t_11) ((0 : Int), ((0 : Int), ByteArray.empty))).2.2)])], 2⟩ [0 ≤ t_11, t_11 < (((List.length l_2) : Nat) : Int)] (by kernel_rfl) rfl rfl (ap2 c_16.1 (ap1 c_16.2)) ?_
          obtain ⟨q_79, H_80, H_81⟩ := of_bind H_78
          refine V_cut (Y := Bool) (R := Bool) q_79 (fun y => y) (fun y => [(0, .c (.val (.int .i64 base_1))), (1, .c (.h 0)), (15, .c (.h 0)), (16, .c (.val (.int .i64 (((List.length l_2) : Nat) : Int)))), (17, .c (.val (.int .i64 t_11))), (36, .c (.val (.bool y)))]) (fun y => [(0, .row (.pair (.int .i64) (.pair (.int .i64) .str)) l_2)]) ?_ ?_
          · skip
            rcases Bool.eq_false_or_eq_true ((decide ((List.getD l_2 (Int.toNat t_11) ((0 : Int), ((0 : Int), ByteArray.empty))).1 < (0 : Int)))) with b_17 | b_17
            · have H_83 := of_t H_80 b_17
              refine V_reg hN hn [] [(24, true)] calls_nil 2 [0, 1, 15, 16, 17, 36] [0] ⟨[(0, .c (.val (.int .i64 base_1))), (1, .c (.h 0)), (15, .c (.h 0)), (16, .c (.val (.int .i64 (((List.length l_2) : Nat) : Int)))), (17, .c (.val (.int .i64 t_11))), (36, .c (.val (.bool true)))], [(0, .row (.pair (.int .i64) (.pair (.int .i64) .str)) l_2)], 2⟩ [(decide ((List.getD l_2 (Int.toNat t_11) ((0 : Int), ((0 : Int), ByteArray.empty))).1 < (0 : Int))) = true] (by kernel_rfl) rfl rfl (ap1 b_17) (by kernel_rfl) (by kernel_rfl) ?_
              have H_85 := Option.some.inj (show some true = some q_79 from H_83); subst H_85
              refine VL_nil ?_
              exact QP_end true rfl [] hn (by kernel_rfl) (by kernel_rfl) rfl rfl rfl
            · have H_84 := of_f H_80 b_17
              rcases Bool.eq_false_or_eq_true ((decide ((List.getD l_2 (Int.toNat t_11) ((0 : Int), ((0 : Int), ByteArray.empty))).1 > (List.getD l_2 (Int.toNat t_11) ((0 : Int), ((0 : Int), ByteArray.empty))).2.1))) with b_19 | b_19
              · have H_86 := of_t H_84 b_19
                refine V_reg hN hn [] [(24, false), (31, true)] calls_nil 2 [0, 1, 15, 16, 17, 36] [0] ⟨[(0, .c (.val (.int .i64 base_1))), (1, .c (.h 0)), (15, .c (.h 0)), (16, .c (.val (.int .i64 (((List.length l_2) : Nat) : Int)))), (17, .c (.val (.int .i64 t_11))), (36, .c (.val (.bool true)))], [(0, .row (.pair (.int .i64) (.pair (.int .i64) .str)) l_2)], 2⟩ [(decide ((List.getD l_2 (Int.toNat t_11) ((0 : Int), ((0 : Int), ByteArray.empty))).1 < (0 : Int))) = false, (decide ((List.getD l_2 (Int.toNat t_11) ((0 : Int), ((0 : Int), ByteArray.empty))).1 > (List.getD l_2 (Int.toNat t_11) ((0 : Int), ((0 : Int), ByteArray.empty))).2.1)) = true] (by kernel_rfl) rfl rfl (ap2 b_17 (ap1 b_19)) (by kernel_rfl) (by kernel_rfl) ?_
                have H_88 := Option.some.inj (show some true = some q_79 from H_86); subst H_88
                refine VL_nil ?_
                exact QP_end true rfl [] hn (by kernel_rfl) (by kernel_rfl) rfl rfl rfl
              · have H_87 := of_f H_84 b_19
                refine V_reg hN hn [] [(24, false), (31, false)] calls_nil 2 [0, 1, 15, 16, 17, 36] [0] ⟨[(0, .c (.val (.int .i64 base_1))), (1, .c (.h 0)), (15, .c (.h 0)), (16, .c (.val (.int .i64 (((List.length l_2) : Nat) : Int)))), (17, .c (.val (.int .i64 t_11))), (36, .c (.val (.bool (decide ((List.getD l_2 (Int.toNat t_11) ((0 : Int), ((0 : Int), ByteArray.empty))).2.1 > base_1)))))], [(0, .row (.pair (.int .i64) (.pair (.int .i64) .str)) l_2)], 2⟩ [(decide ((List.getD l_2 (Int.toNat t_11) ((0 : Int), ((0 : Int), ByteArray.empty))).1 < (0 : Int))) = false, (decide ((List.getD l_2 (Int.toNat t_11) ((0 : Int), ((0 : Int), ByteArray.empty))).1 > (List.getD l_2 (Int.toNat t_11) ((0 : Int), ((0 : Int), ByteArray.empty))).2.1)) = false] (by kernel_rfl) rfl rfl (ap2 b_17 (ap1 b_19)) (by kernel_rfl) (by kernel_rfl) ?_
                have H_89 := Option.some.inj (show some (decide ((List.getD l_2 (Int.toNat t_11) ((0 : Int), ((0 : Int), ByteArray.empty))).2.1 > base_1)) = some q_79 from H_87); subst H_89
                refine VL_nil ?_
                exact QP_end (decide ((List.getD l_2 (Int.toNat t_11) ((0 : Int), ((0 : Int), ByteArray.empty))).2.1 > base_1)) rfl [] hn (by kernel_rfl) (by kernel_rfl) rfl rfl rfl
          · intro y_82 hy; subst hy
            skip
            skip
            refine VL_cond (y_82) (by kernel_rfl) ?_ ?_
            · intro b_23; have H_90 := of_t H_81 b_23
              refine V_run hN hn 2 2 [4] [0] ⟨[(4, .c (.val (.int .i64 (10 : Int))))], [(0, .row (.pair (.int .i64) (.pair (.int .i64) .str)) l_2)], 2⟩ [] (by kernel_rfl) rfl rfl ap0 ?_
              have H_92 := Option.some.inj (show some (Sum.inl (10 : Int)) = some q_70 from H_90); subst H_92
              have H_93 := Option.some.inj (show some (10 : Int) = some r from H_72); subst H_93
              refine VL_ret ?_
              refine QB_ret ?_
              refine QL_ret ?_
              refine QB_ret ?_
              refine QP_ret ?_
              exact P_to [(4, .c (.val (.int .i64 (10 : Int))))] [(0, .row (.pair (.int .i64) (.pair (.int .i64) .str)) l_2)] [] hn (by kernel_rfl) (by kernel_rfl) rfl rfl rfl (QF_retS (by kernel_rfl) (by kernel_rfl) rfl)
            · intro b_23; have H_91 := of_f H_81 b_23
              refine V_run hN hn 1 2 [0, 1, 15, 16, 17, 36] [0] ⟨[(0, .c (.val (.int .i64 base_1))), (1, .c (.h 0)), (15, .c (.h 0)), (16, .c (.val (.int .i64 (((List.length l_2) : Nat) : Int)))), (17, .c (.val (.int .i64 t_11))), (36, .c (.val (.bool y_82)))], [(0, .row (.pair (.int .i64) (.pair (.int .i64) .str)) l_2)], 2⟩ [] (by kernel_rfl) rfl rfl ap0 ?_
              refine VL_nil (QB_end ?_)
              refine V_run hN hn 1 2 [0, 1, 15, 16, 17] [0] ⟨[(0, .c (.val (.int .i64 base_1))), (1, .c (.h 0)), (15, .c (.h 0)), (16, .c (.val (.int .i64 (((List.length l_2) : Nat) : Int)))), (17, .c (.val (.int .i64 (IntKind.wrap .i64 (t_11 + (1 : Int))))))], [(0, .row (.pair (.int .i64) (.pair (.int .i64) .str)) l_2)], 2⟩ [] (by kernel_rfl) rfl rfl ap0 ?_
              refine VL_nil ?_
              exact V_roundEnd (IntKind.wrap .i64 (t_11 + (1 : Int))) H_91 [] hn (by kernel_rfl) (by kernel_rfl) rfl rfl rfl
        · intro b_14; have H_77 := of_f H_75 b_14
          refine VL_exit ?_
          refine QL_exit ?_
          refine QB_here ?_
          have H_94 := Option.some.inj (show some (Sum.inr ()) = some q_70 from H_77); subst H_94
          refine VL_nil ?_
          exact QP_end () rfl [] hn (by kernel_rfl) (by kernel_rfl) rfl rfl rfl
      · intro y_73 hy; subst hy
        skip
        refine V_run hN hn 2 1 [0, 1] [0] ⟨[(0, .c (.val (.int .i64 base_1))), (1, .c (.h 0))], [(0, .row (.pair (.int .i64) (.pair (.int .i64) .str)) l_2)], 1⟩ [] (by kernel_rfl) rfl rfl ap0 ?_
        obtain ⟨r_28, h_29, H_95⟩ := of_bind H_72
        refine V_reg hN hn [(1, ⟨52, 1, [.c (.h 0)], [(0, .row (.pair (.int .i64) (.pair (.int .i64) .str)) l_2)], .c (.val (.bool r_28)), [(0, .row (.pair (.int .i64) (.pair (.int .i64) .str)) l_2)], [(0, 0)], 1⟩)] [] (calls_cons (delta_Ordered_r_spec K l_2 r_28 h_29) (by kernel_rfl) calls_nil) 1 [0, 1, 40] [0] ⟨[(0, .c (.val (.int .i64 base_1))), (1, .c (.h 0)), (40, .c (.val (.bool (!r_28))))], [(0, .row (.pair (.int .i64) (.pair (.int .i64) .str)) l_2)], 1⟩ [] (by kernel_rfl) rfl rfl ap0 (by kernel_rfl) (by kernel_rfl) ?_
        refine VL_cond ((!r_28)) (by kernel_rfl) ?_ ?_
        · intro b_31; have H_96 := of_t H_95 b_31
          refine V_run hN hn 2 1 [4] [0] ⟨[(4, .c (.val (.int .i64 (180 : Int))))], [(0, .row (.pair (.int .i64) (.pair (.int .i64) .str)) l_2)], 1⟩ [] (by kernel_rfl) rfl rfl ap0 ?_
          have H_98 := Option.some.inj (show some (180 : Int) = some r from H_96); subst H_98
          refine VL_ret ?_
          exact P_to [(4, .c (.val (.int .i64 (180 : Int))))] [(0, .row (.pair (.int .i64) (.pair (.int .i64) .str)) l_2)] [] hn (by kernel_rfl) (by kernel_rfl) rfl rfl rfl (QF_retS (by kernel_rfl) (by kernel_rfl) rfl)
        · intro b_31; have H_97 := of_f H_95 b_31
          refine V_run hN hn 4 1 [0, 1, 41, 42, 43] [0] ⟨[(0, .c (.val (.int .i64 base_1))), (1, .c (.h 0)), (41, .c (.h 0)), (42, .c (.val (.int .i64 (((List.length l_2) : Nat) : Int)))), (43, .c (.val (.int .i64 (0 : Int))))], [(0, .row (.pair (.int .i64) (.pair (.int .i64) .str)) l_2)], 1⟩ [] (by kernel_rfl) rfl rfl ap0 ?_
          obtain ⟨q_99, H_100, H_101⟩ := of_bind H_97
          refine V_cut (Y := Unit) (R := (Int ⊕ Unit)) q_99 (fun y => (Sum.inr y)) (fun y => [(0, .c (.val (.int .i64 base_1))), (1, .c (.h 0))]) (fun y => [(0, .row (.pair (.int .i64) (.pair (.int .i64) .str)) l_2)]) ?_ ?_
          · skip
            refine VL_block ?_
            refine V_to [(0, .c (.val (.int .i64 base_1))), (1, .c (.h 0)), (41, .c (.h 0)), (42, .c (.val (.int .i64 (((List.length l_2) : Nat) : Int)))), (43, .c (.val (.int .i64 (0 : Int))))] [(0, .row (.pair (.int .i64) (.pair (.int .i64) .str)) l_2)] [] hn (by kernel_rfl) (by kernel_rfl) rfl rfl rfl ?_
            refine VL_loop (X := Int) (fun x => [(0, .c (.val (.int .i64 base_1))), (1, .c (.h 0)), (41, .c (.h 0)), (42, .c (.val (.int .i64 (((List.length l_2) : Nat) : Int)))), (43, .c (.val (.int .i64 x)))]) (fun x => [(0, .row (.pair (.int .i64) (.pair (.int .i64) .str)) l_2)]) (fun k x => delta_check_gr.l1 K l_2 k x = some q_99) K (0 : Int) H_100 (fun _ h => no_none h) ?_
            intro k_35 t_34 H_103
            have H_104 : delta_check_gr.l1 K l_2 (k_35 + 1) t_34 = some q_99 := H_103
            rw [delta_check_gr.l1] at H_104
            refine V_run hN hn 3 1 [0, 1, 41, 42, 43, 44] [0] ⟨[(0, .c (.val (.int .i64 base_1))), (1, .c (.h 0)), (41, .c (.h 0)), (42, .c (.val (.int .i64 (((List.length l_2) : Nat) : Int)))), (43, .c (.val (.int .i64 t_34))), (44, .c (.val (.bool (decide (t_34 < (((List.length l_2) : Nat) : Int))))))], [(0, .row (.pair (.int .i64) (.pair (.int .i64) .str)) l_2)], 1⟩ [] (by kernel_rfl) rfl rfl ap0 ?_
            refine VL_cond ((decide (t_34 < (((List.length l_2) : Nat) : Int)))) (by kernel_rfl) ?_ ?_
            · intro b_37; have H_105 := of_t H_104 b_37
              refine V_run hN hn 2 1 [0, 1, 41, 42, 43, 44] [0] ⟨[(0, .c (.val (.int .i64 base_1))), (1, .c (.h 0)), (41, .c (.h 0)), (42, .c (.val (.int .i64 (((List.length l_2) : Nat) : Int)))), (43, .c (.val (.int .i64 t_34))), (44, .c (.val (.bool (decide (t_34 < (((List.length l_2) : Nat) : Int))))))], [(0, .row (.pair (.int .i64) (.pair (.int .i64) .str)) l_2)], 1⟩ [] (by kernel_rfl) rfl rfl ap0 ?_
              refine VL_block ?_
              obtain ⟨c_39, H_107⟩ := of_if H_105
              refine V_run hN hn 3 1 [0, 1, 8, 41, 42, 43] [0, 1] ⟨[(0, .c (.val (.int .i64 base_1))), (1, .c (.h 0)), (8, .c (.h 1)), (41, .c (.h 0)), (42, .c (.val (.int .i64 (((List.length l_2) : Nat) : Int)))), (43, .c (.val (.int .i64 t_34)))], [(0, .row (.pair (.int .i64) (.pair (.int .i64) .str)) l_2), (1, .box [.val (.int .i64 (List.getD l_2 (Int.toNat t_34) ((0 : Int), ((0 : Int), ByteArray.empty))).1), .val (.int .i64 (List.getD l_2 (Int.toNat t_34) ((0 : Int), ((0 : Int), ByteArray.empty))).2.1), .val (.string (List.getD l_2 (Int.toNat t_34) ((0 : Int), ((0 : Int), ByteArray.empty))).2.2)])], 2⟩ [0 ≤ t_34, t_34 < (((List.length l_2) : Nat) : Int)] (by kernel_rfl) rfl rfl (ap2 c_39.1 (ap1 c_39.2)) ?_
              obtain ⟨r_40, h_41, H_108⟩ := of_bind H_107
              refine V_reg hN hn [(2, ⟨27, 0, [.c (.val (.string (List.getD l_2 (Int.toNat t_34) ((0 : Int), ((0 : Int), ByteArray.empty))).2.2))], [], .c (.val (.bool r_40)), [], [], 2⟩)] [] (calls_cons (utf_Valid_spec K (List.getD l_2 (Int.toNat t_34) ((0 : Int), ((0 : Int), ByteArray.empty))).2.2 r_40 h_41) (by kernel_rfl) calls_nil) 2 [0, 1, 41, 42, 43, 50] [0] ⟨[(0, .c (.val (.int .i64 base_1))), (1, .c (.h 0)), (41, .c (.h 0)), (42, .c (.val (.int .i64 (((List.length l_2) : Nat) : Int)))), (43, .c (.val (.int .i64 t_34))), (50, .c (.val (.bool (!r_40))))], [(0, .row (.pair (.int .i64) (.pair (.int .i64) .str)) l_2)], 2⟩ [] (by kernel_rfl) rfl rfl ap0 (by kernel_rfl) (by kernel_rfl) ?_
              refine VL_cond ((!r_40)) (by kernel_rfl) ?_ ?_
              · intro b_43; have H_109 := of_t H_108 b_43
                refine V_run hN hn 2 2 [4] [0] ⟨[(4, .c (.val (.int .i64 (12 : Int))))], [(0, .row (.pair (.int .i64) (.pair (.int .i64) .str)) l_2)], 2⟩ [] (by kernel_rfl) rfl rfl ap0 ?_
                have H_111 := Option.some.inj (show some (Sum.inl (12 : Int)) = some q_99 from H_109); subst H_111
                have H_112 := Option.some.inj (show some (12 : Int) = some r from H_101); subst H_112
                refine VL_ret ?_
                refine QB_ret ?_
                refine QL_ret ?_
                refine QB_ret ?_
                refine QP_ret ?_
                exact P_to [(4, .c (.val (.int .i64 (12 : Int))))] [(0, .row (.pair (.int .i64) (.pair (.int .i64) .str)) l_2)] [] hn (by kernel_rfl) (by kernel_rfl) rfl rfl rfl (QF_retS (by kernel_rfl) (by kernel_rfl) rfl)
              · intro b_43; have H_110 := of_f H_108 b_43
                refine V_run hN hn 1 2 [0, 1, 41, 42, 43, 50] [0] ⟨[(0, .c (.val (.int .i64 base_1))), (1, .c (.h 0)), (41, .c (.h 0)), (42, .c (.val (.int .i64 (((List.length l_2) : Nat) : Int)))), (43, .c (.val (.int .i64 t_34))), (50, .c (.val (.bool (!r_40))))], [(0, .row (.pair (.int .i64) (.pair (.int .i64) .str)) l_2)], 2⟩ [] (by kernel_rfl) rfl rfl ap0 ?_
                refine VL_nil (QB_end ?_)
                refine V_run hN hn 1 2 [0, 1, 41, 42, 43] [0] ⟨[(0, .c (.val (.int .i64 base_1))), (1, .c (.h 0)), (41, .c (.h 0)), (42, .c (.val (.int .i64 (((List.length l_2) : Nat) : Int)))), (43, .c (.val (.int .i64 (IntKind.wrap .i64 (t_34 + (1 : Int))))))], [(0, .row (.pair (.int .i64) (.pair (.int .i64) .str)) l_2)], 2⟩ [] (by kernel_rfl) rfl rfl ap0 ?_
                refine VL_nil ?_
                exact V_roundEnd (IntKind.wrap .i64 (t_34 + (1 : Int))) H_110 [] hn (by kernel_rfl) (by kernel_rfl) rfl rfl rfl
            · intro b_37; have H_106 := of_f H_104 b_37
              refine VL_exit ?_
              refine QL_exit ?_
              refine QB_here ?_
              have H_113 := Option.some.inj (show some (Sum.inr ()) = some q_99 from H_106); subst H_113
              refine VL_nil ?_
              exact QP_end () rfl [] hn (by kernel_rfl) (by kernel_rfl) rfl rfl rfl
          · intro y_102 hy; subst hy
            skip
            refine V_run hN hn 1 1 [0, 1] [0] ⟨[(0, .c (.val (.int .i64 base_1))), (1, .c (.h 0))], [(0, .row (.pair (.int .i64) (.pair (.int .i64) .str)) l_2)], 1⟩ [] (by kernel_rfl) rfl rfl ap0 ?_
            obtain ⟨r_48, h_49, H_114⟩ := of_bind H_101
            refine V_reg hN hn [(2, ⟨53, 1, [.c (.val (.int .i64 base_1)), .c (.h 0)], [(0, .row (.pair (.int .i64) (.pair (.int .i64) .str)) l_2)], .c (.val (.int .i64 r_48)), [(0, .row (.pair (.int .i64) (.pair (.int .i64) .str)) l_2)], [(0, 0)], 1⟩)] [] (calls_cons (delta_long_gr_spec K base_1 l_2 r_48 h_49) (by kernel_rfl) calls_nil) 1 [4] [0] ⟨[(4, .c (.val (.int .i64 r_48)))], [(0, .row (.pair (.int .i64) (.pair (.int .i64) .str)) l_2)], 1⟩ [] (by kernel_rfl) rfl rfl ap0 (by kernel_rfl) (by kernel_rfl) ?_
            have H_115 := Option.some.inj (show some r_48 = some r from H_114); subst H_115
            refine VL_ret ?_
            exact P_to [(4, .c (.val (.int .i64 r_48)))] [(0, .row (.pair (.int .i64) (.pair (.int .i64) .str)) l_2)] [] hn (by kernel_rfl) (by kernel_rfl) rfl rfl rfl (QF_retS (by kernel_rfl) (by kernel_rfl) rfl)

theorem delta_NewMaker_spec (K : Nat) (base_1 : Int) (r : Unit) (H : delta_NewMaker K base_1 = some r) : Spec Try.prog 39 0 [.c (.val (.int .i64 base_1))] [] (.c (.h 0)) [(0, .box [.val (.int .i64 base_1), .val (.slice none 0 0)])] := by
  refine Spec_mk (fn := Try.f39) (c := (Try.f39.body).get!) Try.func39 (by kernel_rfl) rfl ?_
  intro C hN hn
  replace hN : C.N = 7 := hN
  unfold delta_NewMaker at H
  refine V_run hN hn 4 0 [2] [0] ⟨[(2, .c (.h 0))], [(0, .box [.val (.int .i64 base_1), .val (.slice none 0 0)])], 1⟩ [] (by kernel_rfl) rfl rfl ap0 ?_
  have H_3 := Option.some.inj (show some () = some r from H); subst H_3
  refine VL_ret ?_
  exact P_to [(2, .c (.h 0))] [(0, .box [.val (.int .i64 base_1), .val (.slice none 0 0)])] [(0, 0)] hn (by kernel_rfl) (by kernel_rfl) rfl rfl rfl (QF_retS (by kernel_rfl) (by kernel_rfl) rfl)

theorem delta_Maker_Put_bg_92925_spec (K : Nat) (m_1 : Int) (m_2 : (List (Int × (Int × ByteArray)))) (s_3 : ByteArray) (r : (List (Int × (Int × ByteArray)))) (H : delta_Maker_Put_bg_92925 K m_1 m_2 s_3 = some r) : Spec Try.prog 41 2 [.c (.h 0), .c (.val (.string s_3))] [(0, .box [.val (.int .i64 m_1), .h 1]), (1, .row (.pair (.int .i64) (.pair (.int .i64) .str)) m_2)] (.tup []) [(0, .box [.val (.int .i64 m_1), .h 4]), (4, .row (.pair (.int .i64) (.pair (.int .i64) .str)) r)] := by
  refine Spec_mk (fn := Try.f41) (c := (Try.f41.body).get!) Try.func41 (by kernel_rfl) rfl ?_
  intro C hN hn
  replace hN : C.N = 54 := hN
  unfold delta_Maker_Put_bg_92925 at H
  refine V_run hN hn 3 2 [0, 1, 6] [0, 1] ⟨[(0, .c (.h 0)), (1, .c (.val (.string s_3))), (6, .c (.val (.bool (ByteArray.toList s_3 == ByteArray.toList (ByteArray.mk #[])))))], [(0, .box [.val (.int .i64 m_1), .h 1]), (1, .row (.pair (.int .i64) (.pair (.int .i64) .str)) m_2)], 2⟩ [] (by kernel_rfl) rfl rfl ap0 ?_
  refine VL_cond ((ByteArray.toList s_3 == ByteArray.toList (ByteArray.mk #[]))) (by kernel_rfl) ?_ ?_
  · intro b_5; have H_18 := of_t H b_5
    have H_20 := Option.some.inj (show some m_2 = some r from H_18); subst H_20
    refine VL_ret ?_
    exact P_to [] [(0, .box [.val (.int .i64 m_1), .h 4]), (4, .row (.pair (.int .i64) (.pair (.int .i64) .str)) m_2)] [(4, 1)] hn (by kernel_rfl) (by kernel_rfl) rfl rfl rfl (QF_retS (by kernel_rfl) (by kernel_rfl) rfl)
  · intro b_5; have H_19 := of_f H b_5
    refine V_run hN hn 4 2 [0, 1, 4] [0, 1] ⟨[(0, .c (.h 0)), (1, .c (.val (.string s_3))), (4, .c (.val (.int .i64 (IntKind.wrap .i64 ((((List.length m_2) : Nat) : Int) - (1 : Int))))))], [(0, .box [.val (.int .i64 m_1), .h 1]), (1, .row (.pair (.int .i64) (.pair (.int .i64) .str)) m_2)], 2⟩ [] (by kernel_rfl) rfl rfl ap0 ?_
    obtain ⟨q_21, H_22, H_23⟩ := of_bind H_19
    refine V_cut (Y := Bool) (R := Bool) q_21 (fun y => y) (fun y => [(0, .c (.h 0)), (1, .c (.val (.string s_3))), (4, .c (.val (.int .i64 (IntKind.wrap .i64 ((((List.length m_2) : Nat) : Int) - (1 : Int)))))), (27, .c (.val (.bool y)))]) (fun y => [(0, .box [.val (.int .i64 m_1), .h 1]), (1, .row (.pair (.int .i64) (.pair (.int .i64) .str)) m_2)]) ?_ ?_
    · skip
      rcases Bool.eq_false_or_eq_true ((decide ((IntKind.wrap .i64 ((((List.length m_2) : Nat) : Int) - (1 : Int))) ≥ (0 : Int)))) with b_7 | b_7
      · have H_25 := of_t H_22 b_7
        obtain ⟨r_8, h_9, H_27⟩ := of_bind H_25
        obtain ⟨c_10, H_28⟩ := of_if H_27
        refine V_reg hN hn [(11, ⟨49, 0, [.agg [.val (.int .i64 (List.getD m_2 (Int.toNat (IntKind.wrap .i64 ((((List.length m_2) : Nat) : Int) - (1 : Int)))) ((0 : Int), ((0 : Int), ByteArray.empty))).1), .val (.int .i64 (List.getD m_2 (Int.toNat (IntKind.wrap .i64 ((((List.length m_2) : Nat) : Int) - (1 : Int)))) ((0 : Int), ((0 : Int), ByteArray.empty))).2.1), .val (.string (List.getD m_2 (Int.toNat (IntKind.wrap .i64 ((((List.length m_2) : Nat) : Int) - (1 : Int)))) ((0 : Int), ((0 : Int), ByteArray.empty))).2.2)]], [], .c (.val (.bool r_8)), [], [], 2⟩)] [(16, true)] (calls_cons (delta_IsCopy_spec K (List.getD m_2 (Int.toNat (IntKind.wrap .i64 ((((List.length m_2) : Nat) : Int) - (1 : Int)))) ((0 : Int), ((0 : Int), ByteArray.empty))).1 (List.getD m_2 (Int.toNat (IntKind.wrap .i64 ((((List.length m_2) : Nat) : Int) - (1 : Int)))) ((0 : Int), ((0 : Int), ByteArray.empty))).2.1 (List.getD m_2 (Int.toNat (IntKind.wrap .i64 ((((List.length m_2) : Nat) : Int) - (1 : Int)))) ((0 : Int), ((0 : Int), ByteArray.empty))).2.2 r_8 h_9) (by kernel_rfl) calls_nil) 2 [0, 1, 4, 27] [0, 1] ⟨[(0, .c (.h 0)), (1, .c (.val (.string s_3))), (4, .c (.val (.int .i64 (IntKind.wrap .i64 ((((List.length m_2) : Nat) : Int) - (1 : Int)))))), (27, .c (.val (.bool (!r_8))))], [(0, .box [.val (.int .i64 m_1), .h 1]), (1, .row (.pair (.int .i64) (.pair (.int .i64) .str)) m_2)], 2⟩ [(decide ((IntKind.wrap .i64 ((((List.length m_2) : Nat) : Int) - (1 : Int))) ≥ (0 : Int))) = true, 0 ≤ (IntKind.wrap .i64 ((((List.length m_2) : Nat) : Int) - (1 : Int))), (IntKind.wrap .i64 ((((List.length m_2) : Nat) : Int) - (1 : Int))) < (((List.length m_2) : Nat) : Int)] (by kernel_rfl) rfl rfl (ap2 b_7 (ap2 c_10.1 (ap1 c_10.2))) (by kernel_rfl) (by kernel_rfl) ?_
        have H_29 := Option.some.inj (show some (!r_8) = some q_21 from H_28); subst H_29
        refine VL_nil ?_
        exact QP_end (!r_8) rfl [] hn (by kernel_rfl) (by kernel_rfl) rfl rfl rfl
      · have H_26 := of_f H_22 b_7
        refine V_reg hN hn [] [(16, false)] calls_nil 2 [0, 1, 4, 27] [0, 1] ⟨[(0, .c (.h 0)), (1, .c (.val (.string s_3))), (4, .c (.val (.int .i64 (IntKind.wrap .i64 ((((List.length m_2) : Nat) : Int) - (1 : Int)))))), (27, .c (.val (.bool false)))], [(0, .box [.val (.int .i64 m_1), .h 1]), (1, .row (.pair (.int .i64) (.pair (.int .i64) .str)) m_2)], 2⟩ [(decide ((IntKind.wrap .i64 ((((List.length m_2) : Nat) : Int) - (1 : Int))) ≥ (0 : Int))) = false] (by kernel_rfl) rfl rfl (ap1 b_7) (by kernel_rfl) (by kernel_rfl) ?_
        have H_30 := Option.some.inj (show some false = some q_21 from H_26); subst H_30
        refine VL_nil ?_
        exact QP_end false rfl [] hn (by kernel_rfl) (by kernel_rfl) rfl rfl rfl
    · intro y_24 hy; subst hy
      skip
      skip
      refine VL_cond (y_24) (by kernel_rfl) ?_ ?_
      · intro b_13; have H_31 := of_t H_23 b_13
        obtain ⟨c_14, H_33⟩ := of_if H_31
        refine V_run hN hn 1 2 [] [0, 1] ⟨[], [(0, .box [.val (.int .i64 m_1), .h 1]), (1, .row (.pair (.int .i64) (.pair (.int .i64) .str)) (List.set m_2 (Int.toNat (IntKind.wrap .i64 ((((List.length m_2) : Nat) : Int) - (1 : Int)))) ((List.getD m_2 (Int.toNat (IntKind.wrap .i64 ((((List.length m_2) : Nat) : Int) - (1 : Int)))) ((0 : Int), ((0 : Int), ByteArray.empty))).1, ((List.getD m_2 (Int.toNat (IntKind.wrap .i64 ((((List.length m_2) : Nat) : Int) - (1 : Int)))) ((0 : Int), ((0 : Int), ByteArray.empty))).2.1, ((List.getD m_2 (Int.toNat (IntKind.wrap .i64 ((((List.length m_2) : Nat) : Int) - (1 : Int)))) ((0 : Int), ((0 : Int), ByteArray.empty))).2.2 ++ s_3)))))], 2⟩ [0 ≤ (IntKind.wrap .i64 ((((List.length m_2) : Nat) : Int) - (1 : Int))), (IntKind.wrap .i64 ((((List.length m_2) : Nat) : Int) - (1 : Int))) < (((List.length m_2) : Nat) : Int), ByteArray.size (List.getD m_2 (Int.toNat (IntKind.wrap .i64 ((((List.length m_2) : Nat) : Int) - (1 : Int)))) ((0 : Int), ((0 : Int), ByteArray.empty))).2.2 + ByteArray.size s_3 ≤ 9223372036854775807, 0 ≤ (IntKind.wrap .i64 ((((List.length m_2) : Nat) : Int) - (1 : Int))), (IntKind.wrap .i64 ((((List.length m_2) : Nat) : Int) - (1 : Int))) < (((List.length m_2) : Nat) : Int)] (by kernel_rfl) rfl rfl (ap2 c_14.1 (ap2 c_14.2.1 (ap2 c_14.2.2 (ap2 c_14.1 (ap1 c_14.2.1))))) ?_
        have H_34 := Option.some.inj (show some (List.set m_2 (Int.toNat (IntKind.wrap .i64 ((((List.length m_2) : Nat) : Int) - (1 : Int)))) ((List.getD m_2 (Int.toNat (IntKind.wrap .i64 ((((List.length m_2) : Nat) : Int) - (1 : Int)))) ((0 : Int), ((0 : Int), ByteArray.empty))).1, ((List.getD m_2 (Int.toNat (IntKind.wrap .i64 ((((List.length m_2) : Nat) : Int) - (1 : Int)))) ((0 : Int), ((0 : Int), ByteArray.empty))).2.1, ((List.getD m_2 (Int.toNat (IntKind.wrap .i64 ((((List.length m_2) : Nat) : Int) - (1 : Int)))) ((0 : Int), ((0 : Int), ByteArray.empty))).2.2 ++ s_3)))) = some r from H_33); subst H_34
        refine VL_nil ?_
        exact P_to [] [(0, .box [.val (.int .i64 m_1), .h 4]), (4, .row (.pair (.int .i64) (.pair (.int .i64) .str)) (List.set m_2 (Int.toNat (IntKind.wrap .i64 ((((List.length m_2) : Nat) : Int) - (1 : Int)))) ((List.getD m_2 (Int.toNat (IntKind.wrap .i64 ((((List.length m_2) : Nat) : Int) - (1 : Int)))) ((0 : Int), ((0 : Int), ByteArray.empty))).1, ((List.getD m_2 (Int.toNat (IntKind.wrap .i64 ((((List.length m_2) : Nat) : Int) - (1 : Int)))) ((0 : Int), ((0 : Int), ByteArray.empty))).2.1, ((List.getD m_2 (Int.toNat (IntKind.wrap .i64 ((((List.length m_2) : Nat) : Int) - (1 : Int)))) ((0 : Int), ((0 : Int), ByteArray.empty))).2.2 ++ s_3)))))] [(4, 1)] hn (by kernel_rfl) (by kernel_rfl) rfl rfl rfl (QF_endS (by kernel_rfl) (by kernel_rfl) rfl)
      · intro b_13; have H_32 := of_f H_23 b_13
        obtain ⟨c_15, H_35⟩ := of_if H_32
        refine V_run hN hn 1 2 [] [0, 3] ⟨[], [(0, .box [.val (.int .i64 m_1), .h 3]), (3, .row (.pair (.int .i64) (.pair (.int .i64) .str)) (m_2 ++ ([((0 : Int), ((0 : Int), s_3))] : List (Int × (Int × ByteArray)))))], 4⟩ [(List.length m_2 + List.length ([((0 : Int), ((0 : Int), s_3))] : List (Int × (Int × ByteArray)))) * 32 ≤ 140737488355328] (by kernel_rfl) rfl rfl (ap1 c_15) ?_
        have H_36 := Option.some.inj (show some (m_2 ++ ([((0 : Int), ((0 : Int), s_3))] : List (Int × (Int × ByteArray)))) = some r from H_35); subst H_36
        refine VL_nil ?_
        exact P_to [] [(0, .box [.val (.int .i64 m_1), .h 4]), (4, .row (.pair (.int .i64) (.pair (.int .i64) .str)) (m_2 ++ ([((0 : Int), ((0 : Int), s_3))] : List (Int × (Int × ByteArray)))))] [(4, 3)] hn (by kernel_rfl) (by kernel_rfl) rfl rfl rfl (QF_endS (by kernel_rfl) (by kernel_rfl) rfl)

theorem delta_Maker_Copy_bgg_11dec_spec (K : Nat) (m_1 : Int) (m_2 : (List (Int × (Int × ByteArray)))) (from_3 : Int) (to_4 : Int) (r : (List (Int × (Int × ByteArray)))) (H : delta_Maker_Copy_bgg_11dec K m_1 m_2 from_3 to_4 = some r) : Spec Try.prog 40 2 [.c (.h 0), .c (.val (.int .i64 from_3)), .c (.val (.int .i64 to_4))] [(0, .box [.val (.int .i64 m_1), .h 1]), (1, .row (.pair (.int .i64) (.pair (.int .i64) .str)) m_2)] (.tup []) [(0, .box [.val (.int .i64 m_1), .h 4]), (4, .row (.pair (.int .i64) (.pair (.int .i64) .str)) r)] := by
  refine Spec_mk (fn := Try.f40) (c := (Try.f40.body).get!) Try.func40 (by kernel_rfl) rfl ?_
  intro C hN hn
  replace hN : C.N = 66 := hN
  unfold delta_Maker_Copy_bgg_11dec at H
  refine V_run hN hn 3 2 [0, 1, 2, 9] [0, 1] ⟨[(0, .c (.h 0)), (1, .c (.val (.int .i64 from_3))), (2, .c (.val (.int .i64 to_4))), (9, .c (.val (.bool (from_3 == to_4))))], [(0, .box [.val (.int .i64 m_1), .h 1]), (1, .row (.pair (.int .i64) (.pair (.int .i64) .str)) m_2)], 2⟩ [] (by kernel_rfl) rfl rfl ap0 ?_
  refine VL_cond ((from_3 == to_4)) (by kernel_rfl) ?_ ?_
  · intro b_6; have H_21 := of_t H b_6
    have H_23 := Option.some.inj (show some m_2 = some r from H_21); subst H_23
    refine VL_ret ?_
    exact P_to [] [(0, .box [.val (.int .i64 m_1), .h 4]), (4, .row (.pair (.int .i64) (.pair (.int .i64) .str)) m_2)] [(4, 1)] hn (by kernel_rfl) (by kernel_rfl) rfl rfl rfl (QF_retS (by kernel_rfl) (by kernel_rfl) rfl)
  · intro b_6; have H_22 := of_f H b_6
    refine V_run hN hn 4 2 [0, 1, 2, 6] [0, 1] ⟨[(0, .c (.h 0)), (1, .c (.val (.int .i64 from_3))), (2, .c (.val (.int .i64 to_4))), (6, .c (.val (.int .i64 (IntKind.wrap .i64 ((((List.length m_2) : Nat) : Int) - (1 : Int))))))], [(0, .box [.val (.int .i64 m_1), .h 1]), (1, .row (.pair (.int .i64) (.pair (.int .i64) .str)) m_2)], 2⟩ [] (by kernel_rfl) rfl rfl ap0 ?_
    obtain ⟨q_24, H_25, H_26⟩ := of_bind H_22
    refine V_cut (Y := Bool) (R := Bool) q_24 (fun y => y) (fun y => [(0, .c (.h 0)), (1, .c (.val (.int .i64 from_3))), (2, .c (.val (.int .i64 to_4))), (6, .c (.val (.int .i64 (IntKind.wrap .i64 ((((List.length m_2) : Nat) : Int) - (1 : Int)))))), (42, .c (.val (.bool y)))]) (fun y => [(0, .box [.val (.int .i64 m_1), .h 1]), (1, .row (.pair (.int .i64) (.pair (.int .i64) .str)) m_2)]) ?_ ?_
    · skip
      rcases Bool.eq_false_or_eq_true ((decide ((IntKind.wrap .i64 ((((List.length m_2) : Nat) : Int) - (1 : Int))) ≥ (0 : Int)))) with b_8 | b_8
      · have H_28 := of_t H_25 b_8
        obtain ⟨r_9, h_10, H_30⟩ := of_bind H_28
        rcases Bool.eq_false_or_eq_true (r_9) with b_11 | b_11
        · have H_31 := of_t H_30 b_11
          obtain ⟨c_12, H_33⟩ := of_if H_31
          refine V_reg hN hn [(11, ⟨49, 0, [.agg [.val (.int .i64 (List.getD m_2 (Int.toNat (IntKind.wrap .i64 ((((List.length m_2) : Nat) : Int) - (1 : Int)))) ((0 : Int), ((0 : Int), ByteArray.empty))).1), .val (.int .i64 (List.getD m_2 (Int.toNat (IntKind.wrap .i64 ((((List.length m_2) : Nat) : Int) - (1 : Int)))) ((0 : Int), ((0 : Int), ByteArray.empty))).2.1), .val (.string (List.getD m_2 (Int.toNat (IntKind.wrap .i64 ((((List.length m_2) : Nat) : Int) - (1 : Int)))) ((0 : Int), ((0 : Int), ByteArray.empty))).2.2)]], [], .c (.val (.bool r_9)), [], [], 2⟩)] [(19, true), (30, true)] (calls_cons (delta_IsCopy_spec K (List.getD m_2 (Int.toNat (IntKind.wrap .i64 ((((List.length m_2) : Nat) : Int) - (1 : Int)))) ((0 : Int), ((0 : Int), ByteArray.empty))).1 (List.getD m_2 (Int.toNat (IntKind.wrap .i64 ((((List.length m_2) : Nat) : Int) - (1 : Int)))) ((0 : Int), ((0 : Int), ByteArray.empty))).2.1 (List.getD m_2 (Int.toNat (IntKind.wrap .i64 ((((List.length m_2) : Nat) : Int) - (1 : Int)))) ((0 : Int), ((0 : Int), ByteArray.empty))).2.2 r_9 h_10) (by kernel_rfl) calls_nil) 2 [0, 1, 2, 6, 42] [0, 1] ⟨[(0, .c (.h 0)), (1, .c (.val (.int .i64 from_3))), (2, .c (.val (.int .i64 to_4))), (6, .c (.val (.int .i64 (IntKind.wrap .i64 ((((List.length m_2) : Nat) : Int) - (1 : Int)))))), (42, .c (.val (.bool ((List.getD m_2 (Int.toNat (IntKind.wrap .i64 ((((List.length m_2) : Nat) : Int) - (1 : Int)))) ((0 : Int), ((0 : Int), ByteArray.empty))).2.1 == from_3))))], [(0, .box [.val (.int .i64 m_1), .h 1]), (1, .row (.pair (.int .i64) (.pair (.int .i64) .str)) m_2)], 2⟩ [(decide ((IntKind.wrap .i64 ((((List.length m_2) : Nat) : Int) - (1 : Int))) ≥ (0 : Int))) = true, 0 ≤ (IntKind.wrap .i64 ((((List.length m_2) : Nat) : Int) - (1 : Int))), (IntKind.wrap .i64 ((((List.length m_2) : Nat) : Int) - (1 : Int))) < (((List.length m_2) : Nat) : Int), r_9 = true, 0 ≤ (IntKind.wrap .i64 ((((List.length m_2) : Nat) : Int) - (1 : Int))), (IntKind.wrap .i64 ((((List.length m_2) : Nat) : Int) - (1 : Int))) < (((List.length m_2) : Nat) : Int)] (by kernel_rfl) rfl rfl (ap2 b_8 (ap2 c_12.1 (ap2 c_12.2 (ap2 b_11 (ap2 c_12.1 (ap1 c_12.2)))))) (by kernel_rfl) (by kernel_rfl) ?_
          have H_34 := Option.some.inj (show some ((List.getD m_2 (Int.toNat (IntKind.wrap .i64 ((((List.length m_2) : Nat) : Int) - (1 : Int)))) ((0 : Int), ((0 : Int), ByteArray.empty))).2.1 == from_3) = some q_24 from H_33); subst H_34
          refine VL_nil ?_
          exact QP_end ((List.getD m_2 (Int.toNat (IntKind.wrap .i64 ((((List.length m_2) : Nat) : Int) - (1 : Int)))) ((0 : Int), ((0 : Int), ByteArray.empty))).2.1 == from_3) rfl [] hn (by kernel_rfl) (by kernel_rfl) rfl rfl rfl
        · have H_32 := of_f H_30 b_11
          obtain ⟨c_13, H_35⟩ := of_if H_32
          refine V_reg hN hn [(11, ⟨49, 0, [.agg [.val (.int .i64 (List.getD m_2 (Int.toNat (IntKind.wrap .i64 ((((List.length m_2) : Nat) : Int) - (1 : Int)))) ((0 : Int), ((0 : Int), ByteArray.empty))).1), .val (.int .i64 (List.getD m_2 (Int.toNat (IntKind.wrap .i64 ((((List.length m_2) : Nat) : Int) - (1 : Int)))) ((0 : Int), ((0 : Int), ByteArray.empty))).2.1), .val (.string (List.getD m_2 (Int.toNat (IntKind.wrap .i64 ((((List.length m_2) : Nat) : Int) - (1 : Int)))) ((0 : Int), ((0 : Int), ByteArray.empty))).2.2)]], [], .c (.val (.bool r_9)), [], [], 2⟩)] [(19, true), (30, false)] (calls_cons (delta_IsCopy_spec K (List.getD m_2 (Int.toNat (IntKind.wrap .i64 ((((List.length m_2) : Nat) : Int) - (1 : Int)))) ((0 : Int), ((0 : Int), ByteArray.empty))).1 (List.getD m_2 (Int.toNat (IntKind.wrap .i64 ((((List.length m_2) : Nat) : Int) - (1 : Int)))) ((0 : Int), ((0 : Int), ByteArray.empty))).2.1 (List.getD m_2 (Int.toNat (IntKind.wrap .i64 ((((List.length m_2) : Nat) : Int) - (1 : Int)))) ((0 : Int), ((0 : Int), ByteArray.empty))).2.2 r_9 h_10) (by kernel_rfl) calls_nil) 2 [0, 1, 2, 6, 42] [0, 1] ⟨[(0, .c (.h 0)), (1, .c (.val (.int .i64 from_3))), (2, .c (.val (.int .i64 to_4))), (6, .c (.val (.int .i64 (IntKind.wrap .i64 ((((List.length m_2) : Nat) : Int) - (1 : Int)))))), (42, .c (.val (.bool false)))], [(0, .box [.val (.int .i64 m_1), .h 1]), (1, .row (.pair (.int .i64) (.pair (.int .i64) .str)) m_2)], 2⟩ [(decide ((IntKind.wrap .i64 ((((List.length m_2) : Nat) : Int) - (1 : Int))) ≥ (0 : Int))) = true, 0 ≤ (IntKind.wrap .i64 ((((List.length m_2) : Nat) : Int) - (1 : Int))), (IntKind.wrap .i64 ((((List.length m_2) : Nat) : Int) - (1 : Int))) < (((List.length m_2) : Nat) : Int), r_9 = false] (by kernel_rfl) rfl rfl (ap2 b_8 (ap2 c_13.1 (ap2 c_13.2 (ap1 b_11)))) (by kernel_rfl) (by kernel_rfl) ?_
          have H_36 := Option.some.inj (show some false = some q_24 from H_35); subst H_36
          refine VL_nil ?_
          exact QP_end false rfl [] hn (by kernel_rfl) (by kernel_rfl) rfl rfl rfl
      · have H_29 := of_f H_25 b_8
        refine V_reg hN hn [] [(19, false)] calls_nil 2 [0, 1, 2, 6, 42] [0, 1] ⟨[(0, .c (.h 0)), (1, .c (.val (.int .i64 from_3))), (2, .c (.val (.int .i64 to_4))), (6, .c (.val (.int .i64 (IntKind.wrap .i64 ((((List.length m_2) : Nat) : Int) - (1 : Int)))))), (42, .c (.val (.bool false)))], [(0, .box [.val (.int .i64 m_1), .h 1]), (1, .row (.pair (.int .i64) (.pair (.int .i64) .str)) m_2)], 2⟩ [(decide ((IntKind.wrap .i64 ((((List.length m_2) : Nat) : Int) - (1 : Int))) ≥ (0 : Int))) = false] (by kernel_rfl) rfl rfl (ap1 b_8) (by kernel_rfl) (by kernel_rfl) ?_
        have H_37 := Option.some.inj (show some false = some q_24 from H_29); subst H_37
        refine VL_nil ?_
        exact QP_end false rfl [] hn (by kernel_rfl) (by kernel_rfl) rfl rfl rfl
    · intro y_27 hy; subst hy
      skip
      skip
      refine VL_cond (y_27) (by kernel_rfl) ?_ ?_
      · intro b_16; have H_38 := of_t H_26 b_16
        obtain ⟨c_17, H_40⟩ := of_if H_38
        refine V_run hN hn 1 2 [] [0, 1] ⟨[], [(0, .box [.val (.int .i64 m_1), .h 1]), (1, .row (.pair (.int .i64) (.pair (.int .i64) .str)) (List.set m_2 (Int.toNat (IntKind.wrap .i64 ((((List.length m_2) : Nat) : Int) - (1 : Int)))) ((List.getD m_2 (Int.toNat (IntKind.wrap .i64 ((((List.length m_2) : Nat) : Int) - (1 : Int)))) ((0 : Int), ((0 : Int), ByteArray.empty))).1, (to_4, (List.getD m_2 (Int.toNat (IntKind.wrap .i64 ((((List.length m_2) : Nat) : Int) - (1 : Int)))) ((0 : Int), ((0 : Int), ByteArray.empty))).2.2))))], 2⟩ [0 ≤ (IntKind.wrap .i64 ((((List.length m_2) : Nat) : Int) - (1 : Int))), (IntKind.wrap .i64 ((((List.length m_2) : Nat) : Int) - (1 : Int))) < (((List.length m_2) : Nat) : Int)] (by kernel_rfl) rfl rfl (ap2 c_17.1 (ap1 c_17.2)) ?_
        have H_41 := Option.some.inj (show some (List.set m_2 (Int.toNat (IntKind.wrap .i64 ((((List.length m_2) : Nat) : Int) - (1 : Int)))) ((List.getD m_2 (Int.toNat (IntKind.wrap .i64 ((((List.length m_2) : Nat) : Int) - (1 : Int)))) ((0 : Int), ((0 : Int), ByteArray.empty))).1, (to_4, (List.getD m_2 (Int.toNat (IntKind.wrap .i64 ((((List.length m_2) : Nat) : Int) - (1 : Int)))) ((0 : Int), ((0 : Int), ByteArray.empty))).2.2))) = some r from H_40); subst H_41
        refine VL_nil ?_
        exact P_to [] [(0, .box [.val (.int .i64 m_1), .h 4]), (4, .row (.pair (.int .i64) (.pair (.int .i64) .str)) (List.set m_2 (Int.toNat (IntKind.wrap .i64 ((((List.length m_2) : Nat) : Int) - (1 : Int)))) ((List.getD m_2 (Int.toNat (IntKind.wrap .i64 ((((List.length m_2) : Nat) : Int) - (1 : Int)))) ((0 : Int), ((0 : Int), ByteArray.empty))).1, (to_4, (List.getD m_2 (Int.toNat (IntKind.wrap .i64 ((((List.length m_2) : Nat) : Int) - (1 : Int)))) ((0 : Int), ((0 : Int), ByteArray.empty))).2.2))))] [(4, 1)] hn (by kernel_rfl) (by kernel_rfl) rfl rfl rfl (QF_endS (by kernel_rfl) (by kernel_rfl) rfl)
      · intro b_16; have H_39 := of_f H_26 b_16
        obtain ⟨c_18, H_42⟩ := of_if H_39
        refine V_run hN hn 1 2 [] [0, 3] ⟨[], [(0, .box [.val (.int .i64 m_1), .h 3]), (3, .row (.pair (.int .i64) (.pair (.int .i64) .str)) (m_2 ++ ([(from_3, (to_4, ByteArray.empty))] : List (Int × (Int × ByteArray)))))], 4⟩ [(List.length m_2 + List.length ([(from_3, (to_4, ByteArray.empty))] : List (Int × (Int × ByteArray)))) * 32 ≤ 140737488355328] (by kernel_rfl) rfl rfl (ap1 c_18) ?_
        have H_43 := Option.some.inj (show some (m_2 ++ ([(from_3, (to_4, ByteArray.empty))] : List (Int × (Int × ByteArray)))) = some r from H_42); subst H_43
        refine VL_nil ?_
        exact P_to [] [(0, .box [.val (.int .i64 m_1), .h 4]), (4, .row (.pair (.int .i64) (.pair (.int .i64) .str)) (m_2 ++ ([(from_3, (to_4, ByteArray.empty))] : List (Int × (Int × ByteArray)))))] [(4, 3)] hn (by kernel_rfl) (by kernel_rfl) rfl rfl rfl (QF_endS (by kernel_rfl) (by kernel_rfl) rfl)

theorem delta_Maker_Delta_b_ee1c6_spec (K : Nat) (m_1 : Int) (m_2 : (List (Int × (Int × ByteArray)))) (r : (Int × (List (Int × (Int × ByteArray))) × Int)) (H : delta_Maker_Delta_b_ee1c6 K m_1 m_2 = some r) : Spec Try.prog 42 1 [.c (.h 0)] [(0, .box [.val (.int .i64 m_1), .imm (.slice (.pair (.int .i64) (.pair (.int .i64) .str))) m_2])] (.tup [(true, [.val (.int .i64 r.1), .imm (.slice (.pair (.int .i64) (.pair (.int .i64) .str))) r.2.1]), (false, [.val (.int .i64 r.2.2)])]) [(0, .box [.val (.int .i64 m_1), .imm (.slice (.pair (.int .i64) (.pair (.int .i64) .str))) m_2])] := by
  refine Spec_mk (fn := Try.f42) (c := (Try.f42.body).get!) Try.func42 (by kernel_rfl) rfl ?_
  intro C hN hn
  replace hN : C.N = 16 := hN
  unfold delta_Maker_Delta_b_ee1c6 at H
  refine V_run hN hn 5 1 [0, 2, 10] [0, 1] ⟨[(0, .c (.h 0)), (2, .c (.h 1)), (10, .c (.val (.bool (decide ((((List.length m_2) : Nat) : Int) > (60 : Int))))))], [(0, .box [.val (.int .i64 m_1), .imm (.slice (.pair (.int .i64) (.pair (.int .i64) .str))) m_2]), (1, .box [.val (.int .i64 (0 : Int)), .val (.slice none 0 0)])], 2⟩ [] (by kernel_rfl) rfl rfl ap0 ?_
  refine VL_cond ((decide ((((List.length m_2) : Nat) : Int) > (60 : Int)))) (by kernel_rfl) ?_ ?_
  · intro b_4; have H_10 := of_t H b_4
    refine V_run hN hn 2 2 [2, 3] [0, 1] ⟨[(2, .c (.h 1)), (3, .c (.val (.int .i64 (70 : Int))))], [(0, .box [.val (.int .i64 m_1), .imm (.slice (.pair (.int .i64) (.pair (.int .i64) .str))) m_2]), (1, .box [.val (.int .i64 (0 : Int)), .val (.slice none 0 0)])], 2⟩ [] (by kernel_rfl) rfl rfl ap0 ?_
    have H_12 := Option.some.inj (show some ((0 : Int), ([] : List (Int × (Int × ByteArray))), (70 : Int)) = some r from H_10); subst H_12
    refine VL_ret ?_
    refine P_ghost [.readCell 1 1 (.slice (.pair (.int .i64) (.pair (.int .i64) .str)))] 2 hn [2, 3] [0, 1] ⟨[(2, .c (.h 1)), (3, .c (.val (.int .i64 (70 : Int))))], [(0, .box [.val (.int .i64 m_1), .imm (.slice (.pair (.int .i64) (.pair (.int .i64) .str))) m_2]), (1, .box [.val (.int .i64 (0 : Int)), .imm (.slice (.pair (.int .i64) (.pair (.int .i64) .str))) ([] : List (Int × (Int × ByteArray)))])], 2⟩ (by kernel_rfl) rfl rfl ?_
    exact P_to [(2, .c (.h 1)), (3, .c (.val (.int .i64 (70 : Int))))] [(0, .box [.val (.int .i64 m_1), .imm (.slice (.pair (.int .i64) (.pair (.int .i64) .str))) m_2]), (1, .box [.val (.int .i64 (0 : Int)), .imm (.slice (.pair (.int .i64) (.pair (.int .i64) .str))) ([] : List (Int × (Int × ByteArray)))])] [(1, 1)] hn (by kernel_rfl) (by kernel_rfl) rfl rfl rfl (QF_retS (by kernel_rfl) (by kernel_rfl) rfl)
  · intro b_4; have H_11 := of_f H b_4
    refine V_run hN hn 3 2 [2, 3] [0, 1] ⟨[(2, .c (.h 1)), (3, .c (.val (.int .i64 (0 : Int))))], [(0, .box [.val (.int .i64 m_1), .imm (.slice (.pair (.int .i64) (.pair (.int .i64) .str))) m_2]), (1, .box [.val (.int .i64 m_1), .imm (.slice (.pair (.int .i64) (.pair (.int .i64) .str))) m_2])], 2⟩ [] (by kernel_rfl) rfl rfl ap0 ?_
    have H_13 := Option.some.inj (show some (m_1, m_2, (0 : Int)) = some r from H_11); subst H_13
    refine VL_ret ?_
    exact P_to [(2, .c (.h 1)), (3, .c (.val (.int .i64 (0 : Int))))] [(0, .box [.val (.int .i64 m_1), .imm (.slice (.pair (.int .i64) (.pair (.int .i64) .str))) m_2]), (1, .box [.val (.int .i64 m_1), .imm (.slice (.pair (.int .i64) (.pair (.int .i64) .str))) m_2])] [(1, 1)] hn (by kernel_rfl) (by kernel_rfl) rfl rfl rfl (QF_retS (by kernel_rfl) (by kernel_rfl) rfl)

theorem delta_Build_gr_spec (K : Nat) (base_1 : Int) (l_2 : (List (Int × (Int × ByteArray)))) (r : (Int × (List (Int × (Int × ByteArray))) × Int)) (H : delta_Build_gr K base_1 l_2 = some r) : Spec Try.prog 26 1 [.c (.val (.int .i64 base_1)), .c (.h 0)] [(0, .row (.pair (.int .i64) (.pair (.int .i64) .str)) l_2)] (.tup [(true, [.val (.int .i64 r.1), .imm (.slice (.pair (.int .i64) (.pair (.int .i64) .str))) r.2.1]), (false, [.val (.int .i64 r.2.2)])]) [(0, .row (.pair (.int .i64) (.pair (.int .i64) .str)) l_2)] := by
  refine Spec_mk (fn := Try.f26) (c := (Try.f26.body).get!) Try.func26 (by kernel_rfl) rfl ?_
  intro C hN hn
  replace hN : C.N = 46 := hN
  unfold delta_Build_gr at H
  refine V_run hN hn 4 1 [0, 1, 4] [0, 1] ⟨[(0, .c (.val (.int .i64 base_1))), (1, .c (.h 0)), (4, .c (.h 1))], [(0, .row (.pair (.int .i64) (.pair (.int .i64) .str)) l_2), (1, .box [.val (.int .i64 (0 : Int)), .val (.slice none 0 0)])], 2⟩ [] (by kernel_rfl) rfl rfl ap0 ?_
  obtain ⟨r_4, h_5, H_60⟩ := of_bind H
  refine V_reg hN hn [(2, ⟨38, 1, [.c (.val (.int .i64 base_1)), .c (.h 0)], [(0, .row (.pair (.int .i64) (.pair (.int .i64) .str)) l_2)], .c (.val (.int .i64 r_4)), [(0, .row (.pair (.int .i64) (.pair (.int .i64) .str)) l_2)], [(0, 0)], 2⟩)] [] (calls_cons (delta_check_gr_spec K base_1 l_2 r_4 h_5) (by kernel_rfl) calls_nil) 2 [0, 1, 4, 6] [0, 1] ⟨[(0, .c (.val (.int .i64 base_1))), (1, .c (.h 0)), (4, .c (.h 1)), (6, .c (.val (.int .i64 r_4)))], [(0, .row (.pair (.int .i64) (.pair (.int .i64) .str)) l_2), (1, .box [.val (.int .i64 (0 : Int)), .val (.slice none 0 0)])], 2⟩ [] (by kernel_rfl) rfl rfl ap0 (by kernel_rfl) (by kernel_rfl) ?_
  refine V_run hN hn 2 2 [0, 1, 4, 6, 15] [0, 1] ⟨[(0, .c (.val (.int .i64 base_1))), (1, .c (.h 0)), (4, .c (.h 1)), (6, .c (.val (.int .i64 r_4))), (15, .c (.val (.bool (r_4 != (0 : Int)))))], [(0, .row (.pair (.int .i64) (.pair (.int .i64) .str)) l_2), (1, .box [.val (.int .i64 (0 : Int)), .val (.slice none 0 0)])], 2⟩ [] (by kernel_rfl) rfl rfl ap0 ?_
  refine VL_cond ((r_4 != (0 : Int))) (by kernel_rfl) ?_ ?_
  · intro b_8; have H_61 := of_t H_60 b_8
    refine V_run hN hn 2 2 [4, 5] [0, 1] ⟨[(4, .c (.h 1)), (5, .c (.val (.int .i64 r_4)))], [(0, .row (.pair (.int .i64) (.pair (.int .i64) .str)) l_2), (1, .box [.val (.int .i64 (0 : Int)), .val (.slice none 0 0)])], 2⟩ [] (by kernel_rfl) rfl rfl ap0 ?_
    have H_63 := Option.some.inj (show some ((0 : Int), ([] : List (Int × (Int × ByteArray))), r_4) = some r from H_61); subst H_63
    refine VL_ret ?_
    refine P_ghost [.readCell 1 1 (.slice (.pair (.int .i64) (.pair (.int .i64) .str)))] 2 hn [4, 5] [0, 1] ⟨[(4, .c (.h 1)), (5, .c (.val (.int .i64 r_4)))], [(0, .row (.pair (.int .i64) (.pair (.int .i64) .str)) l_2), (1, .box [.val (.int .i64 (0 : Int)), .imm (.slice (.pair (.int .i64) (.pair (.int .i64) .str))) ([] : List (Int × (Int × ByteArray)))])], 2⟩ (by kernel_rfl) rfl rfl ?_
    exact P_to [(4, .c (.h 1)), (5, .c (.val (.int .i64 r_4)))] [(0, .row (.pair (.int .i64) (.pair (.int .i64) .str)) l_2), (1, .box [.val (.int .i64 (0 : Int)), .imm (.slice (.pair (.int .i64) (.pair (.int .i64) .str))) ([] : List (Int × (Int × ByteArray)))])] [(1, 1)] hn (by kernel_rfl) (by kernel_rfl) rfl rfl rfl (QF_retS (by kernel_rfl) (by kernel_rfl) rfl)
  · intro b_8; have H_62 := of_f H_60 b_8
    refine V_run hN hn 2 2 [0, 1, 4, 6, 15] [0, 1] ⟨[(0, .c (.val (.int .i64 base_1))), (1, .c (.h 0)), (4, .c (.h 1)), (6, .c (.val (.int .i64 r_4))), (15, .c (.val (.bool (r_4 != (0 : Int)))))], [(0, .row (.pair (.int .i64) (.pair (.int .i64) .str)) l_2), (1, .box [.val (.int .i64 (0 : Int)), .val (.slice none 0 0)])], 2⟩ [] (by kernel_rfl) rfl rfl ap0 ?_
    obtain ⟨r_11, h_12, H_64⟩ := of_bind H_62
    refine V_reg hN hn [(1, ⟨39, 0, [.c (.val (.int .i64 base_1))], [], .c (.h 0), [(0, .box [.val (.int .i64 base_1), .val (.slice none 0 0)])], [(0, 2)], 3⟩)] [] (calls_cons (delta_NewMaker_spec K base_1 r_11 h_12) (by kernel_rfl) calls_nil) 2 [0, 1, 4, 7] [0, 1, 2] ⟨[(0, .c (.val (.int .i64 base_1))), (1, .c (.h 0)), (4, .c (.h 1)), (7, .c (.h 2))], [(0, .row (.pair (.int .i64) (.pair (.int .i64) .str)) l_2), (1, .box [.val (.int .i64 (0 : Int)), .val (.slice none 0 0)]), (2, .box [.val (.int .i64 base_1), .val (.slice none 0 0)])], 3⟩ [] (by kernel_rfl) rfl rfl ap0 (by kernel_rfl) (by kernel_rfl) ?_
    refine V_run hN hn 5 3 [0, 4, 7, 8, 20, 21, 22] [0, 1, 2] ⟨[(0, .c (.val (.int .i64 base_1))), (4, .c (.h 1)), (7, .c (.h 2)), (8, .c (.val (.int .i64 (0 : Int)))), (20, .c (.h 0)), (21, .c (.val (.int .i64 (((List.length l_2) : Nat) : Int)))), (22, .c (.val (.int .i64 (0 : Int))))], [(0, .row (.pair (.int .i64) (.pair (.int .i64) .str)) l_2), (1, .box [.val (.int .i64 (0 : Int)), .val (.slice none 0 0)]), (2, .box [.val (.int .i64 base_1), .val (.slice none 0 0)])], 3⟩ [] (by kernel_rfl) rfl rfl ap0 ?_
    obtain ⟨q_65, H_66, H_67⟩ := of_bind H_64
    refine V_cut (Y := ((List (Int × (Int × ByteArray))) × Int)) (R := ((List (Int × (Int × ByteArray))) × Int)) q_65 (fun y => y) (fun y => [(0, .c (.val (.int .i64 base_1))), (4, .c (.h 1)), (7, .c (.h 2)), (8, .c (.val (.int .i64 y.2)))]) (fun y => [(0, .row (.pair (.int .i64) (.pair (.int .i64) .str)) l_2), (1, .box [.val (.int .i64 (0 : Int)), .val (.slice none 0 0)]), (2, .box [.val (.int .i64 base_1), .h 6]), (6, .row (.pair (.int .i64) (.pair (.int .i64) .str)) y.1)]) ?_ ?_
    · skip
      refine VL_block ?_
      refine V_ghost [.nilCell 2 1 (.pair (.int .i64) (.pair (.int .i64) .str))] 3 hn [0, 4, 7, 8, 20, 21, 22] [0, 1, 2, 3] ⟨[(0, .c (.val (.int .i64 base_1))), (4, .c (.h 1)), (7, .c (.h 2)), (8, .c (.val (.int .i64 (0 : Int)))), (20, .c (.h 0)), (21, .c (.val (.int .i64 (((List.length l_2) : Nat) : Int)))), (22, .c (.val (.int .i64 (0 : Int))))], [(0, .row (.pair (.int .i64) (.pair (.int .i64) .str)) l_2), (1, .box [.val (.int .i64 (0 : Int)), .val (.slice none 0 0)]), (2, .box [.val (.int .i64 base_1), .h 3]), (3, .row (.pair (.int .i64) (.pair (.int .i64) .str)) ([] : List (Int × (Int × ByteArray))))], 4⟩ (by kernel_rfl) rfl rfl ?_
      refine V_to [(0, .c (.val (.int .i64 base_1))), (4, .c (.h 1)), (7, .c (.h 2)), (8, .c (.val (.int .i64 (0 : Int)))), (20, .c (.h 0)), (21, .c (.val (.int .i64 (((List.length l_2) : Nat) : Int)))), (22, .c (.val (.int .i64 (0 : Int))))] [(0, .row (.pair (.int .i64) (.pair (.int .i64) .str)) l_2), (1, .box [.val (.int .i64 (0 : Int)), .val (.slice none 0 0)]), (2, .box [.val (.int .i64 base_1), .h 6]), (6, .row (.pair (.int .i64) (.pair (.int .i64) .str)) ([] : List (Int × (Int × ByteArray))))] [(1, 1), (2, 2), (6, 3)] hn (by kernel_rfl) (by kernel_rfl) rfl rfl rfl ?_
      refine VL_loop (X := ((List (Int × (Int × ByteArray))) × Int × Int)) (fun x => [(0, .c (.val (.int .i64 base_1))), (4, .c (.h 1)), (7, .c (.h 2)), (8, .c (.val (.int .i64 x.2.1))), (20, .c (.h 0)), (21, .c (.val (.int .i64 (((List.length l_2) : Nat) : Int)))), (22, .c (.val (.int .i64 x.2.2)))]) (fun x => [(0, .row (.pair (.int .i64) (.pair (.int .i64) .str)) l_2), (1, .box [.val (.int .i64 (0 : Int)), .val (.slice none 0 0)]), (2, .box [.val (.int .i64 base_1), .h 6]), (6, .row (.pair (.int .i64) (.pair (.int .i64) .str)) x.1)]) (fun k x => delta_Build_gr.l0 K l_2 base_1 k x.1 x.2.1 x.2.2 = some q_65) K (([] : List (Int × (Int × ByteArray))), (0 : Int), (0 : Int)) H_66 (fun _ h => no_none h) ?_
      intro k_32 x_32 H_69
      obtain ⟨x_31, at_15, t_16⟩ := x_32
      have H_70 : delta_Build_gr.l0 K l_2 base_1 (k_32 + 1) x_31 at_15 t_16 = some q_65 := H_69
      rw [delta_Build_gr.l0] at H_70
      refine V_run hN hn 3 7 [0, 4, 7, 8, 20, 21, 22, 23] [0, 1, 2, 6] ⟨[(0, .c (.val (.int .i64 base_1))), (4, .c (.h 1)), (7, .c (.h 2)), (8, .c (.val (.int .i64 at_15))), (20, .c (.h 0)), (21, .c (.val (.int .i64 (((List.length l_2) : Nat) : Int)))), (22, .c (.val (.int .i64 t_16))), (23, .c (.val (.bool (decide (t_16 < (((List.length l_2) : Nat) : Int))))))], [(0, .row (.pair (.int .i64) (.pair (.int .i64) .str)) l_2), (1, .box [.val (.int .i64 (0 : Int)), .val (.slice none 0 0)]), (2, .box [.val (.int .i64 base_1), .h 6]), (6, .row (.pair (.int .i64) (.pair (.int .i64) .str)) x_31)], 7⟩ [] (by kernel_rfl) rfl rfl ap0 ?_
      refine VL_cond ((decide (t_16 < (((List.length l_2) : Nat) : Int)))) (by kernel_rfl) ?_ ?_
      · intro b_34; have H_71 := of_t H_70 b_34
        refine V_run hN hn 2 7 [0, 4, 7, 8, 20, 21, 22, 23] [0, 1, 2, 6] ⟨[(0, .c (.val (.int .i64 base_1))), (4, .c (.h 1)), (7, .c (.h 2)), (8, .c (.val (.int .i64 at_15))), (20, .c (.h 0)), (21, .c (.val (.int .i64 (((List.length l_2) : Nat) : Int)))), (22, .c (.val (.int .i64 t_16))), (23, .c (.val (.bool (decide (t_16 < (((List.length l_2) : Nat) : Int))))))], [(0, .row (.pair (.int .i64) (.pair (.int .i64) .str)) l_2), (1, .box [.val (.int .i64 (0 : Int)), .val (.slice none 0 0)]), (2, .box [.val (.int .i64 base_1), .h 6]), (6, .row (.pair (.int .i64) (.pair (.int .i64) .str)) x_31)], 7⟩ [] (by kernel_rfl) rfl rfl ap0 ?_
        refine VL_block ?_
        obtain ⟨c_36, H_73⟩ := of_if H_71
        refine V_run hN hn 3 7 [0, 4, 7, 8, 10, 20, 21, 22] [0, 1, 2, 6, 7] ⟨[(0, .c (.val (.int .i64 base_1))), (4, .c (.h 1)), (7, .c (.h 2)), (8, .c (.val (.int .i64 at_15))), (10, .c (.h 7)), (20, .c (.h 0)), (21, .c (.val (.int .i64 (((List.length l_2) : Nat) : Int)))), (22, .c (.val (.int .i64 t_16)))], [(0, .row (.pair (.int .i64) (.pair (.int .i64) .str)) l_2), (1, .box [.val (.int .i64 (0 : Int)), .val (.slice none 0 0)]), (2, .box [.val (.int .i64 base_1), .h 6]), (6, .row (.pair (.int .i64) (.pair (.int .i64) .str)) x_31), (7, .box [.val (.int .i64 (List.getD l_2 (Int.toNat t_16) ((0 : Int), ((0 : Int), ByteArray.empty))).1), .val (.int .i64 (List.getD l_2 (Int.toNat t_16) ((0 : Int), ((0 : Int), ByteArray.empty))).2.1), .val (.string (List.getD l_2 (Int.toNat t_16) ((0 : Int), ((0 : Int), ByteArray.empty))).2.2)])], 8⟩ [0 ≤ t_16, t_16 < (((List.length l_2) : Nat) : Int)] (by kernel_rfl) rfl rfl (ap2 c_36.1 (ap1 c_36.2)) ?_
        obtain ⟨r_37, h_38, H_74⟩ := of_bind H_73
        refine V_reg hN hn [(4, ⟨40, 2, [.c (.h 0), .c (.val (.int .i64 at_15)), .c (.val (.int .i64 (List.getD l_2 (Int.toNat t_16) ((0 : Int), ((0 : Int), ByteArray.empty))).1))], [(0, .box [.val (.int .i64 base_1), .h 1]), (1, .row (.pair (.int .i64) (.pair (.int .i64) .str)) x_31)], .tup [], [(0, .box [.val (.int .i64 base_1), .h 4]), (4, .row (.pair (.int .i64) (.pair (.int .i64) .str)) r_37)], [(0, 2), (1, 6), (4, 8)], 9⟩)] [] (calls_cons (delta_Maker_Copy_bgg_11dec_spec K base_1 x_31 at_15 (List.getD l_2 (Int.toNat t_16) ((0 : Int), ((0 : Int), ByteArray.empty))).1 r_37 h_38) (by kernel_rfl) calls_nil) 8 [0, 4, 7, 10, 20, 21, 22] [0, 1, 2, 7, 8] ⟨[(0, .c (.val (.int .i64 base_1))), (4, .c (.h 1)), (7, .c (.h 2)), (10, .c (.h 7)), (20, .c (.h 0)), (21, .c (.val (.int .i64 (((List.length l_2) : Nat) : Int)))), (22, .c (.val (.int .i64 t_16)))], [(0, .row (.pair (.int .i64) (.pair (.int .i64) .str)) l_2), (1, .box [.val (.int .i64 (0 : Int)), .val (.slice none 0 0)]), (2, .box [.val (.int .i64 base_1), .h 8]), (7, .box [.val (.int .i64 (List.getD l_2 (Int.toNat t_16) ((0 : Int), ((0 : Int), ByteArray.empty))).1), .val (.int .i64 (List.getD l_2 (Int.toNat t_16) ((0 : Int), ((0 : Int), ByteArray.empty))).2.1), .val (.string (List.getD l_2 (Int.toNat t_16) ((0 : Int), ((0 : Int), ByteArray.empty))).2.2)]), (8, .row (.pair (.int .i64) (.pair (.int .i64) .str)) r_37)], 9⟩ [] (by kernel_rfl) rfl rfl ap0 (by kernel_rfl) (by kernel_rfl) ?_
        refine V_run hN hn 1 9 [0, 4, 7, 10, 20, 21, 22] [0, 1, 2, 7, 8] ⟨[(0, .c (.val (.int .i64 base_1))), (4, .c (.h 1)), (7, .c (.h 2)), (10, .c (.h 7)), (20, .c (.h 0)), (21, .c (.val (.int .i64 (((List.length l_2) : Nat) : Int)))), (22, .c (.val (.int .i64 t_16)))], [(0, .row (.pair (.int .i64) (.pair (.int .i64) .str)) l_2), (1, .box [.val (.int .i64 (0 : Int)), .val (.slice none 0 0)]), (2, .box [.val (.int .i64 base_1), .h 8]), (7, .box [.val (.int .i64 (List.getD l_2 (Int.toNat t_16) ((0 : Int), ((0 : Int), ByteArray.empty))).1), .val (.int .i64 (List.getD l_2 (Int.toNat t_16) ((0 : Int), ((0 : Int), ByteArray.empty))).2.1), .val (.string (List.getD l_2 (Int.toNat t_16) ((0 : Int), ((0 : Int), ByteArray.empty))).2.2)]), (8, .row (.pair (.int .i64) (.pair (.int .i64) .str)) r_37)], 9⟩ [] (by kernel_rfl) rfl rfl ap0 ?_
        obtain ⟨r_41, h_42, H_75⟩ := of_bind H_74
        refine V_reg hN hn [(3, ⟨41, 2, [.c (.h 0), .c (.val (.string (List.getD l_2 (Int.toNat t_16) ((0 : Int), ((0 : Int), ByteArray.empty))).2.2))], [(0, .box [.val (.int .i64 base_1), .h 1]), (1, .row (.pair (.int .i64) (.pair (.int .i64) .str)) r_37)], .tup [], [(0, .box [.val (.int .i64 base_1), .h 4]), (4, .row (.pair (.int .i64) (.pair (.int .i64) .str)) r_41)], [(0, 2), (1, 8), (4, 9)], 10⟩)] [] (calls_cons (delta_Maker_Put_bg_92925_spec K base_1 r_37 (List.getD l_2 (Int.toNat t_16) ((0 : Int), ((0 : Int), ByteArray.empty))).2.2 r_41 h_42) (by kernel_rfl) calls_nil) 9 [0, 4, 7, 10, 20, 21, 22] [0, 1, 2, 7, 9] ⟨[(0, .c (.val (.int .i64 base_1))), (4, .c (.h 1)), (7, .c (.h 2)), (10, .c (.h 7)), (20, .c (.h 0)), (21, .c (.val (.int .i64 (((List.length l_2) : Nat) : Int)))), (22, .c (.val (.int .i64 t_16)))], [(0, .row (.pair (.int .i64) (.pair (.int .i64) .str)) l_2), (1, .box [.val (.int .i64 (0 : Int)), .val (.slice none 0 0)]), (2, .box [.val (.int .i64 base_1), .h 9]), (7, .box [.val (.int .i64 (List.getD l_2 (Int.toNat t_16) ((0 : Int), ((0 : Int), ByteArray.empty))).1), .val (.int .i64 (List.getD l_2 (Int.toNat t_16) ((0 : Int), ((0 : Int), ByteArray.empty))).2.1), .val (.string (List.getD l_2 (Int.toNat t_16) ((0 : Int), ((0 : Int), ByteArray.empty))).2.2)]), (9, .row (.pair (.int .i64) (.pair (.int .i64) .str)) r_41)], 10⟩ [] (by kernel_rfl) rfl rfl ap0 (by kernel_rfl) (by kernel_rfl) ?_
        refine V_run hN hn 1 10 [0, 4, 7, 8, 20, 21, 22] [0, 1, 2, 9] ⟨[(0, .c (.val (.int .i64 base_1))), (4, .c (.h 1)), (7, .c (.h 2)), (8, .c (.val (.int .i64 (List.getD l_2 (Int.toNat t_16) ((0 : Int), ((0 : Int), ByteArray.empty))).2.1))), (20, .c (.h 0)), (21, .c (.val (.int .i64 (((List.length l_2) : Nat) : Int)))), (22, .c (.val (.int .i64 t_16)))], [(0, .row (.pair (.int .i64) (.pair (.int .i64) .str)) l_2), (1, .box [.val (.int .i64 (0 : Int)), .val (.slice none 0 0)]), (2, .box [.val (.int .i64 base_1), .h 9]), (9, .row (.pair (.int .i64) (.pair (.int .i64) .str)) r_41)], 10⟩ [] (by kernel_rfl) rfl rfl ap0 ?_
        refine VL_nil (QB_end ?_)
        refine V_run hN hn 1 10 [0, 4, 7, 8, 20, 21, 22] [0, 1, 2, 9] ⟨[(0, .c (.val (.int .i64 base_1))), (4, .c (.h 1)), (7, .c (.h 2)), (8, .c (.val (.int .i64 (List.getD l_2 (Int.toNat t_16) ((0 : Int), ((0 : Int), ByteArray.empty))).2.1))), (20, .c (.h 0)), (21, .c (.val (.int .i64 (((List.length l_2) : Nat) : Int)))), (22, .c (.val (.int .i64 (IntKind.wrap .i64 (t_16 + (1 : Int))))))], [(0, .row (.pair (.int .i64) (.pair (.int .i64) .str)) l_2), (1, .box [.val (.int .i64 (0 : Int)), .val (.slice none 0 0)]), (2, .box [.val (.int .i64 base_1), .h 9]), (9, .row (.pair (.int .i64) (.pair (.int .i64) .str)) r_41)], 10⟩ [] (by kernel_rfl) rfl rfl ap0 ?_
        refine VL_nil ?_
        exact V_roundEnd (r_41, (List.getD l_2 (Int.toNat t_16) ((0 : Int), ((0 : Int), ByteArray.empty))).2.1, (IntKind.wrap .i64 (t_16 + (1 : Int)))) H_75 [(1, 1), (2, 2), (6, 9)] hn (by kernel_rfl) (by kernel_rfl) rfl rfl rfl
      · intro b_34; have H_72 := of_f H_70 b_34
        refine VL_exit ?_
        refine QL_exit ?_
        refine QB_here ?_
        have H_76 := Option.some.inj (show some (x_31, at_15) = some q_65 from H_72); subst H_76
        refine VL_nil ?_
        exact QP_end (x_31, at_15) rfl [(1, 1), (2, 2), (6, 6)] hn (by kernel_rfl) (by kernel_rfl) rfl rfl rfl
    · intro y_68 hy; subst hy
      obtain ⟨x_46, at_47⟩ := y_68
      refine V_run hN hn 1 7 [0, 4, 7, 8] [0, 1, 2, 6] ⟨[(0, .c (.val (.int .i64 base_1))), (4, .c (.h 1)), (7, .c (.h 2)), (8, .c (.val (.int .i64 at_47)))], [(0, .row (.pair (.int .i64) (.pair (.int .i64) .str)) l_2), (1, .box [.val (.int .i64 (0 : Int)), .val (.slice none 0 0)]), (2, .box [.val (.int .i64 base_1), .h 6]), (6, .row (.pair (.int .i64) (.pair (.int .i64) .str)) x_46)], 7⟩ [] (by kernel_rfl) rfl rfl ap0 ?_
      obtain ⟨r_49, h_50, H_77⟩ := of_bind H_67
      refine V_reg hN hn [(3, ⟨40, 2, [.c (.h 0), .c (.val (.int .i64 at_47)), .c (.val (.int .i64 base_1))], [(0, .box [.val (.int .i64 base_1), .h 1]), (1, .row (.pair (.int .i64) (.pair (.int .i64) .str)) x_46)], .tup [], [(0, .box [.val (.int .i64 base_1), .h 4]), (4, .row (.pair (.int .i64) (.pair (.int .i64) .str)) r_49)], [(0, 2), (1, 6), (4, 7)], 8⟩)] [] (calls_cons (delta_Maker_Copy_bgg_11dec_spec K base_1 x_46 at_47 base_1 r_49 h_50) (by kernel_rfl) calls_nil) 7 [4, 7] [0, 1, 2, 7] ⟨[(4, .c (.h 1)), (7, .c (.h 2))], [(0, .row (.pair (.int .i64) (.pair (.int .i64) .str)) l_2), (1, .box [.val (.int .i64 (0 : Int)), .val (.slice none 0 0)]), (2, .box [.val (.int .i64 base_1), .h 7]), (7, .row (.pair (.int .i64) (.pair (.int .i64) .str)) r_49)], 8⟩ [] (by kernel_rfl) rfl rfl ap0 (by kernel_rfl) (by kernel_rfl) ?_
      refine V_run hN hn 1 8 [4, 7] [0, 1, 2, 7] ⟨[(4, .c (.h 1)), (7, .c (.h 2))], [(0, .row (.pair (.int .i64) (.pair (.int .i64) .str)) l_2), (1, .box [.val (.int .i64 (0 : Int)), .val (.slice none 0 0)]), (2, .box [.val (.int .i64 base_1), .h 7]), (7, .row (.pair (.int .i64) (.pair (.int .i64) .str)) r_49)], 8⟩ [] (by kernel_rfl) rfl rfl ap0 ?_
      refine V_ghost [.shut 7] 8 hn [4, 7] [0, 1, 2] ⟨[(4, .c (.h 1)), (7, .c (.h 2))], [(0, .row (.pair (.int .i64) (.pair (.int .i64) .str)) l_2), (1, .box [.val (.int .i64 (0 : Int)), .val (.slice none 0 0)]), (2, .box [.val (.int .i64 base_1), .imm (.slice (.pair (.int .i64) (.pair (.int .i64) .str))) r_49])], 8⟩ (by kernel_rfl) rfl rfl ?_
      obtain ⟨r_53, h_54, H_78⟩ := of_bind H_77
      refine V_reg hN hn [(1, ⟨42, 1, [.c (.h 0)], [(0, .box [.val (.int .i64 base_1), .imm (.slice (.pair (.int .i64) (.pair (.int .i64) .str))) r_49])], .tup [(true, [.val (.int .i64 r_53.1), .imm (.slice (.pair (.int .i64) (.pair (.int .i64) .str))) r_53.2.1]), (false, [.val (.int .i64 r_53.2.2)])], [(0, .box [.val (.int .i64 base_1), .imm (.slice (.pair (.int .i64) (.pair (.int .i64) .str))) r_49])], [(0, 2)], 8⟩)] [] (calls_cons (delta_Maker_Delta_b_ee1c6_spec K base_1 r_49 r_53 h_54) (by kernel_rfl) calls_nil) 8 [4, 5] [0, 1] ⟨[(4, .c (.h 1)), (5, .c (.val (.int .i64 r_53.2.2)))], [(0, .row (.pair (.int .i64) (.pair (.int .i64) .str)) l_2), (1, .box [.val (.int .i64 r_53.1), .imm (.slice (.pair (.int .i64) (.pair (.int .i64) .str))) r_53.2.1])], 8⟩ [] (by kernel_rfl) rfl rfl ap0 (by kernel_rfl) (by kernel_rfl) ?_
      have H_79 := Option.some.inj (show some (r_53.1, r_53.2.1, r_53.2.2) = some r from H_78); subst H_79
      refine VL_ret ?_
      exact P_to [(4, .c (.h 1)), (5, .c (.val (.int .i64 r_53.2.2)))] [(0, .row (.pair (.int .i64) (.pair (.int .i64) .str)) l_2), (1, .box [.val (.int .i64 r_53.1), .imm (.slice (.pair (.int .i64) (.pair (.int .i64) .str))) r_53.2.1])] [(1, 1)] hn (by kernel_rfl) (by kernel_rfl) rfl rfl rfl (QF_retS (by kernel_rfl) (by kernel_rfl) rfl)

theorem breaks_Edit_rsgg_spec (K : Nat) (l_1 : (List Int)) (d_2 : Int) (d_3 : (List (Int × (Int × ByteArray)))) (r : ((List Int) × Int)) (H : breaks_Edit K l_1 d_2 d_3 = some r) : Spec Try.prog 23 1 [.c (.h 0), .agg [.val (.int .i64 d_2), .imm (.slice (.pair (.int .i64) (.pair (.int .i64) .str))) d_3]] [(0, .row (.int .i64) l_1)] (.tup [(false, [.h 6]), (false, [.val (.int .i64 r.2)])]) [(0, .row (.int .i64) l_1), (6, .row (.int .i64) r.1)] := by
  refine Spec_mk (fn := Try.f23) (c := (Try.f23.body).get!) Try.func23 (by kernel_rfl) rfl ?_
  intro C hN hn
  replace hN : C.N = 60 := hN
  unfold breaks_Edit at H
  refine V_run hN hn 4 1 [0, 3] [0, 1] ⟨[(0, .c (.h 0)), (3, .c (.h 1))], [(0, .row (.int .i64) l_1), (1, .box [.val (.int .i64 d_2), .imm (.slice (.pair (.int .i64) (.pair (.int .i64) .str))) d_3])], 2⟩ [] (by kernel_rfl) rfl rfl ap0 ?_
  obtain ⟨q_73, H_74, H_75⟩ := of_bind H
  refine V_cut (Y := Bool) (R := Bool) q_73 (fun y => y) (fun y => [(0, .c (.h 0)), (3, .c (.h 1)), (20, .c (.val (.bool y)))]) (fun y => [(0, .row (.int .i64) l_1), (1, .box [.val (.int .i64 d_2), .imm (.slice (.pair (.int .i64) (.pair (.int .i64) .str))) d_3])]) ?_ ?_
  · skip
    obtain ⟨r_5, h_6, H_77⟩ := of_bind H_74
    rcases Bool.eq_false_or_eq_true ((!r_5)) with b_7 | b_7
    · have H_78 := of_t H_77 b_7
      refine V_reg hN hn [(1, ⟨32, 0, [.agg [.val (.int .i64 d_2), .imm (.slice (.pair (.int .i64) (.pair (.int .i64) .str))) d_3]], [], .c (.val (.bool r_5)), [], [], 2⟩)] [(14, true)] (calls_cons (delta_Is_spec K d_2 d_3 r_5 h_6) (by kernel_rfl) calls_nil) 2 [0, 3, 20] [0, 1] ⟨[(0, .c (.h 0)), (3, .c (.h 1)), (20, .c (.val (.bool true)))], [(0, .row (.int .i64) l_1), (1, .box [.val (.int .i64 d_2), .imm (.slice (.pair (.int .i64) (.pair (.int .i64) .str))) d_3])], 2⟩ [(!r_5) = true] (by kernel_rfl) rfl rfl (ap1 b_7) (by kernel_rfl) (by kernel_rfl) ?_
      have H_80 := Option.some.inj (show some true = some q_73 from H_78); subst H_80
      refine VL_nil ?_
      exact QP_end true rfl [(1, 1)] hn (by kernel_rfl) (by kernel_rfl) rfl rfl rfl
    · have H_79 := of_f H_77 b_7
      obtain ⟨r_9, h_10, H_81⟩ := of_bind H_79
      refine V_reg hN hn [(1, ⟨32, 0, [.agg [.val (.int .i64 d_2), .imm (.slice (.pair (.int .i64) (.pair (.int .i64) .str))) d_3]], [], .c (.val (.bool r_5)), [], [], 2⟩), (7, ⟨14, 1, [.c (.h 0), .c (.val (.int .i64 d_2))], [(0, .row (.int .i64) l_1)], .c (.val (.bool r_9)), [(0, .row (.int .i64) l_1)], [(0, 0)], 2⟩)] [(14, false)] (calls_cons (delta_Is_spec K d_2 d_3 r_5 h_6) (by kernel_rfl) (calls_cons (breaks_Is_rg_spec K l_1 d_2 r_9 h_10) (by kernel_rfl) calls_nil)) 2 [0, 3, 20] [0, 1] ⟨[(0, .c (.h 0)), (3, .c (.h 1)), (20, .c (.val (.bool (!r_9))))], [(0, .row (.int .i64) l_1), (1, .box [.val (.int .i64 d_2), .imm (.slice (.pair (.int .i64) (.pair (.int .i64) .str))) d_3])], 2⟩ [(!r_5) = false] (by kernel_rfl) rfl rfl (ap1 b_7) (by kernel_rfl) (by kernel_rfl) ?_
      have H_82 := Option.some.inj (show some (!r_9) = some q_73 from H_81); subst H_82
      refine VL_nil ?_
      exact QP_end (!r_9) rfl [(1, 1)] hn (by kernel_rfl) (by kernel_rfl) rfl rfl rfl
  · intro y_76 hy; subst hy
    skip
    skip
    refine VL_cond (y_76) (by kernel_rfl) ?_ ?_
    · intro b_13; have H_83 := of_t H_75 b_13
      refine V_run hN hn 2 2 [4, 5] [0] ⟨[(4, .c (.val (.slice none 0 0))), (5, .c (.val (.int .i64 (12 : Int))))], [(0, .row (.int .i64) l_1)], 2⟩ [] (by kernel_rfl) rfl rfl ap0 ?_
      have H_85 := Option.some.inj (show some (([] : List Int), (12 : Int)) = some r from H_83); subst H_85
      refine VL_ret ?_
      refine P_ghost [.nilSlot 4 (.int .i64)] 2 hn [4, 5] [0, 2] ⟨[(4, .c (.h 2)), (5, .c (.val (.int .i64 (12 : Int))))], [(0, .row (.int .i64) l_1), (2, .row (.int .i64) ([] : List Int))], 3⟩ (by kernel_rfl) rfl rfl ?_
      exact P_to [(4, .c (.h 6)), (5, .c (.val (.int .i64 (12 : Int))))] [(0, .row (.int .i64) l_1), (6, .row (.int .i64) ([] : List Int))] [(6, 2)] hn (by kernel_rfl) (by kernel_rfl) rfl rfl rfl (QF_retS (by kernel_rfl) (by kernel_rfl) rfl)
    · intro b_13; have H_84 := of_f H_75 b_13
      refine V_run hN hn 4 2 [0, 3, 6] [0, 1] ⟨[(0, .c (.h 0)), (3, .c (.h 1)), (6, .c (.val (.slice none 0 0)))], [(0, .row (.int .i64) l_1), (1, .box [.val (.int .i64 d_2), .imm (.slice (.pair (.int .i64) (.pair (.int .i64) .str))) d_3])], 2⟩ [] (by kernel_rfl) rfl rfl ap0 ?_
      obtain ⟨r_16, h_17, H_86⟩ := of_bind H_84
      refine V_reg hN hn [(1, ⟨33, 0, [.agg [.val (.int .i64 d_2), .imm (.slice (.pair (.int .i64) (.pair (.int .i64) .str))) d_3]], [], .c (.val (.int .i64 r_16)), [], [], 2⟩)] [] (calls_cons (delta_Size_spec K d_2 d_3 r_16 h_17) (by kernel_rfl) calls_nil) 2 [0, 3, 6, 7] [0, 1] ⟨[(0, .c (.h 0)), (3, .c (.h 1)), (6, .c (.val (.slice none 0 0))), (7, .c (.val (.int .i64 r_16)))], [(0, .row (.int .i64) l_1), (1, .box [.val (.int .i64 d_2), .imm (.slice (.pair (.int .i64) (.pair (.int .i64) .str))) d_3])], 2⟩ [] (by kernel_rfl) rfl rfl ap0 (by kernel_rfl) (by kernel_rfl) ?_
      refine V_run hN hn 3 2 [3, 6, 7, 23, 24, 25] [0, 1] ⟨[(3, .c (.h 1)), (6, .c (.val (.slice none 0 0))), (7, .c (.val (.int .i64 r_16))), (23, .c (.h 0)), (24, .c (.val (.int .i64 (((List.length l_1) : Nat) : Int)))), (25, .c (.val (.int .i64 (0 : Int))))], [(0, .row (.int .i64) l_1), (1, .box [.val (.int .i64 d_2), .imm (.slice (.pair (.int .i64) (.pair (.int .i64) .str))) d_3])], 2⟩ [] (by kernel_rfl) rfl rfl ap0 ?_
      refine VL_block ?_
      refine V_ghost [.nilSlot 6 (.int .i64)] 2 hn [3, 6, 7, 23, 24, 25] [0, 1, 2] ⟨[(3, .c (.h 1)), (6, .c (.h 2)), (7, .c (.val (.int .i64 r_16))), (23, .c (.h 0)), (24, .c (.val (.int .i64 (((List.length l_1) : Nat) : Int)))), (25, .c (.val (.int .i64 (0 : Int))))], [(0, .row (.int .i64) l_1), (1, .box [.val (.int .i64 d_2), .imm (.slice (.pair (.int .i64) (.pair (.int .i64) .str))) d_3]), (2, .row (.int .i64) ([] : List Int))], 3⟩ (by kernel_rfl) rfl rfl ?_
      refine V_to [(3, .c (.h 1)), (6, .c (.h 5)), (7, .c (.val (.int .i64 r_16))), (23, .c (.h 0)), (24, .c (.val (.int .i64 (((List.length l_1) : Nat) : Int)))), (25, .c (.val (.int .i64 (0 : Int))))] [(0, .row (.int .i64) l_1), (1, .box [.val (.int .i64 d_2), .imm (.slice (.pair (.int .i64) (.pair (.int .i64) .str))) d_3]), (5, .row (.int .i64) ([] : List Int))] [(1, 1), (5, 2)] hn (by kernel_rfl) (by kernel_rfl) rfl rfl rfl ?_
      refine VL_loop (X := ((List Int) × Int)) (fun x => [(3, .c (.h 1)), (6, .c (.h 5)), (7, .c (.val (.int .i64 r_16))), (23, .c (.h 0)), (24, .c (.val (.int .i64 (((List.length l_1) : Nat) : Int)))), (25, .c (.val (.int .i64 x.2)))]) (fun x => [(0, .row (.int .i64) l_1), (1, .box [.val (.int .i64 d_2), .imm (.slice (.pair (.int .i64) (.pair (.int .i64) .str))) d_3]), (5, .row (.int .i64) x.1)]) (fun k x => breaks_Edit.l0 K l_1 d_2 d_3 r_16 k x.1 x.2 = some r) K (([] : List Int), (0 : Int)) H_86 (fun _ h => no_none h) ?_
      intro k_45 x_45 H_87
      obtain ⟨out_44, t_20⟩ := x_45
      have H_88 : breaks_Edit.l0 K l_1 d_2 d_3 r_16 (k_45 + 1) out_44 t_20 = some r := H_87
      rw [breaks_Edit.l0] at H_88
      refine V_run hN hn 3 6 [3, 6, 7, 23, 24, 25, 26] [0, 1, 5] ⟨[(3, .c (.h 1)), (6, .c (.h 5)), (7, .c (.val (.int .i64 r_16))), (23, .c (.h 0)), (24, .c (.val (.int .i64 (((List.length l_1) : Nat) : Int)))), (25, .c (.val (.int .i64 t_20))), (26, .c (.val (.bool (decide (t_20 < (((List.length l_1) : Nat) : Int))))))], [(0, .row (.int .i64) l_1), (1, .box [.val (.int .i64 d_2), .imm (.slice (.pair (.int .i64) (.pair (.int .i64) .str))) d_3]), (5, .row (.int .i64) out_44)], 6⟩ [] (by kernel_rfl) rfl rfl ap0 ?_
      refine VL_cond ((decide (t_20 < (((List.length l_1) : Nat) : Int)))) (by kernel_rfl) ?_ ?_
      · intro b_47; have H_89 := of_t H_88 b_47
        refine V_run hN hn 2 6 [3, 6, 7, 23, 24, 25, 26] [0, 1, 5] ⟨[(3, .c (.h 1)), (6, .c (.h 5)), (7, .c (.val (.int .i64 r_16))), (23, .c (.h 0)), (24, .c (.val (.int .i64 (((List.length l_1) : Nat) : Int)))), (25, .c (.val (.int .i64 t_20))), (26, .c (.val (.bool (decide (t_20 < (((List.length l_1) : Nat) : Int))))))], [(0, .row (.int .i64) l_1), (1, .box [.val (.int .i64 d_2), .imm (.slice (.pair (.int .i64) (.pair (.int .i64) .str))) d_3]), (5, .row (.int .i64) out_44)], 6⟩ [] (by kernel_rfl) rfl rfl ap0 ?_
        refine VL_block ?_
        obtain ⟨c_49, H_91⟩ := of_if H_89
        refine V_run hN hn 3 6 [3, 6, 7, 9, 23, 24, 25] [0, 1, 5] ⟨[(3, .c (.h 1)), (6, .c (.h 5)), (7, .c (.val (.int .i64 r_16))), (9, .c (.val (.int .i64 (List.getD l_1 (Int.toNat t_20) (0 : Int))))), (23, .c (.h 0)), (24, .c (.val (.int .i64 (((List.length l_1) : Nat) : Int)))), (25, .c (.val (.int .i64 t_20)))], [(0, .row (.int .i64) l_1), (1, .box [.val (.int .i64 d_2), .imm (.slice (.pair (.int .i64) (.pair (.int .i64) .str))) d_3]), (5, .row (.int .i64) out_44)], 6⟩ [0 ≤ t_20, t_20 < (((List.length l_1) : Nat) : Int)] (by kernel_rfl) rfl rfl (ap2 c_49.1 (ap1 c_49.2)) ?_
        obtain ⟨r_50, h_51, H_92⟩ := of_bind H_91
        refine V_reg hN hn [(2, ⟨34, 0, [.agg [.val (.int .i64 d_2), .imm (.slice (.pair (.int .i64) (.pair (.int .i64) .str))) d_3], .c (.val (.int .i64 (List.getD l_1 (Int.toNat t_20) (0 : Int)))), .c (.val (.bool false))], [], .c (.val (.int .i64 r_50)), [], [], 6⟩)] [] (calls_cons (offset_Move_spec K d_2 d_3 (List.getD l_1 (Int.toNat t_20) (0 : Int)) false r_50 h_51) (by kernel_rfl) calls_nil) 6 [3, 6, 7, 10, 23, 24, 25] [0, 1, 5] ⟨[(3, .c (.h 1)), (6, .c (.h 5)), (7, .c (.val (.int .i64 r_16))), (10, .c (.val (.int .i64 r_50))), (23, .c (.h 0)), (24, .c (.val (.int .i64 (((List.length l_1) : Nat) : Int)))), (25, .c (.val (.int .i64 t_20)))], [(0, .row (.int .i64) l_1), (1, .box [.val (.int .i64 d_2), .imm (.slice (.pair (.int .i64) (.pair (.int .i64) .str))) d_3]), (5, .row (.int .i64) out_44)], 6⟩ [] (by kernel_rfl) rfl rfl ap0 (by kernel_rfl) (by kernel_rfl) ?_
        refine V_run hN hn 1 6 [3, 6, 7, 10, 23, 24, 25] [0, 1, 5] ⟨[(3, .c (.h 1)), (6, .c (.h 5)), (7, .c (.val (.int .i64 r_16))), (10, .c (.val (.int .i64 r_50))), (23, .c (.h 0)), (24, .c (.val (.int .i64 (((List.length l_1) : Nat) : Int)))), (25, .c (.val (.int .i64 t_20)))], [(0, .row (.int .i64) l_1), (1, .box [.val (.int .i64 d_2), .imm (.slice (.pair (.int .i64) (.pair (.int .i64) .str))) d_3]), (5, .row (.int .i64) out_44)], 6⟩ [] (by kernel_rfl) rfl rfl ap0 ?_
        obtain ⟨q_93, H_94, H_95⟩ := of_bind H_92
        refine V_cut (Y := Bool) (R := Bool) q_93 (fun y => y) (fun y => [(3, .c (.h 1)), (6, .c (.h 5)), (7, .c (.val (.int .i64 r_16))), (10, .c (.val (.int .i64 r_50))), (23, .c (.h 0)), (24, .c (.val (.int .i64 (((List.length l_1) : Nat) : Int)))), (25, .c (.val (.int .i64 t_20))), (53, .c (.val (.bool y)))]) (fun y => [(0, .row (.int .i64) l_1), (1, .box [.val (.int .i64 d_2), .imm (.slice (.pair (.int .i64) (.pair (.int .i64) .str))) d_3]), (5, .row (.int .i64) out_44)]) ?_ ?_
        · skip
          rcases Bool.eq_false_or_eq_true ((decide (r_50 > (0 : Int)))) with b_54 | b_54
          · have H_97 := of_t H_94 b_54
            rcases Bool.eq_false_or_eq_true ((decide (r_50 < r_16))) with b_55 | b_55
            · have H_99 := of_t H_97 b_55
              rcases Bool.eq_false_or_eq_true (((((List.length out_44) : Nat) : Int) == (0 : Int))) with b_56 | b_56
              · have H_101 := of_t H_99 b_56
                refine V_reg hN hn [] [(34, true), (39, true), (43, true)] calls_nil 6 [3, 6, 7, 10, 23, 24, 25, 53] [0, 1, 5] ⟨[(3, .c (.h 1)), (6, .c (.h 5)), (7, .c (.val (.int .i64 r_16))), (10, .c (.val (.int .i64 r_50))), (23, .c (.h 0)), (24, .c (.val (.int .i64 (((List.length l_1) : Nat) : Int)))), (25, .c (.val (.int .i64 t_20))), (53, .c (.val (.bool true)))], [(0, .row (.int .i64) l_1), (1, .box [.val (.int .i64 d_2), .imm (.slice (.pair (.int .i64) (.pair (.int .i64) .str))) d_3]), (5, .row (.int .i64) out_44)], 6⟩ [(decide (r_50 > (0 : Int))) = true, (decide (r_50 < r_16)) = true, ((((List.length out_44) : Nat) : Int) == (0 : Int)) = true] (by kernel_rfl) rfl rfl (ap2 b_54 (ap2 b_55 (ap1 b_56))) (by kernel_rfl) (by kernel_rfl) ?_
                have H_103 := Option.some.inj (show some true = some q_93 from H_101); subst H_103
                refine VL_nil ?_
                exact QP_end true rfl [(1, 1), (5, 5)] hn (by kernel_rfl) (by kernel_rfl) rfl rfl rfl
              · have H_102 := of_f H_99 b_56
                obtain ⟨c_58, H_104⟩ := of_if H_102
                refine V_reg hN hn [] [(34, true), (39, true), (43, false)] calls_nil 6 [3, 6, 7, 10, 23, 24, 25, 53] [0, 1, 5] ⟨[(3, .c (.h 1)), (6, .c (.h 5)), (7, .c (.val (.int .i64 r_16))), (10, .c (.val (.int .i64 r_50))), (23, .c (.h 0)), (24, .c (.val (.int .i64 (((List.length l_1) : Nat) : Int)))), (25, .c (.val (.int .i64 t_20))), (53, .c (.val (.bool ((List.getD out_44 (Int.toNat (IntKind.wrap .i64 ((((List.length out_44) : Nat) : Int) - (1 : Int)))) (0 : Int)) != r_50))))], [(0, .row (.int .i64) l_1), (1, .box [.val (.int .i64 d_2), .imm (.slice (.pair (.int .i64) (.pair (.int .i64) .str))) d_3]), (5, .row (.int .i64) out_44)], 6⟩ [(decide (r_50 > (0 : Int))) = true, (decide (r_50 < r_16)) = true, ((((List.length out_44) : Nat) : Int) == (0 : Int)) = false, 0 ≤ (IntKind.wrap .i64 ((((List.length out_44) : Nat) : Int) - (1 : Int))), (IntKind.wrap .i64 ((((List.length out_44) : Nat) : Int) - (1 : Int))) < (((List.length out_44) : Nat) : Int)] (by kernel_rfl) rfl rfl (ap2 b_54 (ap2 b_55 (ap2 b_56 (ap2 c_58.1 (ap1 c_58.2))))) (by kernel_rfl) (by kernel_rfl) ?_
                have H_105 := Option.some.inj (show some ((List.getD out_44 (Int.toNat (IntKind.wrap .i64 ((((List.length out_44) : Nat) : Int) - (1 : Int)))) (0 : Int)) != r_50) = some q_93 from H_104); subst H_105
                refine VL_nil ?_
                exact QP_end ((List.getD out_44 (Int.toNat (IntKind.wrap .i64 ((((List.length out_44) : Nat) : Int) - (1 : Int)))) (0 : Int)) != r_50) rfl [(1, 1), (5, 5)] hn (by kernel_rfl) (by kernel_rfl) rfl rfl rfl
            · have H_100 := of_f H_97 b_55
              refine V_reg hN hn [] [(34, true), (39, false)] calls_nil 6 [3, 6, 7, 10, 23, 24, 25, 53] [0, 1, 5] ⟨[(3, .c (.h 1)), (6, .c (.h 5)), (7, .c (.val (.int .i64 r_16))), (10, .c (.val (.int .i64 r_50))), (23, .c (.h 0)), (24, .c (.val (.int .i64 (((List.length l_1) : Nat) : Int)))), (25, .c (.val (.int .i64 t_20))), (53, .c (.val (.bool false)))], [(0, .row (.int .i64) l_1), (1, .box [.val (.int .i64 d_2), .imm (.slice (.pair (.int .i64) (.pair (.int .i64) .str))) d_3]), (5, .row (.int .i64) out_44)], 6⟩ [(decide (r_50 > (0 : Int))) = true, (decide (r_50 < r_16)) = false] (by kernel_rfl) rfl rfl (ap2 b_54 (ap1 b_55)) (by kernel_rfl) (by kernel_rfl) ?_
              have H_106 := Option.some.inj (show some false = some q_93 from H_100); subst H_106
              refine VL_nil ?_
              exact QP_end false rfl [(1, 1), (5, 5)] hn (by kernel_rfl) (by kernel_rfl) rfl rfl rfl
          · have H_98 := of_f H_94 b_54
            refine V_reg hN hn [] [(34, false)] calls_nil 6 [3, 6, 7, 10, 23, 24, 25, 53] [0, 1, 5] ⟨[(3, .c (.h 1)), (6, .c (.h 5)), (7, .c (.val (.int .i64 r_16))), (10, .c (.val (.int .i64 r_50))), (23, .c (.h 0)), (24, .c (.val (.int .i64 (((List.length l_1) : Nat) : Int)))), (25, .c (.val (.int .i64 t_20))), (53, .c (.val (.bool false)))], [(0, .row (.int .i64) l_1), (1, .box [.val (.int .i64 d_2), .imm (.slice (.pair (.int .i64) (.pair (.int .i64) .str))) d_3]), (5, .row (.int .i64) out_44)], 6⟩ [(decide (r_50 > (0 : Int))) = false] (by kernel_rfl) rfl rfl (ap1 b_54) (by kernel_rfl) (by kernel_rfl) ?_
            have H_107 := Option.some.inj (show some false = some q_93 from H_98); subst H_107
            refine VL_nil ?_
            exact QP_end false rfl [(1, 1), (5, 5)] hn (by kernel_rfl) (by kernel_rfl) rfl rfl rfl
        · intro y_96 hy; subst hy
          skip
          skip
          refine VL_cond (y_96) (by kernel_rfl) ?_ ?_
          · intro b_62; have H_108 := of_t H_95 b_62
            obtain ⟨c_63, H_110⟩ := of_if H_108
            refine V_run hN hn 1 6 [3, 6, 7, 23, 24, 25] [0, 1, 7] ⟨[(3, .c (.h 1)), (6, .c (.h 7)), (7, .c (.val (.int .i64 r_16))), (23, .c (.h 0)), (24, .c (.val (.int .i64 (((List.length l_1) : Nat) : Int)))), (25, .c (.val (.int .i64 t_20)))], [(0, .row (.int .i64) l_1), (1, .box [.val (.int .i64 d_2), .imm (.slice (.pair (.int .i64) (.pair (.int .i64) .str))) d_3]), (7, .row (.int .i64) (out_44 ++ ([r_50] : List Int)))], 8⟩ [(List.length out_44 + List.length ([r_50] : List Int)) * 8 ≤ 140737488355328] (by kernel_rfl) rfl rfl (ap1 c_63) ?_
            refine VL_nil (QB_end ?_)
            refine V_run hN hn 1 8 [3, 6, 7, 23, 24, 25] [0, 1, 7] ⟨[(3, .c (.h 1)), (6, .c (.h 7)), (7, .c (.val (.int .i64 r_16))), (23, .c (.h 0)), (24, .c (.val (.int .i64 (((List.length l_1) : Nat) : Int)))), (25, .c (.val (.int .i64 (IntKind.wrap .i64 (t_20 + (1 : Int))))))], [(0, .row (.int .i64) l_1), (1, .box [.val (.int .i64 d_2), .imm (.slice (.pair (.int .i64) (.pair (.int .i64) .str))) d_3]), (7, .row (.int .i64) (out_44 ++ ([r_50] : List Int)))], 8⟩ [] (by kernel_rfl) rfl rfl ap0 ?_
            refine VL_nil ?_
            exact V_roundEnd ((out_44 ++ ([r_50] : List Int)), (IntKind.wrap .i64 (t_20 + (1 : Int)))) H_110 [(1, 1), (5, 7)] hn (by kernel_rfl) (by kernel_rfl) rfl rfl rfl
          · intro b_62; have H_109 := of_f H_95 b_62
            refine V_run hN hn 1 6 [3, 6, 7, 10, 23, 24, 25, 53] [0, 1, 5] ⟨[(3, .c (.h 1)), (6, .c (.h 5)), (7, .c (.val (.int .i64 r_16))), (10, .c (.val (.int .i64 r_50))), (23, .c (.h 0)), (24, .c (.val (.int .i64 (((List.length l_1) : Nat) : Int)))), (25, .c (.val (.int .i64 t_20))), (53, .c (.val (.bool y_96)))], [(0, .row (.int .i64) l_1), (1, .box [.val (.int .i64 d_2), .imm (.slice (.pair (.int .i64) (.pair (.int .i64) .str))) d_3]), (5, .row (.int .i64) out_44)], 6⟩ [] (by kernel_rfl) rfl rfl ap0 ?_
            refine VL_nil (QB_end ?_)
            refine V_run hN hn 1 6 [3, 6, 7, 23, 24, 25] [0, 1, 5] ⟨[(3, .c (.h 1)), (6, .c (.h 5)), (7, .c (.val (.int .i64 r_16))), (23, .c (.h 0)), (24, .c (.val (.int .i64 (((List.length l_1) : Nat) : Int)))), (25, .c (.val (.int .i64 (IntKind.wrap .i64 (t_20 + (1 : Int))))))], [(0, .row (.int .i64) l_1), (1, .box [.val (.int .i64 d_2), .imm (.slice (.pair (.int .i64) (.pair (.int .i64) .str))) d_3]), (5, .row (.int .i64) out_44)], 6⟩ [] (by kernel_rfl) rfl rfl ap0 ?_
            refine VL_nil ?_
            exact V_roundEnd (out_44, (IntKind.wrap .i64 (t_20 + (1 : Int)))) H_109 [(1, 1), (5, 5)] hn (by kernel_rfl) (by kernel_rfl) rfl rfl rfl
      · intro b_47; have H_90 := of_f H_88 b_47
        refine VL_exit ?_
        refine QL_exit ?_
        refine QB_here ?_
        refine V_run hN hn 2 6 [4, 5] [0, 5] ⟨[(4, .c (.h 5)), (5, .c (.val (.int .i64 (0 : Int))))], [(0, .row (.int .i64) l_1), (5, .row (.int .i64) out_44)], 6⟩ [] (by kernel_rfl) rfl rfl ap0 ?_
        have H_111 := Option.some.inj (show some (out_44, (0 : Int)) = some r from H_90); subst H_111
        refine VL_ret ?_
        exact P_to [(4, .c (.h 6)), (5, .c (.val (.int .i64 (0 : Int))))] [(0, .row (.int .i64) l_1), (6, .row (.int .i64) out_44)] [(6, 5)] hn (by kernel_rfl) (by kernel_rfl) rfl rfl rfl (QF_retS (by kernel_rfl) (by kernel_rfl) rfl)

theorem palinodelaw16_BreaksGo_spec (K : Nat) (l_1 : (List Int)) (at_2 : Int) (text_3 : ByteArray) (r : Bool) (H : palinodelaw16_BreaksGo K l_1 at_2 text_3 = some r) : Spec Try.prog 8 0 [.c (.imm (.slice (.int .u8)) l_1), .c (.val (.int .u8 at_2)), .c (.val (.string text_3))] [] (.c (.val (.bool r))) [] := by
  refine Spec_mk (fn := Try.f8) (c := (Try.f8.body).get!) Try.func8 (by kernel_rfl) rfl ?_
  intro C hN hn
  replace hN : C.N = 162 := hN
  unfold palinodelaw16_BreaksGo at H
  refine V_run hN hn 4 0 [0, 1, 2] [] ⟨[(0, .c (.imm (.slice (.int .u8)) l_1)), (1, .c (.val (.int .u8 at_2))), (2, .c (.val (.string text_3)))], [], 0⟩ [] (by kernel_rfl) rfl rfl ap0 ?_
  obtain ⟨r_5, h_6, H_118⟩ := of_bind H
  refine V_reg hN hn [(0, ⟨9, 0, [], [], .c (.val (.bool r_5)), [], [], 0⟩)] [] (calls_cons (palinodelaw16_known_spec K  r_5 h_6) (by kernel_rfl) calls_nil) 0 [0, 1, 2, 23] [] ⟨[(0, .c (.imm (.slice (.int .u8)) l_1)), (1, .c (.val (.int .u8 at_2))), (2, .c (.val (.string text_3))), (23, .c (.val (.bool (!r_5))))], [], 0⟩ [] (by kernel_rfl) rfl rfl ap0 (by kernel_rfl) (by kernel_rfl) ?_
  refine VL_cond ((!r_5)) (by kernel_rfl) ?_ ?_
  · intro b_8; have H_119 := of_t H_118 b_8
    refine V_run hN hn 2 0 [6] [] ⟨[(6, .c (.val (.bool false)))], [], 0⟩ [] (by kernel_rfl) rfl rfl ap0 ?_
    have H_121 := Option.some.inj (show some false = some r from H_119); subst H_121
    refine VL_ret ?_
    exact P_to [(6, .c (.val (.bool false)))] [] [] hn (by kernel_rfl) (by kernel_rfl) rfl rfl rfl (QF_retS (by kernel_rfl) (by kernel_rfl) rfl)
  · intro b_8; have H_120 := of_f H_118 b_8
    refine V_run hN hn 3 0 [0, 1, 2, 23] [] ⟨[(0, .c (.imm (.slice (.int .u8)) l_1)), (1, .c (.val (.int .u8 at_2))), (2, .c (.val (.string text_3))), (23, .c (.val (.bool (!r_5))))], [], 0⟩ [] (by kernel_rfl) rfl rfl ap0 ?_
    obtain ⟨q_122, H_123, H_124⟩ := of_bind H_120
    refine V_cut (Y := Bool) (R := Bool) q_122 (fun y => y) (fun y => [(0, .c (.imm (.slice (.int .u8)) l_1)), (1, .c (.val (.int .u8 at_2))), (2, .c (.val (.string text_3))), (36, .c (.val (.bool y)))]) (fun y => []) ?_ ?_
    · skip
      rcases Bool.eq_false_or_eq_true ((decide ((((List.length l_1) : Nat) : Int) > (20 : Int)))) with b_11 | b_11
      · have H_126 := of_t H_123 b_11
        refine V_reg hN hn [] [(27, true)] calls_nil 0 [0, 1, 2, 36] [] ⟨[(0, .c (.imm (.slice (.int .u8)) l_1)), (1, .c (.val (.int .u8 at_2))), (2, .c (.val (.string text_3))), (36, .c (.val (.bool true)))], [], 0⟩ [(decide ((((List.length l_1) : Nat) : Int) > (20 : Int))) = true] (by kernel_rfl) rfl rfl (ap1 b_11) (by kernel_rfl) (by kernel_rfl) ?_
        have H_128 := Option.some.inj (show some true = some q_122 from H_126); subst H_128
        refine VL_nil ?_
        exact QP_end true rfl [] hn (by kernel_rfl) (by kernel_rfl) rfl rfl rfl
      · have H_127 := of_f H_123 b_11
        rcases Bool.eq_false_or_eq_true ((decide ((((ByteArray.size text_3) : Nat) : Int) < (1 : Int)))) with b_13 | b_13
        · have H_129 := of_t H_127 b_13
          refine V_reg hN hn [] [(27, false), (32, true)] calls_nil 0 [0, 1, 2, 36] [] ⟨[(0, .c (.imm (.slice (.int .u8)) l_1)), (1, .c (.val (.int .u8 at_2))), (2, .c (.val (.string text_3))), (36, .c (.val (.bool true)))], [], 0⟩ [(decide ((((List.length l_1) : Nat) : Int) > (20 : Int))) = false, (decide ((((ByteArray.size text_3) : Nat) : Int) < (1 : Int))) = true] (by kernel_rfl) rfl rfl (ap2 b_11 (ap1 b_13)) (by kernel_rfl) (by kernel_rfl) ?_
          have H_131 := Option.some.inj (show some true = some q_122 from H_129); subst H_131
          refine VL_nil ?_
          exact QP_end true rfl [] hn (by kernel_rfl) (by kernel_rfl) rfl rfl rfl
        · have H_130 := of_f H_127 b_13
          refine V_reg hN hn [] [(27, false), (32, false)] calls_nil 0 [0, 1, 2, 36] [] ⟨[(0, .c (.imm (.slice (.int .u8)) l_1)), (1, .c (.val (.int .u8 at_2))), (2, .c (.val (.string text_3))), (36, .c (.val (.bool (decide ((((ByteArray.size text_3) : Nat) : Int) > (20 : Int))))))], [], 0⟩ [(decide ((((List.length l_1) : Nat) : Int) > (20 : Int))) = false, (decide ((((ByteArray.size text_3) : Nat) : Int) < (1 : Int))) = false] (by kernel_rfl) rfl rfl (ap2 b_11 (ap1 b_13)) (by kernel_rfl) (by kernel_rfl) ?_
          have H_132 := Option.some.inj (show some (decide ((((ByteArray.size text_3) : Nat) : Int) > (20 : Int))) = some q_122 from H_130); subst H_132
          refine VL_nil ?_
          exact QP_end (decide ((((ByteArray.size text_3) : Nat) : Int) > (20 : Int))) rfl [] hn (by kernel_rfl) (by kernel_rfl) rfl rfl rfl
    · intro y_125 hy; subst hy
      skip
      skip
      refine VL_cond (y_125) (by kernel_rfl) ?_ ?_
      · intro b_17; have H_133 := of_t H_124 b_17
        refine V_run hN hn 2 0 [6] [] ⟨[(6, .c (.val (.bool true)))], [], 0⟩ [] (by kernel_rfl) rfl rfl ap0 ?_
        have H_135 := Option.some.inj (show some true = some r from H_133); subst H_135
        refine VL_ret ?_
        exact P_to [(6, .c (.val (.bool true)))] [] [] hn (by kernel_rfl) (by kernel_rfl) rfl rfl rfl (QF_retS (by kernel_rfl) (by kernel_rfl) rfl)
      · intro b_17; have H_134 := of_f H_124 b_17
        refine V_run hN hn 6 0 [0, 1, 2, 7, 8] [] ⟨[(0, .c (.imm (.slice (.int .u8)) l_1)), (1, .c (.val (.int .u8 at_2))), (2, .c (.val (.string text_3))), (7, .c (.val (.slice none 0 0))), (8, .c (.val (.int .i64 (0 : Int))))], [], 0⟩ [] (by kernel_rfl) rfl rfl ap0 ?_
        obtain ⟨q_136, H_137, H_138⟩ := of_bind H_134
        refine V_cut (Y := (List Int)) (R := (Bool ⊕ (List Int))) q_136 (fun y => (Sum.inr y)) (fun y => [(1, .c (.val (.int .u8 at_2))), (2, .c (.val (.string text_3))), (7, .c (.h 2))]) (fun y => [(2, .row (.int .i64) y)]) ?_ ?_
        · skip
          refine VL_block ?_
          refine V_ghost [.nilSlot 7 (.int .i64)] 0 hn [0, 1, 2, 7, 8] [0] ⟨[(0, .c (.imm (.slice (.int .u8)) l_1)), (1, .c (.val (.int .u8 at_2))), (2, .c (.val (.string text_3))), (7, .c (.h 0)), (8, .c (.val (.int .i64 (0 : Int))))], [(0, .row (.int .i64) ([] : List Int))], 1⟩ (by kernel_rfl) rfl rfl ?_
          refine V_to [(0, .c (.imm (.slice (.int .u8)) l_1)), (1, .c (.val (.int .u8 at_2))), (2, .c (.val (.string text_3))), (7, .c (.h 2)), (8, .c (.val (.int .i64 (0 : Int))))] [(2, .row (.int .i64) ([] : List Int))] [(2, 0)] hn (by kernel_rfl) (by kernel_rfl) rfl rfl rfl ?_
          refine VL_loop (X := ((List Int) × Int)) (fun x => [(0, .c (.imm (.slice (.int .u8)) l_1)), (1, .c (.val (.int .u8 at_2))), (2, .c (.val (.string text_3))), (7, .c (.h 2)), (8, .c (.val (.int .i64 x.2)))]) (fun x => [(2, .row (.int .i64) x.1)]) (fun k x => palinodelaw16_BreaksGo.l0 K l_1 k x.1 x.2 = some q_136) K (([] : List Int), (0 : Int)) H_137 (fun _ h => no_none h) ?_
          intro k_35 x_35 H_140
          obtain ⟨m_34, i_20⟩ := x_35
          have H_141 : palinodelaw16_BreaksGo.l0 K l_1 (k_35 + 1) m_34 i_20 = some q_136 := H_140
          rw [palinodelaw16_BreaksGo.l0] at H_141
          refine V_run hN hn 3 3 [0, 1, 2, 7, 8, 40] [2] ⟨[(0, .c (.imm (.slice (.int .u8)) l_1)), (1, .c (.val (.int .u8 at_2))), (2, .c (.val (.string text_3))), (7, .c (.h 2)), (8, .c (.val (.int .i64 i_20))), (40, .c (.val (.bool (decide (i_20 < (((List.length l_1) : Nat) : Int))))))], [(2, .row (.int .i64) m_34)], 3⟩ [] (by kernel_rfl) rfl rfl ap0 ?_
          refine VL_cond ((decide (i_20 < (((List.length l_1) : Nat) : Int)))) (by kernel_rfl) ?_ ?_
          · intro b_37; have H_142 := of_t H_141 b_37
            refine V_run hN hn 2 3 [0, 1, 2, 7, 8, 40] [2] ⟨[(0, .c (.imm (.slice (.int .u8)) l_1)), (1, .c (.val (.int .u8 at_2))), (2, .c (.val (.string text_3))), (7, .c (.h 2)), (8, .c (.val (.int .i64 i_20))), (40, .c (.val (.bool (decide (i_20 < (((List.length l_1) : Nat) : Int))))))], [(2, .row (.int .i64) m_34)], 3⟩ [] (by kernel_rfl) rfl rfl ap0 ?_
            refine VL_block ?_
            refine V_run hN hn 1 3 [0, 1, 2, 7, 8, 40] [2] ⟨[(0, .c (.imm (.slice (.int .u8)) l_1)), (1, .c (.val (.int .u8 at_2))), (2, .c (.val (.string text_3))), (7, .c (.h 2)), (8, .c (.val (.int .i64 i_20))), (40, .c (.val (.bool (decide (i_20 < (((List.length l_1) : Nat) : Int))))))], [(2, .row (.int .i64) m_34)], 3⟩ [] (by kernel_rfl) rfl rfl ap0 ?_
            obtain ⟨r_40, h_41, H_144⟩ := of_bind H_142
            obtain ⟨c_42, H_145⟩ := of_if H_144
            refine V_reg hN hn [(8, ⟨18, 1, [.c (.h 0), .c (.val (.int .i64 (IntKind.wrap .i64 ((IntKind.wrap .i64 (Int.tmod (List.getD l_1 (Int.toNat i_20) (0 : Int)) (98 : Int))) + (1 : Int)))))], [(0, .row (.int .i64) m_34)], .tup [(false, [.h 4]), (false, [.val (.int .i64 r_40.2)])], [(0, .row (.int .i64) m_34), (4, .row (.int .i64) r_40.1)], [(0, 2), (4, 3)], 4⟩)] [] (calls_cons (breaks_Put_rg_spec K m_34 (IntKind.wrap .i64 ((IntKind.wrap .i64 (Int.tmod (List.getD l_1 (Int.toNat i_20) (0 : Int)) (98 : Int))) + (1 : Int))) r_40 h_41) (by kernel_rfl) calls_nil) 3 [0, 1, 2, 8, 9, 10] [3] ⟨[(0, .c (.imm (.slice (.int .u8)) l_1)), (1, .c (.val (.int .u8 at_2))), (2, .c (.val (.string text_3))), (8, .c (.val (.int .i64 i_20))), (9, .c (.h 3)), (10, .c (.val (.int .i64 r_40.2)))], [(3, .row (.int .i64) r_40.1)], 4⟩ [0 ≤ i_20, i_20 < (((List.length l_1) : Nat) : Int), (98 : Int) ≠ (0 : Int)] (by kernel_rfl) rfl rfl (ap2 c_42.1 (ap2 c_42.2 (ap1 (by decide)))) (by kernel_rfl) (by kernel_rfl) ?_
            refine V_run hN hn 3 4 [0, 1, 2, 8, 9, 56] [3] ⟨[(0, .c (.imm (.slice (.int .u8)) l_1)), (1, .c (.val (.int .u8 at_2))), (2, .c (.val (.string text_3))), (8, .c (.val (.int .i64 i_20))), (9, .c (.h 3)), (56, .c (.val (.bool (r_40.2 != (0 : Int)))))], [(3, .row (.int .i64) r_40.1)], 4⟩ [] (by kernel_rfl) rfl rfl ap0 ?_
            refine VL_cond ((r_40.2 != (0 : Int))) (by kernel_rfl) ?_ ?_
            · intro b_44; have H_146 := of_t H_145 b_44
              refine V_run hN hn 2 4 [6] [] ⟨[(6, .c (.val (.bool false)))], [], 4⟩ [] (by kernel_rfl) rfl rfl ap0 ?_
              have H_148 := Option.some.inj (show some (Sum.inl false) = some q_136 from H_146); subst H_148
              have H_149 := Option.some.inj (show some false = some r from H_138); subst H_149
              refine VL_ret ?_
              refine QB_ret ?_
              refine QL_ret ?_
              refine QB_ret ?_
              refine QP_ret ?_
              exact P_to [(6, .c (.val (.bool false)))] [] [] hn (by kernel_rfl) (by kernel_rfl) rfl rfl rfl (QF_retS (by kernel_rfl) (by kernel_rfl) rfl)
            · intro b_44; have H_147 := of_f H_145 b_44
              refine V_run hN hn 2 4 [0, 1, 2, 7, 8] [3] ⟨[(0, .c (.imm (.slice (.int .u8)) l_1)), (1, .c (.val (.int .u8 at_2))), (2, .c (.val (.string text_3))), (7, .c (.h 3)), (8, .c (.val (.int .i64 i_20)))], [(3, .row (.int .i64) r_40.1)], 4⟩ [] (by kernel_rfl) rfl rfl ap0 ?_
              refine VL_nil (QB_end ?_)
              refine V_run hN hn 1 4 [0, 1, 2, 7, 8] [3] ⟨[(0, .c (.imm (.slice (.int .u8)) l_1)), (1, .c (.val (.int .u8 at_2))), (2, .c (.val (.string text_3))), (7, .c (.h 3)), (8, .c (.val (.int .i64 (IntKind.wrap .i64 (i_20 + (1 : Int))))))], [(3, .row (.int .i64) r_40.1)], 4⟩ [] (by kernel_rfl) rfl rfl ap0 ?_
              refine VL_nil ?_
              exact V_roundEnd (r_40.1, (IntKind.wrap .i64 (i_20 + (1 : Int)))) H_147 [(2, 3)] hn (by kernel_rfl) (by kernel_rfl) rfl rfl rfl
          · intro b_37; have H_143 := of_f H_141 b_37
            refine VL_exit ?_
            refine QL_exit ?_
            refine QB_here ?_
            have H_150 := Option.some.inj (show some (Sum.inr m_34) = some q_136 from H_143); subst H_150
            refine VL_nil ?_
            exact QP_end m_34 rfl [(2, 2)] hn (by kernel_rfl) (by kernel_rfl) rfl rfl rfl
        · intro y_139 hy; subst hy
          skip
          skip
          refine V_run hN hn 3 3 [2, 7, 11] [2] ⟨[(2, .c (.val (.string text_3))), (7, .c (.h 2)), (11, .c (.val (.int .i64 (Int.tmod (IntKind.wrap .i64 at_2) (100 : Int)))))], [(2, .row (.int .i64) y_139)], 3⟩ [(100 : Int) ≠ (0 : Int)] (by kernel_rfl) rfl rfl (ap1 (by decide)) ?_
          obtain ⟨r_50, h_51, H_151⟩ := of_bind H_138
          refine V_reg hN hn [(5, ⟨26, 1, [.c (.val (.int .i64 (100 : Int))), .c (.h 0)], [(0, .row (.pair (.int .i64) (.pair (.int .i64) .str)) ([((Int.tmod (IntKind.wrap .i64 at_2) (100 : Int)), ((Int.tmod (IntKind.wrap .i64 at_2) (100 : Int)), text_3))] : List (Int × (Int × ByteArray))))], .tup [(true, [.val (.int .i64 r_50.1), .imm (.slice (.pair (.int .i64) (.pair (.int .i64) .str))) r_50.2.1]), (false, [.val (.int .i64 r_50.2.2)])], [(0, .row (.pair (.int .i64) (.pair (.int .i64) .str)) ([((Int.tmod (IntKind.wrap .i64 at_2) (100 : Int)), ((Int.tmod (IntKind.wrap .i64 at_2) (100 : Int)), text_3))] : List (Int × (Int × ByteArray))))], [(0, 3)], 4⟩)] [] (calls_cons (delta_Build_gr_spec K (100 : Int) ([((Int.tmod (IntKind.wrap .i64 at_2) (100 : Int)), ((Int.tmod (IntKind.wrap .i64 at_2) (100 : Int)), text_3))] : List (Int × (Int × ByteArray))) r_50 h_51) (by kernel_rfl) calls_nil) 3 [2, 7, 11, 12, 13] [2, 4] ⟨[(2, .c (.val (.string text_3))), (7, .c (.h 2)), (11, .c (.val (.int .i64 (Int.tmod (IntKind.wrap .i64 at_2) (100 : Int))))), (12, .c (.h 4)), (13, .c (.val (.int .i64 r_50.2.2)))], [(2, .row (.int .i64) y_139), (4, .box [.val (.int .i64 r_50.1), .imm (.slice (.pair (.int .i64) (.pair (.int .i64) .str))) r_50.2.1])], 5⟩ [] (by kernel_rfl) rfl rfl ap0 (by kernel_rfl) (by kernel_rfl) ?_
          refine V_run hN hn 3 5 [2, 7, 11, 12, 13, 71] [2, 4] ⟨[(2, .c (.val (.string text_3))), (7, .c (.h 2)), (11, .c (.val (.int .i64 (Int.tmod (IntKind.wrap .i64 at_2) (100 : Int))))), (12, .c (.h 4)), (13, .c (.val (.int .i64 r_50.2.2))), (71, .c (.val (.bool (r_50.2.2 != (0 : Int)))))], [(2, .row (.int .i64) y_139), (4, .box [.val (.int .i64 r_50.1), .imm (.slice (.pair (.int .i64) (.pair (.int .i64) .str))) r_50.2.1])], 5⟩ [] (by kernel_rfl) rfl rfl ap0 ?_
          refine VL_cond ((r_50.2.2 != (0 : Int))) (by kernel_rfl) ?_ ?_
          · intro b_54; have H_152 := of_t H_151 b_54
            refine V_run hN hn 2 5 [6] [] ⟨[(6, .c (.val (.bool (r_50.2.2 == (12 : Int)))))], [], 5⟩ [] (by kernel_rfl) rfl rfl ap0 ?_
            have H_154 := Option.some.inj (show some (r_50.2.2 == (12 : Int)) = some r from H_152); subst H_154
            refine VL_ret ?_
            exact P_to [(6, .c (.val (.bool (r_50.2.2 == (12 : Int)))))] [] [] hn (by kernel_rfl) (by kernel_rfl) rfl rfl rfl (QF_retS (by kernel_rfl) (by kernel_rfl) rfl)
          · intro b_54; have H_153 := of_f H_151 b_54
            refine V_run hN hn 2 5 [2, 7, 11, 12, 13, 71] [2, 4] ⟨[(2, .c (.val (.string text_3))), (7, .c (.h 2)), (11, .c (.val (.int .i64 (Int.tmod (IntKind.wrap .i64 at_2) (100 : Int))))), (12, .c (.h 4)), (13, .c (.val (.int .i64 r_50.2.2))), (71, .c (.val (.bool (r_50.2.2 != (0 : Int)))))], [(2, .row (.int .i64) y_139), (4, .box [.val (.int .i64 r_50.1), .imm (.slice (.pair (.int .i64) (.pair (.int .i64) .str))) r_50.2.1])], 5⟩ [] (by kernel_rfl) rfl rfl ap0 ?_
            obtain ⟨r_57, h_58, H_155⟩ := of_bind H_153
            refine V_reg hN hn [(2, ⟨23, 1, [.c (.h 0), .agg [.val (.int .i64 r_50.1), .imm (.slice (.pair (.int .i64) (.pair (.int .i64) .str))) r_50.2.1]], [(0, .row (.int .i64) y_139)], .tup [(false, [.h 6]), (false, [.val (.int .i64 r_57.2)])], [(0, .row (.int .i64) y_139), (6, .row (.int .i64) r_57.1)], [(0, 2), (6, 5)], 6⟩)] [] (calls_cons (breaks_Edit_rsgg_spec K y_139 r_50.1 r_50.2.1 r_57 h_58) (by kernel_rfl) calls_nil) 5 [2, 7, 11, 14, 15] [2, 5] ⟨[(2, .c (.val (.string text_3))), (7, .c (.h 2)), (11, .c (.val (.int .i64 (Int.tmod (IntKind.wrap .i64 at_2) (100 : Int))))), (14, .c (.h 5)), (15, .c (.val (.int .i64 r_57.2)))], [(2, .row (.int .i64) y_139), (5, .row (.int .i64) r_57.1)], 6⟩ [] (by kernel_rfl) rfl rfl ap0 (by kernel_rfl) (by kernel_rfl) ?_
            refine V_run hN hn 2 6 [2, 7, 11, 14, 15] [2, 5] ⟨[(2, .c (.val (.string text_3))), (7, .c (.h 2)), (11, .c (.val (.int .i64 (Int.tmod (IntKind.wrap .i64 at_2) (100 : Int))))), (14, .c (.h 5)), (15, .c (.val (.int .i64 r_57.2)))], [(2, .row (.int .i64) y_139), (5, .row (.int .i64) r_57.1)], 6⟩ [] (by kernel_rfl) rfl rfl ap0 ?_
            obtain ⟨q_156, H_157, H_158⟩ := of_bind H_155
            refine V_cut (Y := Bool) (R := Bool) q_156 (fun y => y) (fun y => [(2, .c (.val (.string text_3))), (7, .c (.h 2)), (11, .c (.val (.int .i64 (Int.tmod (IntKind.wrap .i64 at_2) (100 : Int))))), (14, .c (.h 5)), (88, .c (.val (.bool y)))]) (fun y => [(2, .row (.int .i64) y_139), (5, .row (.int .i64) r_57.1)]) ?_ ?_
            · skip
              rcases Bool.eq_false_or_eq_true ((r_57.2 != (0 : Int))) with b_61 | b_61
              · have H_160 := of_t H_157 b_61
                refine V_reg hN hn [] [(82, true)] calls_nil 6 [2, 7, 11, 14, 88] [2, 5] ⟨[(2, .c (.val (.string text_3))), (7, .c (.h 2)), (11, .c (.val (.int .i64 (Int.tmod (IntKind.wrap .i64 at_2) (100 : Int))))), (14, .c (.h 5)), (88, .c (.val (.bool true)))], [(2, .row (.int .i64) y_139), (5, .row (.int .i64) r_57.1)], 6⟩ [(r_57.2 != (0 : Int)) = true] (by kernel_rfl) rfl rfl (ap1 b_61) (by kernel_rfl) (by kernel_rfl) ?_
                have H_162 := Option.some.inj (show some true = some q_156 from H_160); subst H_162
                refine VL_nil ?_
                exact QP_end true rfl [(2, 2), (5, 5)] hn (by kernel_rfl) (by kernel_rfl) rfl rfl rfl
              · have H_161 := of_f H_157 b_61
                refine V_reg hN hn [] [(82, false)] calls_nil 6 [2, 7, 11, 14, 88] [2, 5] ⟨[(2, .c (.val (.string text_3))), (7, .c (.h 2)), (11, .c (.val (.int .i64 (Int.tmod (IntKind.wrap .i64 at_2) (100 : Int))))), (14, .c (.h 5)), (88, .c (.val (.bool ((((List.length r_57.1) : Nat) : Int) != (((List.length y_139) : Nat) : Int)))))], [(2, .row (.int .i64) y_139), (5, .row (.int .i64) r_57.1)], 6⟩ [(r_57.2 != (0 : Int)) = false] (by kernel_rfl) rfl rfl (ap1 b_61) (by kernel_rfl) (by kernel_rfl) ?_
                have H_163 := Option.some.inj (show some ((((List.length r_57.1) : Nat) : Int) != (((List.length y_139) : Nat) : Int)) = some q_156 from H_161); subst H_163
                refine VL_nil ?_
                exact QP_end ((((List.length r_57.1) : Nat) : Int) != (((List.length y_139) : Nat) : Int)) rfl [(2, 2), (5, 5)] hn (by kernel_rfl) (by kernel_rfl) rfl rfl rfl
            · intro y_159 hy; subst hy
              skip
              skip
              refine VL_cond (y_159) (by kernel_rfl) ?_ ?_
              · intro b_65; have H_164 := of_t H_158 b_65
                refine V_run hN hn 2 6 [6] [] ⟨[(6, .c (.val (.bool false)))], [], 6⟩ [] (by kernel_rfl) rfl rfl ap0 ?_
                have H_166 := Option.some.inj (show some false = some r from H_164); subst H_166
                refine VL_ret ?_
                exact P_to [(6, .c (.val (.bool false)))] [] [] hn (by kernel_rfl) (by kernel_rfl) rfl rfl rfl (QF_retS (by kernel_rfl) (by kernel_rfl) rfl)
              · intro b_65; have H_165 := of_f H_158 b_65
                refine V_run hN hn 4 6 [2, 7, 11, 14, 16] [2, 5] ⟨[(2, .c (.val (.string text_3))), (7, .c (.h 2)), (11, .c (.val (.int .i64 (Int.tmod (IntKind.wrap .i64 at_2) (100 : Int))))), (14, .c (.h 5)), (16, .c (.val (.int .i64 (0 : Int))))], [(2, .row (.int .i64) y_139), (5, .row (.int .i64) r_57.1)], 6⟩ [] (by kernel_rfl) rfl rfl ap0 ?_
                obtain ⟨q_167, H_168, H_169⟩ := of_bind H_165
                refine V_cut (Y := Unit) (R := (Bool ⊕ Unit)) q_167 (fun y => (Sum.inr y)) (fun y => [(7, .c (.h 2))]) (fun y => [(2, .row (.int .i64) y_139)]) ?_ ?_
                · skip
                  refine VL_block ?_
                  refine V_to [(2, .c (.val (.string text_3))), (7, .c (.h 2)), (11, .c (.val (.int .i64 (Int.tmod (IntKind.wrap .i64 at_2) (100 : Int))))), (14, .c (.h 5)), (16, .c (.val (.int .i64 (0 : Int))))] [(2, .row (.int .i64) y_139), (5, .row (.int .i64) r_57.1)] [(2, 2), (5, 5)] hn (by kernel_rfl) (by kernel_rfl) rfl rfl rfl ?_
                  refine VL_loop (X := Int) (fun x => [(2, .c (.val (.string text_3))), (7, .c (.h 2)), (11, .c (.val (.int .i64 (Int.tmod (IntKind.wrap .i64 at_2) (100 : Int))))), (14, .c (.h 5)), (16, .c (.val (.int .i64 x)))]) (fun x => [(2, .row (.int .i64) y_139), (5, .row (.int .i64) r_57.1)]) (fun k x => palinodelaw16_BreaksGo.l1 K y_139 at_2 text_3 r_57 k x = some q_167) K (0 : Int) H_168 (fun _ h => no_none h) ?_
                  intro k_69 i_68 H_171
                  have H_172 : palinodelaw16_BreaksGo.l1 K y_139 at_2 text_3 r_57 (k_69 + 1) i_68 = some q_167 := H_171
                  rw [palinodelaw16_BreaksGo.l1] at H_172
                  refine V_run hN hn 3 6 [2, 7, 11, 14, 16, 92] [2, 5] ⟨[(2, .c (.val (.string text_3))), (7, .c (.h 2)), (11, .c (.val (.int .i64 (Int.tmod (IntKind.wrap .i64 at_2) (100 : Int))))), (14, .c (.h 5)), (16, .c (.val (.int .i64 i_68))), (92, .c (.val (.bool (decide (i_68 < (((List.length y_139) : Nat) : Int))))))], [(2, .row (.int .i64) y_139), (5, .row (.int .i64) r_57.1)], 6⟩ [] (by kernel_rfl) rfl rfl ap0 ?_
                  refine VL_cond ((decide (i_68 < (((List.length y_139) : Nat) : Int)))) (by kernel_rfl) ?_ ?_
                  · intro b_71; have H_173 := of_t H_172 b_71
                    refine V_run hN hn 2 6 [2, 7, 11, 14, 16, 92] [2, 5] ⟨[(2, .c (.val (.string text_3))), (7, .c (.h 2)), (11, .c (.val (.int .i64 (Int.tmod (IntKind.wrap .i64 at_2) (100 : Int))))), (14, .c (.h 5)), (16, .c (.val (.int .i64 i_68))), (92, .c (.val (.bool (decide (i_68 < (((List.length y_139) : Nat) : Int))))))], [(2, .row (.int .i64) y_139), (5, .row (.int .i64) r_57.1)], 6⟩ [] (by kernel_rfl) rfl rfl ap0 ?_
                    refine VL_block ?_
                    obtain ⟨c_73, H_175⟩ := of_if H_173
                    refine V_run hN hn 5 6 [2, 7, 11, 14, 16, 17, 104] [2, 5] ⟨[(2, .c (.val (.string text_3))), (7, .c (.h 2)), (11, .c (.val (.int .i64 (Int.tmod (IntKind.wrap .i64 at_2) (100 : Int))))), (14, .c (.h 5)), (16, .c (.val (.int .i64 i_68))), (17, .c (.val (.int .i64 (List.getD y_139 (Int.toNat i_68) (0 : Int))))), (104, .c (.val (.bool (decide ((List.getD y_139 (Int.toNat i_68) (0 : Int)) > (Int.tmod (IntKind.wrap .i64 at_2) (100 : Int)))))))], [(2, .row (.int .i64) y_139), (5, .row (.int .i64) r_57.1)], 6⟩ [0 ≤ i_68, i_68 < (((List.length y_139) : Nat) : Int), 0 ≤ i_68, i_68 < (((List.length y_139) : Nat) : Int)] (by kernel_rfl) rfl rfl (ap2 c_73.1 (ap2 c_73.2 (ap2 c_73.1 (ap1 c_73.2)))) ?_
                    obtain ⟨q_176, H_177, H_178⟩ := of_bind H_175
                    refine V_cut (Y := Int) (R := Int) q_176 (fun y => y) (fun y => [(2, .c (.val (.string text_3))), (7, .c (.h 2)), (11, .c (.val (.int .i64 (Int.tmod (IntKind.wrap .i64 at_2) (100 : Int))))), (14, .c (.h 5)), (16, .c (.val (.int .i64 i_68))), (17, .c (.val (.int .i64 y)))]) (fun y => [(2, .row (.int .i64) y_139), (5, .row (.int .i64) r_57.1)]) ?_ ?_
                    · skip
                      refine VL_cond ((decide ((List.getD y_139 (Int.toNat i_68) (0 : Int)) > (Int.tmod (IntKind.wrap .i64 at_2) (100 : Int))))) (by kernel_rfl) ?_ ?_
                      · intro b_74; have H_180 := of_t H_177 b_74
                        refine V_run hN hn 1 6 [2, 7, 11, 14, 16, 17] [2, 5] ⟨[(2, .c (.val (.string text_3))), (7, .c (.h 2)), (11, .c (.val (.int .i64 (Int.tmod (IntKind.wrap .i64 at_2) (100 : Int))))), (14, .c (.h 5)), (16, .c (.val (.int .i64 i_68))), (17, .c (.val (.int .i64 (IntKind.wrap .i64 ((List.getD y_139 (Int.toNat i_68) (0 : Int)) + (((ByteArray.size text_3) : Nat) : Int))))))], [(2, .row (.int .i64) y_139), (5, .row (.int .i64) r_57.1)], 6⟩ [0 ≤ i_68, i_68 < (((List.length y_139) : Nat) : Int)] (by kernel_rfl) rfl rfl (ap2 c_73.1 (ap1 c_73.2)) ?_
                        have H_182 := Option.some.inj (show some (IntKind.wrap .i64 ((List.getD y_139 (Int.toNat i_68) (0 : Int)) + (((ByteArray.size text_3) : Nat) : Int))) = some q_176 from H_180); subst H_182
                        refine VL_nil ?_
                        exact QP_end (IntKind.wrap .i64 ((List.getD y_139 (Int.toNat i_68) (0 : Int)) + (((ByteArray.size text_3) : Nat) : Int))) rfl [(2, 2), (5, 5)] hn (by kernel_rfl) (by kernel_rfl) rfl rfl rfl
                      · intro b_74; have H_181 := of_f H_177 b_74
                        refine V_run hN hn 1 6 [2, 7, 11, 14, 16, 17, 104] [2, 5] ⟨[(2, .c (.val (.string text_3))), (7, .c (.h 2)), (11, .c (.val (.int .i64 (Int.tmod (IntKind.wrap .i64 at_2) (100 : Int))))), (14, .c (.h 5)), (16, .c (.val (.int .i64 i_68))), (17, .c (.val (.int .i64 (List.getD y_139 (Int.toNat i_68) (0 : Int))))), (104, .c (.val (.bool (decide ((List.getD y_139 (Int.toNat i_68) (0 : Int)) > (Int.tmod (IntKind.wrap .i64 at_2) (100 : Int)))))))], [(2, .row (.int .i64) y_139), (5, .row (.int .i64) r_57.1)], 6⟩ [] (by kernel_rfl) rfl rfl ap0 ?_
                        have H_183 := Option.some.inj (show some (List.getD y_139 (Int.toNat i_68) (0 : Int)) = some q_176 from H_181); subst H_183
                        refine VL_nil ?_
                        exact QP_end (List.getD y_139 (Int.toNat i_68) (0 : Int)) rfl [(2, 2), (5, 5)] hn (by kernel_rfl) (by kernel_rfl) rfl rfl rfl
                    · intro y_179 hy; subst hy
                      skip
                      skip
                      obtain ⟨c_78, H_184⟩ := of_if H_178
                      refine V_run hN hn 2 6 [2, 7, 11, 14, 16, 117] [2, 5] ⟨[(2, .c (.val (.string text_3))), (7, .c (.h 2)), (11, .c (.val (.int .i64 (Int.tmod (IntKind.wrap .i64 at_2) (100 : Int))))), (14, .c (.h 5)), (16, .c (.val (.int .i64 i_68))), (117, .c (.val (.bool ((List.getD r_57.1 (Int.toNat i_68) (0 : Int)) != y_179))))], [(2, .row (.int .i64) y_139), (5, .row (.int .i64) r_57.1)], 6⟩ [0 ≤ i_68, i_68 < (((List.length r_57.1) : Nat) : Int)] (by kernel_rfl) rfl rfl (ap2 c_73.1 (ap1 c_78)) ?_
                      refine VL_cond (((List.getD r_57.1 (Int.toNat i_68) (0 : Int)) != y_179)) (by kernel_rfl) ?_ ?_
                      · intro b_79; have H_185 := of_t H_184 b_79
                        refine V_run hN hn 2 6 [6] [] ⟨[(6, .c (.val (.bool false)))], [], 6⟩ [] (by kernel_rfl) rfl rfl ap0 ?_
                        have H_187 := Option.some.inj (show some (Sum.inl false) = some q_167 from H_185); subst H_187
                        have H_188 := Option.some.inj (show some false = some r from H_169); subst H_188
                        refine VL_ret ?_
                        refine QB_ret ?_
                        refine QL_ret ?_
                        refine QB_ret ?_
                        refine QP_ret ?_
                        exact P_to [(6, .c (.val (.bool false)))] [] [] hn (by kernel_rfl) (by kernel_rfl) rfl rfl rfl (QF_retS (by kernel_rfl) (by kernel_rfl) rfl)
                      · intro b_79; have H_186 := of_f H_184 b_79
                        refine V_run hN hn 1 6 [2, 7, 11, 14, 16, 117] [2, 5] ⟨[(2, .c (.val (.string text_3))), (7, .c (.h 2)), (11, .c (.val (.int .i64 (Int.tmod (IntKind.wrap .i64 at_2) (100 : Int))))), (14, .c (.h 5)), (16, .c (.val (.int .i64 i_68))), (117, .c (.val (.bool ((List.getD r_57.1 (Int.toNat i_68) (0 : Int)) != y_179))))], [(2, .row (.int .i64) y_139), (5, .row (.int .i64) r_57.1)], 6⟩ [] (by kernel_rfl) rfl rfl ap0 ?_
                        refine VL_nil (QB_end ?_)
                        refine V_run hN hn 1 6 [2, 7, 11, 14, 16] [2, 5] ⟨[(2, .c (.val (.string text_3))), (7, .c (.h 2)), (11, .c (.val (.int .i64 (Int.tmod (IntKind.wrap .i64 at_2) (100 : Int))))), (14, .c (.h 5)), (16, .c (.val (.int .i64 (IntKind.wrap .i64 (i_68 + (1 : Int))))))], [(2, .row (.int .i64) y_139), (5, .row (.int .i64) r_57.1)], 6⟩ [] (by kernel_rfl) rfl rfl ap0 ?_
                        refine VL_nil ?_
                        exact V_roundEnd (IntKind.wrap .i64 (i_68 + (1 : Int))) H_186 [(2, 2), (5, 5)] hn (by kernel_rfl) (by kernel_rfl) rfl rfl rfl
                  · intro b_71; have H_174 := of_f H_172 b_71
                    refine VL_exit ?_
                    refine QL_exit ?_
                    refine QB_here ?_
                    have H_189 := Option.some.inj (show some (Sum.inr ()) = some q_167 from H_174); subst H_189
                    refine VL_nil ?_
                    exact QP_end () rfl [(2, 2)] hn (by kernel_rfl) (by kernel_rfl) rfl rfl rfl
                · intro y_170 hy; subst hy
                  skip
                  refine V_run hN hn 1 6 [7] [2] ⟨[(7, .c (.h 2))], [(2, .row (.int .i64) y_139)], 6⟩ [] (by kernel_rfl) rfl rfl ap0 ?_
                  obtain ⟨r_84, h_85, H_190⟩ := of_bind H_169
                  refine V_reg hN hn [(2, ⟨26, 1, [.c (.val (.int .i64 (100 : Int))), .c (.h 0)], [(0, .row (.pair (.int .i64) (.pair (.int .i64) .str)) ([((1 : Int), ((99 : Int), ByteArray.empty))] : List (Int × (Int × ByteArray))))], .tup [(true, [.val (.int .i64 r_84.1), .imm (.slice (.pair (.int .i64) (.pair (.int .i64) .str))) r_84.2.1]), (false, [.val (.int .i64 r_84.2.2)])], [(0, .row (.pair (.int .i64) (.pair (.int .i64) .str)) ([((1 : Int), ((99 : Int), ByteArray.empty))] : List (Int × (Int × ByteArray))))], [(0, 6)], 7⟩)] [] (calls_cons (delta_Build_gr_spec K (100 : Int) ([((1 : Int), ((99 : Int), ByteArray.empty))] : List (Int × (Int × ByteArray))) r_84 h_85) (by kernel_rfl) calls_nil) 6 [7, 18, 19] [2, 7] ⟨[(7, .c (.h 2)), (18, .c (.h 7)), (19, .c (.val (.int .i64 r_84.2.2)))], [(2, .row (.int .i64) y_139), (7, .box [.val (.int .i64 r_84.1), .imm (.slice (.pair (.int .i64) (.pair (.int .i64) .str))) r_84.2.1])], 8⟩ [] (by kernel_rfl) rfl rfl ap0 (by kernel_rfl) (by kernel_rfl) ?_
                  refine V_run hN hn 1 8 [7, 18, 19] [2, 7] ⟨[(7, .c (.h 2)), (18, .c (.h 7)), (19, .c (.val (.int .i64 r_84.2.2)))], [(2, .row (.int .i64) y_139), (7, .box [.val (.int .i64 r_84.1), .imm (.slice (.pair (.int .i64) (.pair (.int .i64) .str))) r_84.2.1])], 8⟩ [] (by kernel_rfl) rfl rfl ap0 ?_
                  obtain ⟨r_88, h_89, H_191⟩ := of_bind H_190
                  refine V_reg hN hn [(2, ⟨23, 1, [.c (.h 0), .agg [.val (.int .i64 r_84.1), .imm (.slice (.pair (.int .i64) (.pair (.int .i64) .str))) r_84.2.1]], [(0, .row (.int .i64) y_139)], .tup [(false, [.h 6]), (false, [.val (.int .i64 r_88.2)])], [(0, .row (.int .i64) y_139), (6, .row (.int .i64) r_88.1)], [(0, 2), (6, 8)], 9⟩)] [] (calls_cons (breaks_Edit_rsgg_spec K y_139 r_84.1 r_84.2.1 r_88 h_89) (by kernel_rfl) calls_nil) 8 [7, 19, 20, 21] [2, 8] ⟨[(7, .c (.h 2)), (19, .c (.val (.int .i64 r_84.2.2))), (20, .c (.h 8)), (21, .c (.val (.int .i64 r_88.2)))], [(2, .row (.int .i64) y_139), (8, .row (.int .i64) r_88.1)], 9⟩ [] (by kernel_rfl) rfl rfl ap0 (by kernel_rfl) (by kernel_rfl) ?_
                  refine V_run hN hn 1 9 [7, 19, 20, 21] [2, 8] ⟨[(7, .c (.h 2)), (19, .c (.val (.int .i64 r_84.2.2))), (20, .c (.h 8)), (21, .c (.val (.int .i64 r_88.2)))], [(2, .row (.int .i64) y_139), (8, .row (.int .i64) r_88.1)], 9⟩ [] (by kernel_rfl) rfl rfl ap0 ?_
                  rcases Bool.eq_false_or_eq_true ((r_84.2.2 == (0 : Int))) with b_92 | b_92
                  · have H_192 := of_t H_191 b_92
                    rcases Bool.eq_false_or_eq_true ((r_88.2 == (0 : Int))) with b_93 | b_93
                    · have H_194 := of_t H_192 b_93
                      rcases Bool.eq_false_or_eq_true (((((List.length y_139) : Nat) : Int) == (0 : Int))) with b_94 | b_94
                      · have H_196 := of_t H_194 b_94
                        rcases Bool.eq_false_or_eq_true (((((List.length r_88.1) : Nat) : Int) == (0 : Int))) with b_95 | b_95
                        · have H_198 := of_t H_196 b_95
                          refine V_reg hN hn [] [(132, true), (136, true), (140, true), (145, true)] calls_nil 9 [6] [] ⟨[(6, .c (.val (.bool true)))], [], 9⟩ [(r_84.2.2 == (0 : Int)) = true, (r_88.2 == (0 : Int)) = true, ((((List.length y_139) : Nat) : Int) == (0 : Int)) = true, ((((List.length r_88.1) : Nat) : Int) == (0 : Int)) = true] (by kernel_rfl) rfl rfl (ap2 b_92 (ap2 b_93 (ap2 b_94 (ap1 b_95)))) (by kernel_rfl) (by kernel_rfl) ?_
                          have H_200 := Option.some.inj (show some true = some r from H_198); subst H_200
                          refine VL_ret ?_
                          exact P_to [(6, .c (.val (.bool true)))] [] [] hn (by kernel_rfl) (by kernel_rfl) rfl rfl rfl (QF_retS (by kernel_rfl) (by kernel_rfl) rfl)
                        · have H_199 := of_f H_196 b_95
                          rcases Bool.eq_false_or_eq_true ((decide ((((List.length y_139) : Nat) : Int) > (0 : Int)))) with b_97 | b_97
                          · have H_201 := of_t H_199 b_97
                            rcases Bool.eq_false_or_eq_true (((((List.length r_88.1) : Nat) : Int) == (1 : Int))) with b_98 | b_98
                            · have H_203 := of_t H_201 b_98
                              obtain ⟨c_99, H_205⟩ := of_if H_203
                              refine V_reg hN hn [] [(132, true), (136, true), (140, true), (145, false), (149, true), (154, true)] calls_nil 9 [6] [] ⟨[(6, .c (.val (.bool ((List.getD r_88.1 0 (0 : Int)) == (1 : Int)))))], [], 9⟩ [(r_84.2.2 == (0 : Int)) = true, (r_88.2 == (0 : Int)) = true, ((((List.length y_139) : Nat) : Int) == (0 : Int)) = true, ((((List.length r_88.1) : Nat) : Int) == (0 : Int)) = false, (decide ((((List.length y_139) : Nat) : Int) > (0 : Int))) = true, ((((List.length r_88.1) : Nat) : Int) == (1 : Int)) = true, (0 : Int) ≤ (0 : Int), (0 : Int) < (((List.length r_88.1) : Nat) : Int)] (by kernel_rfl) rfl rfl (ap2 b_92 (ap2 b_93 (ap2 b_94 (ap2 b_95 (ap2 b_97 (ap2 b_98 (ap2 (by decide) (ap1 c_99)))))))) (by kernel_rfl) (by kernel_rfl) ?_
                              have H_206 := Option.some.inj (show some ((List.getD r_88.1 0 (0 : Int)) == (1 : Int)) = some r from H_205); subst H_206
                              refine VL_ret ?_
                              exact P_to [(6, .c (.val (.bool ((List.getD r_88.1 0 (0 : Int)) == (1 : Int)))))] [] [] hn (by kernel_rfl) (by kernel_rfl) rfl rfl rfl (QF_retS (by kernel_rfl) (by kernel_rfl) rfl)
                            · have H_204 := of_f H_201 b_98
                              refine V_reg hN hn [] [(132, true), (136, true), (140, true), (145, false), (149, true), (154, false)] calls_nil 9 [6] [] ⟨[(6, .c (.val (.bool false)))], [], 9⟩ [(r_84.2.2 == (0 : Int)) = true, (r_88.2 == (0 : Int)) = true, ((((List.length y_139) : Nat) : Int) == (0 : Int)) = true, ((((List.length r_88.1) : Nat) : Int) == (0 : Int)) = false, (decide ((((List.length y_139) : Nat) : Int) > (0 : Int))) = true, ((((List.length r_88.1) : Nat) : Int) == (1 : Int)) = false] (by kernel_rfl) rfl rfl (ap2 b_92 (ap2 b_93 (ap2 b_94 (ap2 b_95 (ap2 b_97 (ap1 b_98)))))) (by kernel_rfl) (by kernel_rfl) ?_
                              have H_207 := Option.some.inj (show some false = some r from H_204); subst H_207
                              refine VL_ret ?_
                              exact P_to [(6, .c (.val (.bool false)))] [] [] hn (by kernel_rfl) (by kernel_rfl) rfl rfl rfl (QF_retS (by kernel_rfl) (by kernel_rfl) rfl)
                          · have H_202 := of_f H_199 b_97
                            refine V_reg hN hn [] [(132, true), (136, true), (140, true), (145, false), (149, false)] calls_nil 9 [6] [] ⟨[(6, .c (.val (.bool false)))], [], 9⟩ [(r_84.2.2 == (0 : Int)) = true, (r_88.2 == (0 : Int)) = true, ((((List.length y_139) : Nat) : Int) == (0 : Int)) = true, ((((List.length r_88.1) : Nat) : Int) == (0 : Int)) = false, (decide ((((List.length y_139) : Nat) : Int) > (0 : Int))) = false] (by kernel_rfl) rfl rfl (ap2 b_92 (ap2 b_93 (ap2 b_94 (ap2 b_95 (ap1 b_97))))) (by kernel_rfl) (by kernel_rfl) ?_
                            have H_208 := Option.some.inj (show some false = some r from H_202); subst H_208
                            refine VL_ret ?_
                            exact P_to [(6, .c (.val (.bool false)))] [] [] hn (by kernel_rfl) (by kernel_rfl) rfl rfl rfl (QF_retS (by kernel_rfl) (by kernel_rfl) rfl)
                      · have H_197 := of_f H_194 b_94
                        rcases Bool.eq_false_or_eq_true ((decide ((((List.length y_139) : Nat) : Int) > (0 : Int)))) with b_102 | b_102
                        · have H_209 := of_t H_197 b_102
                          rcases Bool.eq_false_or_eq_true (((((List.length r_88.1) : Nat) : Int) == (1 : Int))) with b_103 | b_103
                          · have H_211 := of_t H_209 b_103
                            obtain ⟨c_104, H_213⟩ := of_if H_211
                            refine V_reg hN hn [] [(132, true), (136, true), (140, false), (149, true), (154, true)] calls_nil 9 [6] [] ⟨[(6, .c (.val (.bool ((List.getD r_88.1 0 (0 : Int)) == (1 : Int)))))], [], 9⟩ [(r_84.2.2 == (0 : Int)) = true, (r_88.2 == (0 : Int)) = true, ((((List.length y_139) : Nat) : Int) == (0 : Int)) = false, (decide ((((List.length y_139) : Nat) : Int) > (0 : Int))) = true, ((((List.length r_88.1) : Nat) : Int) == (1 : Int)) = true, (0 : Int) ≤ (0 : Int), (0 : Int) < (((List.length r_88.1) : Nat) : Int)] (by kernel_rfl) rfl rfl (ap2 b_92 (ap2 b_93 (ap2 b_94 (ap2 b_102 (ap2 b_103 (ap2 (by decide) (ap1 c_104))))))) (by kernel_rfl) (by kernel_rfl) ?_
                            have H_214 := Option.some.inj (show some ((List.getD r_88.1 0 (0 : Int)) == (1 : Int)) = some r from H_213); subst H_214
                            refine VL_ret ?_
                            exact P_to [(6, .c (.val (.bool ((List.getD r_88.1 0 (0 : Int)) == (1 : Int)))))] [] [] hn (by kernel_rfl) (by kernel_rfl) rfl rfl rfl (QF_retS (by kernel_rfl) (by kernel_rfl) rfl)
                          · have H_212 := of_f H_209 b_103
                            refine V_reg hN hn [] [(132, true), (136, true), (140, false), (149, true), (154, false)] calls_nil 9 [6] [] ⟨[(6, .c (.val (.bool false)))], [], 9⟩ [(r_84.2.2 == (0 : Int)) = true, (r_88.2 == (0 : Int)) = true, ((((List.length y_139) : Nat) : Int) == (0 : Int)) = false, (decide ((((List.length y_139) : Nat) : Int) > (0 : Int))) = true, ((((List.length r_88.1) : Nat) : Int) == (1 : Int)) = false] (by kernel_rfl) rfl rfl (ap2 b_92 (ap2 b_93 (ap2 b_94 (ap2 b_102 (ap1 b_103))))) (by kernel_rfl) (by kernel_rfl) ?_
                            have H_215 := Option.some.inj (show some false = some r from H_212); subst H_215
                            refine VL_ret ?_
                            exact P_to [(6, .c (.val (.bool false)))] [] [] hn (by kernel_rfl) (by kernel_rfl) rfl rfl rfl (QF_retS (by kernel_rfl) (by kernel_rfl) rfl)
                        · have H_210 := of_f H_197 b_102
                          refine V_reg hN hn [] [(132, true), (136, true), (140, false), (149, false)] calls_nil 9 [6] [] ⟨[(6, .c (.val (.bool false)))], [], 9⟩ [(r_84.2.2 == (0 : Int)) = true, (r_88.2 == (0 : Int)) = true, ((((List.length y_139) : Nat) : Int) == (0 : Int)) = false, (decide ((((List.length y_139) : Nat) : Int) > (0 : Int))) = false] (by kernel_rfl) rfl rfl (ap2 b_92 (ap2 b_93 (ap2 b_94 (ap1 b_102)))) (by kernel_rfl) (by kernel_rfl) ?_
                          have H_216 := Option.some.inj (show some false = some r from H_210); subst H_216
                          refine VL_ret ?_
                          exact P_to [(6, .c (.val (.bool false)))] [] [] hn (by kernel_rfl) (by kernel_rfl) rfl rfl rfl (QF_retS (by kernel_rfl) (by kernel_rfl) rfl)
                    · have H_195 := of_f H_192 b_93
                      refine V_reg hN hn [] [(132, true), (136, false)] calls_nil 9 [6] [] ⟨[(6, .c (.val (.bool false)))], [], 9⟩ [(r_84.2.2 == (0 : Int)) = true, (r_88.2 == (0 : Int)) = false] (by kernel_rfl) rfl rfl (ap2 b_92 (ap1 b_93)) (by kernel_rfl) (by kernel_rfl) ?_
                      have H_217 := Option.some.inj (show some false = some r from H_195); subst H_217
                      refine VL_ret ?_
                      exact P_to [(6, .c (.val (.bool false)))] [] [] hn (by kernel_rfl) (by kernel_rfl) rfl rfl rfl (QF_retS (by kernel_rfl) (by kernel_rfl) rfl)
                  · have H_193 := of_f H_191 b_92
                    refine V_reg hN hn [] [(132, false)] calls_nil 9 [6] [] ⟨[(6, .c (.val (.bool false)))], [], 9⟩ [(r_84.2.2 == (0 : Int)) = false] (by kernel_rfl) rfl rfl (ap1 b_92) (by kernel_rfl) (by kernel_rfl) ?_
                    have H_218 := Option.some.inj (show some false = some r from H_193); subst H_218
                    refine VL_ret ?_
                    exact P_to [(6, .c (.val (.bool false)))] [] [] hn (by kernel_rfl) (by kernel_rfl) rfl rfl rfl (QF_retS (by kernel_rfl) (by kernel_rfl) rfl)

end Go.Pal
