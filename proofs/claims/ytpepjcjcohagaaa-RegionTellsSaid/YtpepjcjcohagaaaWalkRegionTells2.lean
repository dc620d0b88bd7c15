/- The Go functions that RegionTells reaches compute what the plain functions say: part 2, printed by a program of this workplace. -/
import Derived.Test.YtpepjcjcohagaaaChecked
import Derived.Test.YtpepjcjcohagaaaWalkRegionTells1
namespace Go.Pal
open Go Go.Proofs
set_option maxRecDepth 100000
set_option linter.unusedVariables false

theorem palinoderef11_Is_spec (K : Nat) (d_1 : Int) (d_2 : (List (Int × (Int × ByteArray)))) (r : Bool) (H : palinoderef11_Is K d_1 d_2 = some r) : Spec Try.prog 41 0 [.agg [.val (.int .i64 d_1), .imm (.slice kE) d_2]] [] (cB r) [] := by
  refine Spec_mk (fn := Try.f41) (c := (Try.f41.body).get!) Try.func41 (by kernel_rfl) rfl ?_
  intro C hN hn
  replace hN : C.N = 122 := hN
  unfold palinoderef11_Is at H
  refine V_run hN hn 4 0 [1] [0] ⟨[(1, .c (.h 0))], [(0, .box [.val (.int .i64 d_1), .imm (.slice kE) d_2])], 1⟩ [] (by kernel_rfl) rfl rfl ap0 ?_
  obtain ⟨q_80, H_81, H_82⟩ := of_bind H
  refine V_cut (Y := Bool) (R := Bool) q_80 (fun y => y) (fun y => [(1, .c (.h 0)), (21, cB y)]) (fun y => [(0, .box [.val (.int .i64 d_1), .imm (.slice kE) d_2])]) ?_ ?_
  · skip
    rcases Bool.eq_false_or_eq_true ((decide (d_1 < (0 : Int)))) with b_4 | b_4
    · have H_84 := of_t H_81 b_4
      refine V_reg hN hn [] [(11, true)] calls_nil 1 [1, 21] [0] ⟨[(1, .c (.h 0)), (21, cB true)], [(0, .box [.val (.int .i64 d_1), .imm (.slice kE) d_2])], 1⟩ [(decide (d_1 < (0 : Int))) = true] (by kernel_rfl) rfl rfl (ap1 b_4) (by kernel_rfl) (by kernel_rfl) ?_
      have H_86 := Option.some.inj (show some true = some q_80 from H_84); subst H_86
      refine VL_nil ?_
      exact QP_end true rfl [(0, 0)] hn (by kernel_rfl) (by kernel_rfl) rfl rfl rfl
    · have H_85 := of_f H_81 b_4
      rcases Bool.eq_false_or_eq_true ((decide (d_1 > (20000 : Int)))) with b_6 | b_6
      · have H_87 := of_t H_85 b_6
        refine V_reg hN hn [] [(11, false), (16, true)] calls_nil 1 [1, 21] [0] ⟨[(1, .c (.h 0)), (21, cB true)], [(0, .box [.val (.int .i64 d_1), .imm (.slice kE) d_2])], 1⟩ [(decide (d_1 < (0 : Int))) = false, (decide (d_1 > (20000 : Int))) = true] (by kernel_rfl) rfl rfl (ap2 b_4 (ap1 b_6)) (by kernel_rfl) (by kernel_rfl) ?_
        have H_89 := Option.some.inj (show some true = some q_80 from H_87); subst H_89
        refine VL_nil ?_
        exact QP_end true rfl [(0, 0)] hn (by kernel_rfl) (by kernel_rfl) rfl rfl rfl
      · have H_88 := of_f H_85 b_6
        refine V_reg hN hn [] [(11, false), (16, false)] calls_nil 1 [1, 21] [0] ⟨[(1, .c (.h 0)), (21, cB (decide ((lnI d_2) > (60 : Int))))], [(0, .box [.val (.int .i64 d_1), .imm (.slice kE) d_2])], 1⟩ [(decide (d_1 < (0 : Int))) = false, (decide (d_1 > (20000 : Int))) = false] (by kernel_rfl) rfl rfl (ap2 b_4 (ap1 b_6)) (by kernel_rfl) (by kernel_rfl) ?_
        have H_90 := Option.some.inj (show some (decide ((lnI d_2) > (60 : Int))) = some q_80 from H_88); subst H_90
        refine VL_nil ?_
        exact QP_end (decide ((lnI d_2) > (60 : Int))) rfl [(0, 0)] hn (by kernel_rfl) (by kernel_rfl) rfl rfl rfl
  · intro y_83 hy; subst hy
    skip
    skip
    refine VL_cond (y_83) (by kernel_rfl) ?_ ?_
    · intro b_10; have H_91 := of_t H_82 b_10
      refine V_run hN hn 2 1 [2] [] ⟨[(2, cB false)], [], 1⟩ [] (by kernel_rfl) rfl rfl ap0 ?_
      have H_93 := Option.some.inj (show some false = some r from H_91); subst H_93
      refine VL_ret ?_
      exact P_to [(2, cB false)] [] [] hn (by kernel_rfl) (by kernel_rfl) rfl rfl rfl (QF_retS (by kernel_rfl) (by kernel_rfl) rfl)
    · intro b_10; have H_92 := of_f H_82 b_10
      refine V_run hN hn 6 1 [1, 3, 4, 5, 6] [0] ⟨[(1, .c (.h 0)), (3, cI (0 : Int)), (4, cB true), (5, cI (0 : Int)), (6, cI (0 : Int))], [(0, .box [.val (.int .i64 d_1), .imm (.slice kE) d_2])], 1⟩ [] (by kernel_rfl) rfl rfl ap0 ?_
      refine VL_block ?_
      refine V_to [(1, .c (.h 0)), (3, cI (0 : Int)), (4, cB true), (5, cI (0 : Int)), (6, cI (0 : Int))] [(0, .box [.val (.int .i64 d_1), .imm (.slice kE) d_2])] [(0, 0)] hn (by kernel_rfl) (by kernel_rfl) rfl rfl rfl ?_
      refine VL_loop (X := (Int × Bool × Int × Int)) (fun x => [(1, .c (.h 0)), (3, cI x.1), (4, cB x.2.1), (5, cI x.2.2.1), (6, cI x.2.2.2)]) (fun x => [(0, .box [.val (.int .i64 d_1), .imm (.slice kE) d_2])]) (fun k x => palinoderef11_Is.l0 K d_2 d_1 k x.1 x.2.1 x.2.2.1 x.2.2.2 = some r) K ((0 : Int), true, (0 : Int), (0 : Int)) H_92 (fun _ h => no_none h) ?_
      intro k_17 x_17 H_94
      obtain ⟨last_13, text_14, size_15, i_16⟩ := x_17
      have H_95 : palinoderef11_Is.l0 K d_2 d_1 (k_17 + 1) last_13 text_14 size_15 i_16 = some r := H_94
      rw [palinoderef11_Is.l0] at H_95
      refine V_run hN hn 3 1 [1, 3, 4, 5, 6, 26] [0] ⟨[(1, .c (.h 0)), (3, cI last_13), (4, cB text_14), (5, cI size_15), (6, cI i_16), (26, cB (decide (i_16 < (lnI d_2))))], [(0, .box [.val (.int .i64 d_1), .imm (.slice kE) d_2])], 1⟩ [] (by kernel_rfl) rfl rfl ap0 ?_
      refine VL_cond ((decide (i_16 < (lnI d_2)))) (by kernel_rfl) ?_ ?_
      · intro b_19; have H_96 := of_t H_95 b_19
        refine V_run hN hn 2 1 [1, 3, 4, 5, 6, 26] [0] ⟨[(1, .c (.h 0)), (3, cI last_13), (4, cB text_14), (5, cI size_15), (6, cI i_16), (26, cB (decide (i_16 < (lnI d_2))))], [(0, .box [.val (.int .i64 d_1), .imm (.slice kE) d_2])], 1⟩ [] (by kernel_rfl) rfl rfl ap0 ?_
        refine VL_block ?_
        obtain ⟨c_21, H_98⟩ := of_if H_96
        refine V_run hN hn 5 1 [1, 3, 4, 5, 6, 7, 36] [0, 1] ⟨[(1, .c (.h 0)), (3, cI last_13), (4, cB text_14), (5, cI size_15), (6, cI i_16), (7, .c (.h 1)), (36, cB (!(ByteArray.toList (List.getD d_2 (Int.toNat i_16) zE).2.2 == ByteArray.toList (ByteArray.mk #[]))))], [(0, .box [.val (.int .i64 d_1), .imm (.slice kE) d_2]), (1, .box [.val (.int .i64 (List.getD d_2 (Int.toNat i_16) zE).1), .val (.int .i64 (List.getD d_2 (Int.toNat i_16) zE).2.1), .val (.string (List.getD d_2 (Int.toNat i_16) zE).2.2)])], 2⟩ [0 ≤ i_16, i_16 < (lnI d_2)] (by kernel_rfl) rfl rfl (ap2 c_21.1 (ap1 c_21.2)) ?_
        refine VL_cond ((!(ByteArray.toList (List.getD d_2 (Int.toNat i_16) zE).2.2 == ByteArray.toList (ByteArray.mk #[])))) (by kernel_rfl) ?_ ?_
        · intro b_22; have H_99 := of_t H_98 b_22
          refine V_run hN hn 2 2 [1, 3, 4, 5, 6, 7, 36] [0, 1] ⟨[(1, .c (.h 0)), (3, cI last_13), (4, cB text_14), (5, cI size_15), (6, cI i_16), (7, .c (.h 1)), (36, cB (!(ByteArray.toList (List.getD d_2 (Int.toNat i_16) zE).2.2 == ByteArray.toList (ByteArray.mk #[]))))], [(0, .box [.val (.int .i64 d_1), .imm (.slice kE) d_2]), (1, .box [.val (.int .i64 (List.getD d_2 (Int.toNat i_16) zE).1), .val (.int .i64 (List.getD d_2 (Int.toNat i_16) zE).2.1), .val (.string (List.getD d_2 (Int.toNat i_16) zE).2.2)])], 2⟩ [] (by kernel_rfl) rfl rfl ap0 ?_
          obtain ⟨q_101, H_102, H_103⟩ := of_bind H_99
          refine V_cut (Y := Bool) (R := Bool) q_101 (fun y => y) (fun y => [(1, .c (.h 0)), (3, cI last_13), (5, cI size_15), (6, cI i_16), (7, .c (.h 1)), (65, cB y)]) (fun y => [(0, .box [.val (.int .i64 d_1), .imm (.slice kE) d_2]), (1, .box [.val (.int .i64 (List.getD d_2 (Int.toNat i_16) zE).1), .val (.int .i64 (List.getD d_2 (Int.toNat i_16) zE).2.1), .val (.string (List.getD d_2 (Int.toNat i_16) zE).2.2)])]) ?_ ?_
          · skip
            rcases Bool.eq_false_or_eq_true (((List.getD d_2 (Int.toNat i_16) zE).1 != (0 : Int))) with b_24 | b_24
            · have H_105 := of_t H_102 b_24
              refine V_reg hN hn [] [(40, true)] calls_nil 2 [1, 3, 5, 6, 7, 65] [0, 1] ⟨[(1, .c (.h 0)), (3, cI last_13), (5, cI size_15), (6, cI i_16), (7, .c (.h 1)), (65, cB true)], [(0, .box [.val (.int .i64 d_1), .imm (.slice kE) d_2]), (1, .box [.val (.int .i64 (List.getD d_2 (Int.toNat i_16) zE).1), .val (.int .i64 (List.getD d_2 (Int.toNat i_16) zE).2.1), .val (.string (List.getD d_2 (Int.toNat i_16) zE).2.2)])], 2⟩ [((List.getD d_2 (Int.toNat i_16) zE).1 != (0 : Int)) = true] (by kernel_rfl) rfl rfl (ap1 b_24) (by kernel_rfl) (by kernel_rfl) ?_
              have H_107 := Option.some.inj (show some true = some q_101 from H_105); subst H_107
              refine VL_nil ?_
              exact QP_end true rfl [(0, 0), (1, 1)] hn (by kernel_rfl) (by kernel_rfl) rfl rfl rfl
            · have H_106 := of_f H_102 b_24
              rcases Bool.eq_false_or_eq_true (((List.getD d_2 (Int.toNat i_16) zE).2.1 != (0 : Int))) with b_26 | b_26
              · have H_108 := of_t H_106 b_26
                refine V_reg hN hn [] [(40, false), (45, true)] calls_nil 2 [1, 3, 5, 6, 7, 65] [0, 1] ⟨[(1, .c (.h 0)), (3, cI last_13), (5, cI size_15), (6, cI i_16), (7, .c (.h 1)), (65, cB true)], [(0, .box [.val (.int .i64 d_1), .imm (.slice kE) d_2]), (1, .box [.val (.int .i64 (List.getD d_2 (Int.toNat i_16) zE).1), .val (.int .i64 (List.getD d_2 (Int.toNat i_16) zE).2.1), .val (.string (List.getD d_2 (Int.toNat i_16) zE).2.2)])], 2⟩ [((List.getD d_2 (Int.toNat i_16) zE).1 != (0 : Int)) = false, ((List.getD d_2 (Int.toNat i_16) zE).2.1 != (0 : Int)) = true] (by kernel_rfl) rfl rfl (ap2 b_24 (ap1 b_26)) (by kernel_rfl) (by kernel_rfl) ?_
                have H_110 := Option.some.inj (show some true = some q_101 from H_108); subst H_110
                refine VL_nil ?_
                exact QP_end true rfl [(0, 0), (1, 1)] hn (by kernel_rfl) (by kernel_rfl) rfl rfl rfl
              · have H_109 := of_f H_106 b_26
                rcases Bool.eq_false_or_eq_true ((decide (i_16 > (0 : Int)))) with b_28 | b_28
                · have H_111 := of_t H_109 b_28
                  rcases Bool.eq_false_or_eq_true (text_14) with b_29 | b_29
                  · have H_113 := of_t H_111 b_29
                    refine V_reg hN hn [] [(40, false), (45, false), (48, true), (52, true)] calls_nil 2 [1, 3, 5, 6, 7, 65] [0, 1] ⟨[(1, .c (.h 0)), (3, cI last_13), (5, cI size_15), (6, cI i_16), (7, .c (.h 1)), (65, cB true)], [(0, .box [.val (.int .i64 d_1), .imm (.slice kE) d_2]), (1, .box [.val (.int .i64 (List.getD d_2 (Int.toNat i_16) zE).1), .val (.int .i64 (List.getD d_2 (Int.toNat i_16) zE).2.1), .val (.string (List.getD d_2 (Int.toNat i_16) zE).2.2)])], 2⟩ [((List.getD d_2 (Int.toNat i_16) zE).1 != (0 : Int)) = false, ((List.getD d_2 (Int.toNat i_16) zE).2.1 != (0 : Int)) = false, (decide (i_16 > (0 : Int))) = true, text_14 = true] (by kernel_rfl) rfl rfl (ap2 b_24 (ap2 b_26 (ap2 b_28 (ap1 b_29)))) (by kernel_rfl) (by kernel_rfl) ?_
                    have H_115 := Option.some.inj (show some true = some q_101 from H_113); subst H_115
                    refine VL_nil ?_
                    exact QP_end true rfl [(0, 0), (1, 1)] hn (by kernel_rfl) (by kernel_rfl) rfl rfl rfl
                  · have H_114 := of_f H_111 b_29
                    rcases Bool.eq_false_or_eq_true ((decide ((((ByteArray.size (List.getD d_2 (Int.toNat i_16) zE).2.2) : Nat) : Int) > (w6 ((20000 : Int) - size_15))))) with b_31 | b_31
                    · have H_116 := of_t H_114 b_31
                      refine V_reg hN hn [] [(40, false), (45, false), (48, true), (52, false), (60, true)] calls_nil 2 [1, 3, 5, 6, 7, 65] [0, 1] ⟨[(1, .c (.h 0)), (3, cI last_13), (5, cI size_15), (6, cI i_16), (7, .c (.h 1)), (65, cB true)], [(0, .box [.val (.int .i64 d_1), .imm (.slice kE) d_2]), (1, .box [.val (.int .i64 (List.getD d_2 (Int.toNat i_16) zE).1), .val (.int .i64 (List.getD d_2 (Int.toNat i_16) zE).2.1), .val (.string (List.getD d_2 (Int.toNat i_16) zE).2.2)])], 2⟩ [((List.getD d_2 (Int.toNat i_16) zE).1 != (0 : Int)) = false, ((List.getD d_2 (Int.toNat i_16) zE).2.1 != (0 : Int)) = false, (decide (i_16 > (0 : Int))) = true, text_14 = false, (decide ((((ByteArray.size (List.getD d_2 (Int.toNat i_16) zE).2.2) : Nat) : Int) > (w6 ((20000 : Int) - size_15)))) = true] (by kernel_rfl) rfl rfl (ap2 b_24 (ap2 b_26 (ap2 b_28 (ap2 b_29 (ap1 b_31))))) (by kernel_rfl) (by kernel_rfl) ?_
                      have H_118 := Option.some.inj (show some true = some q_101 from H_116); subst H_118
                      refine VL_nil ?_
                      exact QP_end true rfl [(0, 0), (1, 1)] hn (by kernel_rfl) (by kernel_rfl) rfl rfl rfl
                    · have H_117 := of_f H_114 b_31
                      obtain ⟨r_33, h_34, H_119⟩ := of_bind H_117
                      refine V_reg hN hn [(26, ⟨22, 0, [.c (.val (.string (List.getD d_2 (Int.toNat i_16) zE).2.2))], [], cB r_33, [], [], 2⟩)] [(40, false), (45, false), (48, true), (52, false), (60, false)] (calls_cons (palinoderef1_Valid_spec K (List.getD d_2 (Int.toNat i_16) zE).2.2 r_33 h_34) (by kernel_rfl) calls_nil) 2 [1, 3, 5, 6, 7, 65] [0, 1] ⟨[(1, .c (.h 0)), (3, cI last_13), (5, cI size_15), (6, cI i_16), (7, .c (.h 1)), (65, cB (!r_33))], [(0, .box [.val (.int .i64 d_1), .imm (.slice kE) d_2]), (1, .box [.val (.int .i64 (List.getD d_2 (Int.toNat i_16) zE).1), .val (.int .i64 (List.getD d_2 (Int.toNat i_16) zE).2.1), .val (.string (List.getD d_2 (Int.toNat i_16) zE).2.2)])], 2⟩ [((List.getD d_2 (Int.toNat i_16) zE).1 != (0 : Int)) = false, ((List.getD d_2 (Int.toNat i_16) zE).2.1 != (0 : Int)) = false, (decide (i_16 > (0 : Int))) = true, text_14 = false, (decide ((((ByteArray.size (List.getD d_2 (Int.toNat i_16) zE).2.2) : Nat) : Int) > (w6 ((20000 : Int) - size_15)))) = false] (by kernel_rfl) rfl rfl (ap2 b_24 (ap2 b_26 (ap2 b_28 (ap2 b_29 (ap1 b_31))))) (by kernel_rfl) (by kernel_rfl) ?_
                      have H_120 := Option.some.inj (show some (!r_33) = some q_101 from H_119); subst H_120
                      refine VL_nil ?_
                      exact QP_end (!r_33) rfl [(0, 0), (1, 1)] hn (by kernel_rfl) (by kernel_rfl) rfl rfl rfl
                · have H_112 := of_f H_109 b_28
                  rcases Bool.eq_false_or_eq_true ((decide ((((ByteArray.size (List.getD d_2 (Int.toNat i_16) zE).2.2) : Nat) : Int) > (w6 ((20000 : Int) - size_15))))) with b_36 | b_36
                  · have H_121 := of_t H_112 b_36
                    refine V_reg hN hn [] [(40, false), (45, false), (48, false), (60, true)] calls_nil 2 [1, 3, 5, 6, 7, 65] [0, 1] ⟨[(1, .c (.h 0)), (3, cI last_13), (5, cI size_15), (6, cI i_16), (7, .c (.h 1)), (65, cB true)], [(0, .box [.val (.int .i64 d_1), .imm (.slice kE) d_2]), (1, .box [.val (.int .i64 (List.getD d_2 (Int.toNat i_16) zE).1), .val (.int .i64 (List.getD d_2 (Int.toNat i_16) zE).2.1), .val (.string (List.getD d_2 (Int.toNat i_16) zE).2.2)])], 2⟩ [((List.getD d_2 (Int.toNat i_16) zE).1 != (0 : Int)) = false, ((List.getD d_2 (Int.toNat i_16) zE).2.1 != (0 : Int)) = false, (decide (i_16 > (0 : Int))) = false, (decide ((((ByteArray.size (List.getD d_2 (Int.toNat i_16) zE).2.2) : Nat) : Int) > (w6 ((20000 : Int) - size_15)))) = true] (by kernel_rfl) rfl rfl (ap2 b_24 (ap2 b_26 (ap2 b_28 (ap1 b_36)))) (by kernel_rfl) (by kernel_rfl) ?_
                    have H_123 := Option.some.inj (show some true = some q_101 from H_121); subst H_123
                    refine VL_nil ?_
                    exact QP_end true rfl [(0, 0), (1, 1)] hn (by kernel_rfl) (by kernel_rfl) rfl rfl rfl
                  · have H_122 := of_f H_112 b_36
                    obtain ⟨r_38, h_39, H_124⟩ := of_bind H_122
                    refine V_reg hN hn [(26, ⟨22, 0, [.c (.val (.string (List.getD d_2 (Int.toNat i_16) zE).2.2))], [], cB r_38, [], [], 2⟩)] [(40, false), (45, false), (48, false), (60, false)] (calls_cons (palinoderef1_Valid_spec K (List.getD d_2 (Int.toNat i_16) zE).2.2 r_38 h_39) (by kernel_rfl) calls_nil) 2 [1, 3, 5, 6, 7, 65] [0, 1] ⟨[(1, .c (.h 0)), (3, cI last_13), (5, cI size_15), (6, cI i_16), (7, .c (.h 1)), (65, cB (!r_38))], [(0, .box [.val (.int .i64 d_1), .imm (.slice kE) d_2]), (1, .box [.val (.int .i64 (List.getD d_2 (Int.toNat i_16) zE).1), .val (.int .i64 (List.getD d_2 (Int.toNat i_16) zE).2.1), .val (.string (List.getD d_2 (Int.toNat i_16) zE).2.2)])], 2⟩ [((List.getD d_2 (Int.toNat i_16) zE).1 != (0 : Int)) = false, ((List.getD d_2 (Int.toNat i_16) zE).2.1 != (0 : Int)) = false, (decide (i_16 > (0 : Int))) = false, (decide ((((ByteArray.size (List.getD d_2 (Int.toNat i_16) zE).2.2) : Nat) : Int) > (w6 ((20000 : Int) - size_15)))) = false] (by kernel_rfl) rfl rfl (ap2 b_24 (ap2 b_26 (ap2 b_28 (ap1 b_36)))) (by kernel_rfl) (by kernel_rfl) ?_
                    have H_125 := Option.some.inj (show some (!r_38) = some q_101 from H_124); subst H_125
                    refine VL_nil ?_
                    exact QP_end (!r_38) rfl [(0, 0), (1, 1)] hn (by kernel_rfl) (by kernel_rfl) rfl rfl rfl
          · intro y_104 hy; subst hy
            skip
            skip
            refine VL_cond (y_104) (by kernel_rfl) ?_ ?_
            · intro b_42; have H_126 := of_t H_103 b_42
              refine V_run hN hn 2 2 [2] [] ⟨[(2, cB false)], [], 2⟩ [] (by kernel_rfl) rfl rfl ap0 ?_
              have H_128 := Option.some.inj (show some false = some r from H_126); subst H_128
              refine VL_ret ?_
              refine QB_ret ?_
              refine QL_ret ?_
              refine QB_ret ?_
              exact P_to [(2, cB false)] [] [] hn (by kernel_rfl) (by kernel_rfl) rfl rfl rfl (QF_retS (by kernel_rfl) (by kernel_rfl) rfl)
            · intro b_42; have H_127 := of_f H_103 b_42
              refine V_run hN hn 5 2 [1, 3, 4, 5, 6] [0] ⟨[(1, .c (.h 0)), (3, cI last_13), (4, cB true), (5, cI (w6 (size_15 + (((ByteArray.size (List.getD d_2 (Int.toNat i_16) zE).2.2) : Nat) : Int)))), (6, cI i_16)], [(0, .box [.val (.int .i64 d_1), .imm (.slice kE) d_2])], 2⟩ [] (by kernel_rfl) rfl rfl ap0 ?_
              refine VL_exit ?_
              refine QB_here ?_
              refine V_run hN hn 1 2 [1, 3, 4, 5, 6] [0] ⟨[(1, .c (.h 0)), (3, cI last_13), (4, cB true), (5, cI (w6 (size_15 + (((ByteArray.size (List.getD d_2 (Int.toNat i_16) zE).2.2) : Nat) : Int)))), (6, cI (w6 (i_16 + (1 : Int))))], [(0, .box [.val (.int .i64 d_1), .imm (.slice kE) d_2])], 2⟩ [] (by kernel_rfl) rfl rfl ap0 ?_
              refine VL_nil ?_
              exact V_roundEnd (last_13, true, (w6 (size_15 + (((ByteArray.size (List.getD d_2 (Int.toNat i_16) zE).2.2) : Nat) : Int))), (w6 (i_16 + (1 : Int)))) H_127 [(0, 0)] hn (by kernel_rfl) (by kernel_rfl) rfl rfl rfl
        · intro b_22; have H_100 := of_f H_98 b_22
          refine V_run hN hn 3 2 [1, 3, 4, 5, 6, 7, 36] [0, 1] ⟨[(1, .c (.h 0)), (3, cI last_13), (4, cB text_14), (5, cI size_15), (6, cI i_16), (7, .c (.h 1)), (36, cB (!(ByteArray.toList (List.getD d_2 (Int.toNat i_16) zE).2.2 == ByteArray.toList (ByteArray.mk #[]))))], [(0, .box [.val (.int .i64 d_1), .imm (.slice kE) d_2]), (1, .box [.val (.int .i64 (List.getD d_2 (Int.toNat i_16) zE).1), .val (.int .i64 (List.getD d_2 (Int.toNat i_16) zE).2.1), .val (.string (List.getD d_2 (Int.toNat i_16) zE).2.2)])], 2⟩ [] (by kernel_rfl) rfl rfl ap0 ?_
          obtain ⟨q_129, H_130, H_131⟩ := of_bind H_100
          refine V_cut (Y := Bool) (R := Bool) q_129 (fun y => y) (fun y => [(1, .c (.h 0)), (5, cI size_15), (6, cI i_16), (7, .c (.h 1)), (112, cB y)]) (fun y => [(0, .box [.val (.int .i64 d_1), .imm (.slice kE) d_2]), (1, .box [.val (.int .i64 (List.getD d_2 (Int.toNat i_16) zE).1), .val (.int .i64 (List.getD d_2 (Int.toNat i_16) zE).2.1), .val (.string (List.getD d_2 (Int.toNat i_16) zE).2.2)])]) ?_ ?_
          · skip
            rcases Bool.eq_false_or_eq_true ((decide ((List.getD d_2 (Int.toNat i_16) zE).1 < last_13))) with b_47 | b_47
            · have H_133 := of_t H_130 b_47
              refine V_reg hN hn [] [(75, true)] calls_nil 2 [1, 5, 6, 7, 112] [0, 1] ⟨[(1, .c (.h 0)), (5, cI size_15), (6, cI i_16), (7, .c (.h 1)), (112, cB true)], [(0, .box [.val (.int .i64 d_1), .imm (.slice kE) d_2]), (1, .box [.val (.int .i64 (List.getD d_2 (Int.toNat i_16) zE).1), .val (.int .i64 (List.getD d_2 (Int.toNat i_16) zE).2.1), .val (.string (List.getD d_2 (Int.toNat i_16) zE).2.2)])], 2⟩ [(decide ((List.getD d_2 (Int.toNat i_16) zE).1 < last_13)) = true] (by kernel_rfl) rfl rfl (ap1 b_47) (by kernel_rfl) (by kernel_rfl) ?_
              have H_135 := Option.some.inj (show some true = some q_129 from H_133); subst H_135
              refine VL_nil ?_
              exact QP_end true rfl [(0, 0), (1, 1)] hn (by kernel_rfl) (by kernel_rfl) rfl rfl rfl
            · have H_134 := of_f H_130 b_47
              rcases Bool.eq_false_or_eq_true ((decide (i_16 > (0 : Int)))) with b_49 | b_49
              · have H_136 := of_t H_134 b_49
                rcases Bool.eq_false_or_eq_true ((!text_14)) with b_50 | b_50
                · have H_138 := of_t H_136 b_50
                  rcases Bool.eq_false_or_eq_true (((List.getD d_2 (Int.toNat i_16) zE).1 == last_13)) with b_51 | b_51
                  · have H_140 := of_t H_138 b_51
                    refine V_reg hN hn [] [(75, false), (78, true), (82, true), (89, true)] calls_nil 2 [1, 5, 6, 7, 112] [0, 1] ⟨[(1, .c (.h 0)), (5, cI size_15), (6, cI i_16), (7, .c (.h 1)), (112, cB true)], [(0, .box [.val (.int .i64 d_1), .imm (.slice kE) d_2]), (1, .box [.val (.int .i64 (List.getD d_2 (Int.toNat i_16) zE).1), .val (.int .i64 (List.getD d_2 (Int.toNat i_16) zE).2.1), .val (.string (List.getD d_2 (Int.toNat i_16) zE).2.2)])], 2⟩ [(decide ((List.getD d_2 (Int.toNat i_16) zE).1 < last_13)) = false, (decide (i_16 > (0 : Int))) = true, (!text_14) = true, ((List.getD d_2 (Int.toNat i_16) zE).1 == last_13) = true] (by kernel_rfl) rfl rfl (ap2 b_47 (ap2 b_49 (ap2 b_50 (ap1 b_51)))) (by kernel_rfl) (by kernel_rfl) ?_
                    have H_142 := Option.some.inj (show some true = some q_129 from H_140); subst H_142
                    refine VL_nil ?_
                    exact QP_end true rfl [(0, 0), (1, 1)] hn (by kernel_rfl) (by kernel_rfl) rfl rfl rfl
                  · have H_141 := of_f H_138 b_51
                    rcases Bool.eq_false_or_eq_true ((decide ((List.getD d_2 (Int.toNat i_16) zE).2.1 ≤ (List.getD d_2 (Int.toNat i_16) zE).1))) with b_53 | b_53
                    · have H_143 := of_t H_141 b_53
                      refine V_reg hN hn [] [(75, false), (78, true), (82, true), (89, false), (96, true)] calls_nil 2 [1, 5, 6, 7, 112] [0, 1] ⟨[(1, .c (.h 0)), (5, cI size_15), (6, cI i_16), (7, .c (.h 1)), (112, cB true)], [(0, .box [.val (.int .i64 d_1), .imm (.slice kE) d_2]), (1, .box [.val (.int .i64 (List.getD d_2 (Int.toNat i_16) zE).1), .val (.int .i64 (List.getD d_2 (Int.toNat i_16) zE).2.1), .val (.string (List.getD d_2 (Int.toNat i_16) zE).2.2)])], 2⟩ [(decide ((List.getD d_2 (Int.toNat i_16) zE).1 < last_13)) = false, (decide (i_16 > (0 : Int))) = true, (!text_14) = true, ((List.getD d_2 (Int.toNat i_16) zE).1 == last_13) = false, (decide ((List.getD d_2 (Int.toNat i_16) zE).2.1 ≤ (List.getD d_2 (Int.toNat i_16) zE).1)) = true] (by kernel_rfl) rfl rfl (ap2 b_47 (ap2 b_49 (ap2 b_50 (ap2 b_51 (ap1 b_53))))) (by kernel_rfl) (by kernel_rfl) ?_
                      have H_145 := Option.some.inj (show some true = some q_129 from H_143); subst H_145
                      refine VL_nil ?_
                      exact QP_end true rfl [(0, 0), (1, 1)] hn (by kernel_rfl) (by kernel_rfl) rfl rfl rfl
                    · have H_144 := of_f H_141 b_53
                      rcases Bool.eq_false_or_eq_true ((decide ((List.getD d_2 (Int.toNat i_16) zE).2.1 > d_1))) with b_55 | b_55
                      · have H_146 := of_t H_144 b_55
                        refine V_reg hN hn [] [(75, false), (78, true), (82, true), (89, false), (96, false), (103, true)] calls_nil 2 [1, 5, 6, 7, 112] [0, 1] ⟨[(1, .c (.h 0)), (5, cI size_15), (6, cI i_16), (7, .c (.h 1)), (112, cB true)], [(0, .box [.val (.int .i64 d_1), .imm (.slice kE) d_2]), (1, .box [.val (.int .i64 (List.getD d_2 (Int.toNat i_16) zE).1), .val (.int .i64 (List.getD d_2 (Int.toNat i_16) zE).2.1), .val (.string (List.getD d_2 (Int.toNat i_16) zE).2.2)])], 2⟩ [(decide ((List.getD d_2 (Int.toNat i_16) zE).1 < last_13)) = false, (decide (i_16 > (0 : Int))) = true, (!text_14) = true, ((List.getD d_2 (Int.toNat i_16) zE).1 == last_13) = false, (decide ((List.getD d_2 (Int.toNat i_16) zE).2.1 ≤ (List.getD d_2 (Int.toNat i_16) zE).1)) = false, (decide ((List.getD d_2 (Int.toNat i_16) zE).2.1 > d_1)) = true] (by kernel_rfl) rfl rfl (ap2 b_47 (ap2 b_49 (ap2 b_50 (ap2 b_51 (ap2 b_53 (ap1 b_55)))))) (by kernel_rfl) (by kernel_rfl) ?_
                        have H_148 := Option.some.inj (show some true = some q_129 from H_146); subst H_148
                        refine VL_nil ?_
                        exact QP_end true rfl [(0, 0), (1, 1)] hn (by kernel_rfl) (by kernel_rfl) rfl rfl rfl
                      · have H_147 := of_f H_144 b_55
                        refine V_reg hN hn [] [(75, false), (78, true), (82, true), (89, false), (96, false), (103, false)] calls_nil 2 [1, 5, 6, 7, 112] [0, 1] ⟨[(1, .c (.h 0)), (5, cI size_15), (6, cI i_16), (7, .c (.h 1)), (112, cB (decide ((w6 ((List.getD d_2 (Int.toNat i_16) zE).2.1 - (List.getD d_2 (Int.toNat i_16) zE).1)) > (w6 ((20000 : Int) - size_15)))))], [(0, .box [.val (.int .i64 d_1), .imm (.slice kE) d_2]), (1, .box [.val (.int .i64 (List.getD d_2 (Int.toNat i_16) zE).1), .val (.int .i64 (List.getD d_2 (Int.toNat i_16) zE).2.1), .val (.string (List.getD d_2 (Int.toNat i_16) zE).2.2)])], 2⟩ [(decide ((List.getD d_2 (Int.toNat i_16) zE).1 < last_13)) = false, (decide (i_16 > (0 : Int))) = true, (!text_14) = true, ((List.getD d_2 (Int.toNat i_16) zE).1 == last_13) = false, (decide ((List.getD d_2 (Int.toNat i_16) zE).2.1 ≤ (List.getD d_2 (Int.toNat i_16) zE).1)) = false, (decide ((List.getD d_2 (Int.toNat i_16) zE).2.1 > d_1)) = false] (by kernel_rfl) rfl rfl (ap2 b_47 (ap2 b_49 (ap2 b_50 (ap2 b_51 (ap2 b_53 (ap1 b_55)))))) (by kernel_rfl) (by kernel_rfl) ?_
                        have H_149 := Option.some.inj (show some (decide ((w6 ((List.getD d_2 (Int.toNat i_16) zE).2.1 - (List.getD d_2 (Int.toNat i_16) zE).1)) > (w6 ((20000 : Int) - size_15)))) = some q_129 from H_147); subst H_149
                        refine VL_nil ?_
                        exact QP_end (decide ((w6 ((List.getD d_2 (Int.toNat i_16) zE).2.1 - (List.getD d_2 (Int.toNat i_16) zE).1)) > (w6 ((20000 : Int) - size_15)))) rfl [(0, 0), (1, 1)] hn (by kernel_rfl) (by kernel_rfl) rfl rfl rfl
                · have H_139 := of_f H_136 b_50
                  rcases Bool.eq_false_or_eq_true ((decide ((List.getD d_2 (Int.toNat i_16) zE).2.1 ≤ (List.getD d_2 (Int.toNat i_16) zE).1))) with b_58 | b_58
                  · have H_150 := of_t H_139 b_58
                    refine V_reg hN hn [] [(75, false), (78, true), (82, false), (96, true)] calls_nil 2 [1, 5, 6, 7, 112] [0, 1] ⟨[(1, .c (.h 0)), (5, cI size_15), (6, cI i_16), (7, .c (.h 1)), (112, cB true)], [(0, .box [.val (.int .i64 d_1), .imm (.slice kE) d_2]), (1, .box [.val (.int .i64 (List.getD d_2 (Int.toNat i_16) zE).1), .val (.int .i64 (List.getD d_2 (Int.toNat i_16) zE).2.1), .val (.string (List.getD d_2 (Int.toNat i_16) zE).2.2)])], 2⟩ [(decide ((List.getD d_2 (Int.toNat i_16) zE).1 < last_13)) = false, (decide (i_16 > (0 : Int))) = true, (!text_14) = false, (decide ((List.getD d_2 (Int.toNat i_16) zE).2.1 ≤ (List.getD d_2 (Int.toNat i_16) zE).1)) = true] (by kernel_rfl) rfl rfl (ap2 b_47 (ap2 b_49 (ap2 b_50 (ap1 b_58)))) (by kernel_rfl) (by kernel_rfl) ?_
                    have H_152 := Option.some.inj (show some true = some q_129 from H_150); subst H_152
                    refine VL_nil ?_
                    exact QP_end true rfl [(0, 0), (1, 1)] hn (by kernel_rfl) (by kernel_rfl) rfl rfl rfl
                  · have H_151 := of_f H_139 b_58
                    rcases Bool.eq_false_or_eq_true ((decide ((List.getD d_2 (Int.toNat i_16) zE).2.1 > d_1))) with b_60 | b_60
                    · have H_153 := of_t H_151 b_60
                      refine V_reg hN hn [] [(75, false), (78, true), (82, false), (96, false), (103, true)] calls_nil 2 [1, 5, 6, 7, 112] [0, 1] ⟨[(1, .c (.h 0)), (5, cI size_15), (6, cI i_16), (7, .c (.h 1)), (112, cB true)], [(0, .box [.val (.int .i64 d_1), .imm (.slice kE) d_2]), (1, .box [.val (.int .i64 (List.getD d_2 (Int.toNat i_16) zE).1), .val (.int .i64 (List.getD d_2 (Int.toNat i_16) zE).2.1), .val (.string (List.getD d_2 (Int.toNat i_16) zE).2.2)])], 2⟩ [(decide ((List.getD d_2 (Int.toNat i_16) zE).1 < last_13)) = false, (decide (i_16 > (0 : Int))) = true, (!text_14) = false, (decide ((List.getD d_2 (Int.toNat i_16) zE).2.1 ≤ (List.getD d_2 (Int.toNat i_16) zE).1)) = false, (decide ((List.getD d_2 (Int.toNat i_16) zE).2.1 > d_1)) = true] (by kernel_rfl) rfl rfl (ap2 b_47 (ap2 b_49 (ap2 b_50 (ap2 b_58 (ap1 b_60))))) (by kernel_rfl) (by kernel_rfl) ?_
                      have H_155 := Option.some.inj (show some true = some q_129 from H_153); subst H_155
                      refine VL_nil ?_
                      exact QP_end true rfl [(0, 0), (1, 1)] hn (by kernel_rfl) (by kernel_rfl) rfl rfl rfl
                    · have H_154 := of_f H_151 b_60
                      refine V_reg hN hn [] [(75, false), (78, true), (82, false), (96, false), (103, false)] calls_nil 2 [1, 5, 6, 7, 112] [0, 1] ⟨[(1, .c (.h 0)), (5, cI size_15), (6, cI i_16), (7, .c (.h 1)), (112, cB (decide ((w6 ((List.getD d_2 (Int.toNat i_16) zE).2.1 - (List.getD d_2 (Int.toNat i_16) zE).1)) > (w6 ((20000 : Int) - size_15)))))], [(0, .box [.val (.int .i64 d_1), .imm (.slice kE) d_2]), (1, .box [.val (.int .i64 (List.getD d_2 (Int.toNat i_16) zE).1), .val (.int .i64 (List.getD d_2 (Int.toNat i_16) zE).2.1), .val (.string (List.getD d_2 (Int.toNat i_16) zE).2.2)])], 2⟩ [(decide ((List.getD d_2 (Int.toNat i_16) zE).1 < last_13)) = false, (decide (i_16 > (0 : Int))) = true, (!text_14) = false, (decide ((List.getD d_2 (Int.toNat i_16) zE).2.1 ≤ (List.getD d_2 (Int.toNat i_16) zE).1)) = false, (decide ((List.getD d_2 (Int.toNat i_16) zE).2.1 > d_1)) = false] (by kernel_rfl) rfl rfl (ap2 b_47 (ap2 b_49 (ap2 b_50 (ap2 b_58 (ap1 b_60))))) (by kernel_rfl) (by kernel_rfl) ?_
                      have H_156 := Option.some.inj (show some (decide ((w6 ((List.getD d_2 (Int.toNat i_16) zE).2.1 - (List.getD d_2 (Int.toNat i_16) zE).1)) > (w6 ((20000 : Int) - size_15)))) = some q_129 from H_154); subst H_156
                      refine VL_nil ?_
                      exact QP_end (decide ((w6 ((List.getD d_2 (Int.toNat i_16) zE).2.1 - (List.getD d_2 (Int.toNat i_16) zE).1)) > (w6 ((20000 : Int) - size_15)))) rfl [(0, 0), (1, 1)] hn (by kernel_rfl) (by kernel_rfl) rfl rfl rfl
              · have H_137 := of_f H_134 b_49
                rcases Bool.eq_false_or_eq_true ((decide ((List.getD d_2 (Int.toNat i_16) zE).2.1 ≤ (List.getD d_2 (Int.toNat i_16) zE).1))) with b_63 | b_63
                · have H_157 := of_t H_137 b_63
                  refine V_reg hN hn [] [(75, false), (78, false), (96, true)] calls_nil 2 [1, 5, 6, 7, 112] [0, 1] ⟨[(1, .c (.h 0)), (5, cI size_15), (6, cI i_16), (7, .c (.h 1)), (112, cB true)], [(0, .box [.val (.int .i64 d_1), .imm (.slice kE) d_2]), (1, .box [.val (.int .i64 (List.getD d_2 (Int.toNat i_16) zE).1), .val (.int .i64 (List.getD d_2 (Int.toNat i_16) zE).2.1), .val (.string (List.getD d_2 (Int.toNat i_16) zE).2.2)])], 2⟩ [(decide ((List.getD d_2 (Int.toNat i_16) zE).1 < last_13)) = false, (decide (i_16 > (0 : Int))) = false, (decide ((List.getD d_2 (Int.toNat i_16) zE).2.1 ≤ (List.getD d_2 (Int.toNat i_16) zE).1)) = true] (by kernel_rfl) rfl rfl (ap2 b_47 (ap2 b_49 (ap1 b_63))) (by kernel_rfl) (by kernel_rfl) ?_
                  have H_159 := Option.some.inj (show some true = some q_129 from H_157); subst H_159
                  refine VL_nil ?_
                  exact QP_end true rfl [(0, 0), (1, 1)] hn (by kernel_rfl) (by kernel_rfl) rfl rfl rfl
                · have H_158 := of_f H_137 b_63
                  rcases Bool.eq_false_or_eq_true ((decide ((List.getD d_2 (Int.toNat i_16) zE).2.1 > d_1))) with b_65 | b_65
                  · have H_160 := of_t H_158 b_65
                    refine V_reg hN hn [] [(75, false), (78, false), (96, false), (103, true)] calls_nil 2 [1, 5, 6, 7, 112] [0, 1] ⟨[(1, .c (.h 0)), (5, cI size_15), (6, cI i_16), (7, .c (.h 1)), (112, cB true)], [(0, .box [.val (.int .i64 d_1), .imm (.slice kE) d_2]), (1, .box [.val (.int .i64 (List.getD d_2 (Int.toNat i_16) zE).1), .val (.int .i64 (List.getD d_2 (Int.toNat i_16) zE).2.1), .val (.string (List.getD d_2 (Int.toNat i_16) zE).2.2)])], 2⟩ [(decide ((List.getD d_2 (Int.toNat i_16) zE).1 < last_13)) = false, (decide (i_16 > (0 : Int))) = false, (decide ((List.getD d_2 (Int.toNat i_16) zE).2.1 ≤ (List.getD d_2 (Int.toNat i_16) zE).1)) = false, (decide ((List.getD d_2 (Int.toNat i_16) zE).2.1 > d_1)) = true] (by kernel_rfl) rfl rfl (ap2 b_47 (ap2 b_49 (ap2 b_63 (ap1 b_65)))) (by kernel_rfl) (by kernel_rfl) ?_
                    have H_162 := Option.some.inj (show some true = some q_129 from H_160); subst H_162
                    refine VL_nil ?_
                    exact QP_end true rfl [(0, 0), (1, 1)] hn (by kernel_rfl) (by kernel_rfl) rfl rfl rfl
                  · have H_161 := of_f H_158 b_65
                    refine V_reg hN hn [] [(75, false), (78, false), (96, false), (103, false)] calls_nil 2 [1, 5, 6, 7, 112] [0, 1] ⟨[(1, .c (.h 0)), (5, cI size_15), (6, cI i_16), (7, .c (.h 1)), (112, cB (decide ((w6 ((List.getD d_2 (Int.toNat i_16) zE).2.1 - (List.getD d_2 (Int.toNat i_16) zE).1)) > (w6 ((20000 : Int) - size_15)))))], [(0, .box [.val (.int .i64 d_1), .imm (.slice kE) d_2]), (1, .box [.val (.int .i64 (List.getD d_2 (Int.toNat i_16) zE).1), .val (.int .i64 (List.getD d_2 (Int.toNat i_16) zE).2.1), .val (.string (List.getD d_2 (Int.toNat i_16) zE).2.2)])], 2⟩ [(decide ((List.getD d_2 (Int.toNat i_16) zE).1 < last_13)) = false, (decide (i_16 > (0 : Int))) = false, (decide ((List.getD d_2 (Int.toNat i_16) zE).2.1 ≤ (List.getD d_2 (Int.toNat i_16) zE).1)) = false, (decide ((List.getD d_2 (Int.toNat i_16) zE).2.1 > d_1)) = false] (by kernel_rfl) rfl rfl (ap2 b_47 (ap2 b_49 (ap2 b_63 (ap1 b_65)))) (by kernel_rfl) (by kernel_rfl) ?_
                    have H_163 := Option.some.inj (show some (decide ((w6 ((List.getD d_2 (Int.toNat i_16) zE).2.1 - (List.getD d_2 (Int.toNat i_16) zE).1)) > (w6 ((20000 : Int) - size_15)))) = some q_129 from H_161); subst H_163
                    refine VL_nil ?_
                    exact QP_end (decide ((w6 ((List.getD d_2 (Int.toNat i_16) zE).2.1 - (List.getD d_2 (Int.toNat i_16) zE).1)) > (w6 ((20000 : Int) - size_15)))) rfl [(0, 0), (1, 1)] hn (by kernel_rfl) (by kernel_rfl) rfl rfl rfl
          · intro y_132 hy; subst hy
            skip
            skip
            refine VL_cond (y_132) (by kernel_rfl) ?_ ?_
            · intro b_69; have H_164 := of_t H_131 b_69
              refine V_run hN hn 2 2 [2] [] ⟨[(2, cB false)], [], 2⟩ [] (by kernel_rfl) rfl rfl ap0 ?_
              have H_166 := Option.some.inj (show some false = some r from H_164); subst H_166
              refine VL_ret ?_
              refine QB_ret ?_
              refine QL_ret ?_
              refine QB_ret ?_
              exact P_to [(2, cB false)] [] [] hn (by kernel_rfl) (by kernel_rfl) rfl rfl rfl (QF_retS (by kernel_rfl) (by kernel_rfl) rfl)
            · intro b_69; have H_165 := of_f H_131 b_69
              refine V_run hN hn 4 2 [1, 3, 4, 5, 6] [0] ⟨[(1, .c (.h 0)), (3, .c (.val (.int .i64 (List.getD d_2 (Int.toNat i_16) zE).2.1))), (4, cB false), (5, cI (w6 ((w6 (size_15 + (List.getD d_2 (Int.toNat i_16) zE).2.1)) - (List.getD d_2 (Int.toNat i_16) zE).1))), (6, cI i_16)], [(0, .box [.val (.int .i64 d_1), .imm (.slice kE) d_2])], 2⟩ [] (by kernel_rfl) rfl rfl ap0 ?_
              refine VL_nil (QB_end ?_)
              refine V_run hN hn 1 2 [1, 3, 4, 5, 6] [0] ⟨[(1, .c (.h 0)), (3, .c (.val (.int .i64 (List.getD d_2 (Int.toNat i_16) zE).2.1))), (4, cB false), (5, cI (w6 ((w6 (size_15 + (List.getD d_2 (Int.toNat i_16) zE).2.1)) - (List.getD d_2 (Int.toNat i_16) zE).1))), (6, cI (w6 (i_16 + (1 : Int))))], [(0, .box [.val (.int .i64 d_1), .imm (.slice kE) d_2])], 2⟩ [] (by kernel_rfl) rfl rfl ap0 ?_
              refine VL_nil ?_
              exact V_roundEnd ((List.getD d_2 (Int.toNat i_16) zE).2.1, false, (w6 ((w6 (size_15 + (List.getD d_2 (Int.toNat i_16) zE).2.1)) - (List.getD d_2 (Int.toNat i_16) zE).1)), (w6 (i_16 + (1 : Int)))) H_165 [(0, 0)] hn (by kernel_rfl) (by kernel_rfl) rfl rfl rfl
      · intro b_19; have H_97 := of_f H_95 b_19
        refine VL_exit ?_
        refine QL_exit ?_
        refine QB_here ?_
        refine V_run hN hn 2 1 [2] [] ⟨[(2, cB true)], [], 1⟩ [] (by kernel_rfl) rfl rfl ap0 ?_
        have H_167 := Option.some.inj (show some true = some r from H_97); subst H_167
        refine VL_ret ?_
        exact P_to [(2, cB true)] [] [] hn (by kernel_rfl) (by kernel_rfl) rfl rfl rfl (QF_retS (by kernel_rfl) (by kernel_rfl) rfl)

theorem palinoderef11_Cells_spec (K : Nat) (d_1 : Int) (d_2 : (List (Int × (Int × ByteArray)))) (r : (List (Int × Int))) (H : palinoderef11_Cells K d_1 d_2 = some r) : Spec Try.prog 64 0 [.agg [.val (.int .i64 d_1), .imm (.slice kE) d_2]] [] (.c (.h 9)) [(9, .row (.pair (.int .i64) (.int .u8)) r)] := by
  refine Spec_mk (fn := Try.f64) (c := (Try.f64.body).get!) Try.func64 (by kernel_rfl) rfl ?_
  intro C hN hn
  replace hN : C.N = 49 := hN
  unfold palinoderef11_Cells at H
  refine V_run hN hn 7 0 [1, 3, 4] [0] ⟨[(1, .c (.h 0)), (3, .c (.val (.slice none 0 0))), (4, cI (0 : Int))], [(0, .box [.val (.int .i64 d_1), .imm (.slice kE) d_2])], 1⟩ [] (by kernel_rfl) rfl rfl ap0 ?_
  refine VL_block ?_
  refine V_ghost [.nilSlot 3 (.pair (.int .i64) (.int .u8))] 1 hn [1, 3, 4] [0, 1] ⟨[(1, .c (.h 0)), (3, .c (.h 1)), (4, cI (0 : Int))], [(0, .box [.val (.int .i64 d_1), .imm (.slice kE) d_2]), (1, .row (.pair (.int .i64) (.int .u8)) ([] : List (Int × Int)))], 2⟩ (by kernel_rfl) rfl rfl ?_
  refine V_to [(1, .c (.h 0)), (3, .c (.h 9)), (4, cI (0 : Int))] [(0, .box [.val (.int .i64 d_1), .imm (.slice kE) d_2]), (9, .row (.pair (.int .i64) (.int .u8)) ([] : List (Int × Int)))] [(0, 0), (9, 1)] hn (by kernel_rfl) (by kernel_rfl) rfl rfl rfl ?_
  refine VL_loop (X := ((List (Int × Int)) × Int)) (fun x => [(1, .c (.h 0)), (3, .c (.h 9)), (4, cI x.2)]) (fun x => [(0, .box [.val (.int .i64 d_1), .imm (.slice kE) d_2]), (9, .row (.pair (.int .i64) (.int .u8)) x.1)]) (fun k x => palinoderef11_Cells.l0 K d_2 k x.1 x.2 = some r) K (([] : List (Int × Int)), (0 : Int)) H (fun _ h => no_none h) ?_
  intro k_44 x_44 H_87
  obtain ⟨out_43, i_4⟩ := x_44
  have H_88 : palinoderef11_Cells.l0 K d_2 (k_44 + 1) out_43 i_4 = some r := H_87
  rw [palinoderef11_Cells.l0] at H_88
  refine V_run hN hn 3 10 [1, 3, 4, 12] [0, 9] ⟨[(1, .c (.h 0)), (3, .c (.h 9)), (4, cI i_4), (12, cB (decide (i_4 < (lnI d_2))))], [(0, .box [.val (.int .i64 d_1), .imm (.slice kE) d_2]), (9, .row (.pair (.int .i64) (.int .u8)) out_43)], 10⟩ [] (by kernel_rfl) rfl rfl ap0 ?_
  refine VL_cond ((decide (i_4 < (lnI d_2)))) (by kernel_rfl) ?_ ?_
  · intro b_46; have H_89 := of_t H_88 b_46
    refine V_run hN hn 2 10 [1, 3, 4, 12] [0, 9] ⟨[(1, .c (.h 0)), (3, .c (.h 9)), (4, cI i_4), (12, cB (decide (i_4 < (lnI d_2))))], [(0, .box [.val (.int .i64 d_1), .imm (.slice kE) d_2]), (9, .row (.pair (.int .i64) (.int .u8)) out_43)], 10⟩ [] (by kernel_rfl) rfl rfl ap0 ?_
    obtain ⟨q_91, H_92, H_93⟩ := of_bind H_89
    refine V_cut (Y := (List (Int × Int))) (R := (List (Int × Int))) q_91 (fun y => y) (fun y => [(1, .c (.h 0)), (3, .c (.h 16)), (4, cI i_4)]) (fun y => [(0, .box [.val (.int .i64 d_1), .imm (.slice kE) d_2]), (16, .row (.pair (.int .i64) (.int .u8)) y)]) ?_ ?_
    · skip
      refine VL_block ?_
      obtain ⟨c_48, H_95⟩ := of_if H_92
      refine V_run hN hn 5 10 [1, 3, 4, 5, 6] [0, 9, 10] ⟨[(1, .c (.h 0)), (3, .c (.h 9)), (4, cI i_4), (5, .c (.h 10)), (6, cI (0 : Int))], [(0, .box [.val (.int .i64 d_1), .imm (.slice kE) d_2]), (9, .row (.pair (.int .i64) (.int .u8)) out_43), (10, .box [.val (.int .i64 (List.getD d_2 (Int.toNat i_4) zE).1), .val (.int .i64 (List.getD d_2 (Int.toNat i_4) zE).2.1), .val (.string (List.getD d_2 (Int.toNat i_4) zE).2.2)])], 11⟩ [0 ≤ i_4, i_4 < (lnI d_2)] (by kernel_rfl) rfl rfl (ap2 c_48.1 (ap1 c_48.2)) ?_
      obtain ⟨q_96, H_97, H_98⟩ := of_bind H_95
      refine V_cut (Y := (List (Int × Int))) (R := (List (Int × Int))) q_96 (fun y => y) (fun y => [(1, .c (.h 0)), (3, .c (.h 13)), (4, cI i_4), (5, .c (.h 10))]) (fun y => [(0, .box [.val (.int .i64 d_1), .imm (.slice kE) d_2]), (10, .box [.val (.int .i64 (List.getD d_2 (Int.toNat i_4) zE).1), .val (.int .i64 (List.getD d_2 (Int.toNat i_4) zE).2.1), .val (.string (List.getD d_2 (Int.toNat i_4) zE).2.2)]), (13, .row (.pair (.int .i64) (.int .u8)) y)]) ?_ ?_
      · skip
        refine VL_block ?_
        refine V_to [(1, .c (.h 0)), (3, .c (.h 13)), (4, cI i_4), (5, .c (.h 10)), (6, cI (0 : Int))] [(0, .box [.val (.int .i64 d_1), .imm (.slice kE) d_2]), (10, .box [.val (.int .i64 (List.getD d_2 (Int.toNat i_4) zE).1), .val (.int .i64 (List.getD d_2 (Int.toNat i_4) zE).2.1), .val (.string (List.getD d_2 (Int.toNat i_4) zE).2.2)]), (13, .row (.pair (.int .i64) (.int .u8)) out_43)] [(0, 0), (10, 10), (13, 9)] hn (by kernel_rfl) (by kernel_rfl) rfl rfl rfl ?_
        refine VL_loop (X := ((List (Int × Int)) × Int)) (fun x => [(1, .c (.h 0)), (3, .c (.h 13)), (4, cI i_4), (5, .c (.h 10)), (6, cI x.2)]) (fun x => [(0, .box [.val (.int .i64 d_1), .imm (.slice kE) d_2]), (10, .box [.val (.int .i64 (List.getD d_2 (Int.toNat i_4) zE).1), .val (.int .i64 (List.getD d_2 (Int.toNat i_4) zE).2.1), .val (.string (List.getD d_2 (Int.toNat i_4) zE).2.2)]), (13, .row (.pair (.int .i64) (.int .u8)) x.1)]) (fun k x => palinoderef11_Cells.l1 K d_2 i_4 k x.1 x.2 = some q_96) K (out_43, (0 : Int)) H_97 (fun _ h => no_none h) ?_
        intro k_57 x_57 H_100
        obtain ⟨out_56, k_49⟩ := x_57
        have H_101 : palinoderef11_Cells.l1 K d_2 i_4 (k_57 + 1) out_56 k_49 = some q_96 := H_100
        rw [palinoderef11_Cells.l1] at H_101
        refine V_run hN hn 3 14 [1, 3, 4, 5, 6, 24] [0, 10, 13] ⟨[(1, .c (.h 0)), (3, .c (.h 13)), (4, cI i_4), (5, .c (.h 10)), (6, cI k_49), (24, cB (decide (k_49 < (((ByteArray.size (List.getD d_2 (Int.toNat i_4) zE).2.2) : Nat) : Int))))], [(0, .box [.val (.int .i64 d_1), .imm (.slice kE) d_2]), (10, .box [.val (.int .i64 (List.getD d_2 (Int.toNat i_4) zE).1), .val (.int .i64 (List.getD d_2 (Int.toNat i_4) zE).2.1), .val (.string (List.getD d_2 (Int.toNat i_4) zE).2.2)]), (13, .row (.pair (.int .i64) (.int .u8)) out_56)], 14⟩ [] (by kernel_rfl) rfl rfl ap0 ?_
        refine VL_cond ((decide (k_49 < (((ByteArray.size (List.getD d_2 (Int.toNat i_4) zE).2.2) : Nat) : Int)))) (by kernel_rfl) ?_ ?_
        · intro b_59; have H_102 := of_t H_101 b_59
          refine V_run hN hn 2 14 [1, 3, 4, 5, 6, 24] [0, 10, 13] ⟨[(1, .c (.h 0)), (3, .c (.h 13)), (4, cI i_4), (5, .c (.h 10)), (6, cI k_49), (24, cB (decide (k_49 < (((ByteArray.size (List.getD d_2 (Int.toNat i_4) zE).2.2) : Nat) : Int))))], [(0, .box [.val (.int .i64 d_1), .imm (.slice kE) d_2]), (10, .box [.val (.int .i64 (List.getD d_2 (Int.toNat i_4) zE).1), .val (.int .i64 (List.getD d_2 (Int.toNat i_4) zE).2.1), .val (.string (List.getD d_2 (Int.toNat i_4) zE).2.2)]), (13, .row (.pair (.int .i64) (.int .u8)) out_56)], 14⟩ [] (by kernel_rfl) rfl rfl ap0 ?_
          refine VL_block ?_
          obtain ⟨c_61, H_104⟩ := of_if H_102
          refine V_run hN hn 1 14 [1, 3, 4, 5, 6] [0, 10, 15] ⟨[(1, .c (.h 0)), (3, .c (.h 15)), (4, cI i_4), (5, .c (.h 10)), (6, cI k_49)], [(0, .box [.val (.int .i64 d_1), .imm (.slice kE) d_2]), (10, .box [.val (.int .i64 (List.getD d_2 (Int.toNat i_4) zE).1), .val (.int .i64 (List.getD d_2 (Int.toNat i_4) zE).2.1), .val (.string (List.getD d_2 (Int.toNat i_4) zE).2.2)]), (15, .row (.pair (.int .i64) (.int .u8)) (out_56 ++ ([((-1 : Int), (bt (List.getD d_2 (Int.toNat i_4) zE).2.2 k_49))] : List (Int × Int))))], 16⟩ [0 ≤ k_49, k_49 < (((ByteArray.size (List.getD d_2 (Int.toNat i_4) zE).2.2) : Nat) : Int), (List.length out_56 + List.length ([((-1 : Int), (bt (List.getD d_2 (Int.toNat i_4) zE).2.2 k_49))] : List (Int × Int))) * 16 ≤ 140737488355328] (by kernel_rfl) rfl rfl (ap2 c_61.1 (ap2 c_61.2.1 (ap1 c_61.2.2))) ?_
          refine VL_nil (QB_end ?_)
          refine V_run hN hn 1 16 [1, 3, 4, 5, 6] [0, 10, 15] ⟨[(1, .c (.h 0)), (3, .c (.h 15)), (4, cI i_4), (5, .c (.h 10)), (6, cI (w6 (k_49 + (1 : Int))))], [(0, .box [.val (.int .i64 d_1), .imm (.slice kE) d_2]), (10, .box [.val (.int .i64 (List.getD d_2 (Int.toNat i_4) zE).1), .val (.int .i64 (List.getD d_2 (Int.toNat i_4) zE).2.1), .val (.string (List.getD d_2 (Int.toNat i_4) zE).2.2)]), (15, .row (.pair (.int .i64) (.int .u8)) (out_56 ++ ([((-1 : Int), (bt (List.getD d_2 (Int.toNat i_4) zE).2.2 k_49))] : List (Int × Int))))], 16⟩ [] (by kernel_rfl) rfl rfl ap0 ?_
          refine VL_nil ?_
          exact V_roundEnd ((out_56 ++ ([((-1 : Int), (bt (List.getD d_2 (Int.toNat i_4) zE).2.2 k_49))] : List (Int × Int))), (w6 (k_49 + (1 : Int)))) H_104 [(0, 0), (10, 10), (13, 15)] hn (by kernel_rfl) (by kernel_rfl) rfl rfl rfl
        · intro b_59; have H_103 := of_f H_101 b_59
          refine VL_exit ?_
          refine QL_exit ?_
          refine QB_here ?_
          have H_105 := Option.some.inj (show some out_56 = some q_96 from H_103); subst H_105
          refine VL_nil ?_
          exact QP_end out_56 rfl [(0, 0), (10, 10), (13, 13)] hn (by kernel_rfl) (by kernel_rfl) rfl rfl rfl
      · intro y_99 hy; subst hy
        skip
        skip
        refine V_run hN hn 2 14 [1, 3, 4, 5, 7] [0, 10, 13] ⟨[(1, .c (.h 0)), (3, .c (.h 13)), (4, cI i_4), (5, .c (.h 10)), (7, .c (.val (.int .i64 (List.getD d_2 (Int.toNat i_4) zE).1)))], [(0, .box [.val (.int .i64 d_1), .imm (.slice kE) d_2]), (10, .box [.val (.int .i64 (List.getD d_2 (Int.toNat i_4) zE).1), .val (.int .i64 (List.getD d_2 (Int.toNat i_4) zE).2.1), .val (.string (List.getD d_2 (Int.toNat i_4) zE).2.2)]), (13, .row (.pair (.int .i64) (.int .u8)) y_99)], 14⟩ [] (by kernel_rfl) rfl rfl ap0 ?_
        refine VL_block ?_
        refine V_to [(1, .c (.h 0)), (3, .c (.h 16)), (4, cI i_4), (5, .c (.h 10)), (7, .c (.val (.int .i64 (List.getD d_2 (Int.toNat i_4) zE).1)))] [(0, .box [.val (.int .i64 d_1), .imm (.slice kE) d_2]), (10, .box [.val (.int .i64 (List.getD d_2 (Int.toNat i_4) zE).1), .val (.int .i64 (List.getD d_2 (Int.toNat i_4) zE).2.1), .val (.string (List.getD d_2 (Int.toNat i_4) zE).2.2)]), (16, .row (.pair (.int .i64) (.int .u8)) y_99)] [(0, 0), (10, 10), (16, 13)] hn (by kernel_rfl) (by kernel_rfl) rfl rfl rfl ?_
        refine VL_loop (X := ((List (Int × Int)) × Int)) (fun x => [(1, .c (.h 0)), (3, .c (.h 16)), (4, cI i_4), (5, .c (.h 10)), (7, cI x.2)]) (fun x => [(0, .box [.val (.int .i64 d_1), .imm (.slice kE) d_2]), (10, .box [.val (.int .i64 (List.getD d_2 (Int.toNat i_4) zE).1), .val (.int .i64 (List.getD d_2 (Int.toNat i_4) zE).2.1), .val (.string (List.getD d_2 (Int.toNat i_4) zE).2.2)]), (16, .row (.pair (.int .i64) (.int .u8)) x.1)]) (fun k x => palinoderef11_Cells.l2 K d_2 i_4 k x.1 x.2 = some q_91) K (y_99, (List.getD d_2 (Int.toNat i_4) zE).1) H_98 (fun _ h => no_none h) ?_
        intro k_73 x_73 H_106
        obtain ⟨out_72, k_65⟩ := x_73
        have H_107 : palinoderef11_Cells.l2 K d_2 i_4 (k_73 + 1) out_72 k_65 = some q_91 := H_106
        rw [palinoderef11_Cells.l2] at H_107
        refine V_run hN hn 3 17 [1, 3, 4, 5, 7, 40] [0, 10, 16] ⟨[(1, .c (.h 0)), (3, .c (.h 16)), (4, cI i_4), (5, .c (.h 10)), (7, cI k_65), (40, cB (decide (k_65 < (List.getD d_2 (Int.toNat i_4) zE).2.1)))], [(0, .box [.val (.int .i64 d_1), .imm (.slice kE) d_2]), (10, .box [.val (.int .i64 (List.getD d_2 (Int.toNat i_4) zE).1), .val (.int .i64 (List.getD d_2 (Int.toNat i_4) zE).2.1), .val (.string (List.getD d_2 (Int.toNat i_4) zE).2.2)]), (16, .row (.pair (.int .i64) (.int .u8)) out_72)], 17⟩ [] (by kernel_rfl) rfl rfl ap0 ?_
        refine VL_cond ((decide (k_65 < (List.getD d_2 (Int.toNat i_4) zE).2.1))) (by kernel_rfl) ?_ ?_
        · intro b_75; have H_108 := of_t H_107 b_75
          refine V_run hN hn 2 17 [1, 3, 4, 5, 7, 40] [0, 10, 16] ⟨[(1, .c (.h 0)), (3, .c (.h 16)), (4, cI i_4), (5, .c (.h 10)), (7, cI k_65), (40, cB (decide (k_65 < (List.getD d_2 (Int.toNat i_4) zE).2.1)))], [(0, .box [.val (.int .i64 d_1), .imm (.slice kE) d_2]), (10, .box [.val (.int .i64 (List.getD d_2 (Int.toNat i_4) zE).1), .val (.int .i64 (List.getD d_2 (Int.toNat i_4) zE).2.1), .val (.string (List.getD d_2 (Int.toNat i_4) zE).2.2)]), (16, .row (.pair (.int .i64) (.int .u8)) out_72)], 17⟩ [] (by kernel_rfl) rfl rfl ap0 ?_
          refine VL_block ?_
          obtain ⟨c_77, H_110⟩ := of_if H_108
          refine V_run hN hn 1 17 [1, 3, 4, 5, 7] [0, 10, 18] ⟨[(1, .c (.h 0)), (3, .c (.h 18)), (4, cI i_4), (5, .c (.h 10)), (7, cI k_65)], [(0, .box [.val (.int .i64 d_1), .imm (.slice kE) d_2]), (10, .box [.val (.int .i64 (List.getD d_2 (Int.toNat i_4) zE).1), .val (.int .i64 (List.getD d_2 (Int.toNat i_4) zE).2.1), .val (.string (List.getD d_2 (Int.toNat i_4) zE).2.2)]), (18, .row (.pair (.int .i64) (.int .u8)) (out_72 ++ ([(k_65, (0 : Int))] : List (Int × Int))))], 19⟩ [(List.length out_72 + List.length ([(k_65, (0 : Int))] : List (Int × Int))) * 16 ≤ 140737488355328] (by kernel_rfl) rfl rfl (ap1 c_77) ?_
          refine VL_nil (QB_end ?_)
          refine V_run hN hn 1 19 [1, 3, 4, 5, 7] [0, 10, 18] ⟨[(1, .c (.h 0)), (3, .c (.h 18)), (4, cI i_4), (5, .c (.h 10)), (7, cI (w6 (k_65 + (1 : Int))))], [(0, .box [.val (.int .i64 d_1), .imm (.slice kE) d_2]), (10, .box [.val (.int .i64 (List.getD d_2 (Int.toNat i_4) zE).1), .val (.int .i64 (List.getD d_2 (Int.toNat i_4) zE).2.1), .val (.string (List.getD d_2 (Int.toNat i_4) zE).2.2)]), (18, .row (.pair (.int .i64) (.int .u8)) (out_72 ++ ([(k_65, (0 : Int))] : List (Int × Int))))], 19⟩ [] (by kernel_rfl) rfl rfl ap0 ?_
          refine VL_nil ?_
          exact V_roundEnd ((out_72 ++ ([(k_65, (0 : Int))] : List (Int × Int))), (w6 (k_65 + (1 : Int)))) H_110 [(0, 0), (10, 10), (16, 18)] hn (by kernel_rfl) (by kernel_rfl) rfl rfl rfl
        · intro b_75; have H_109 := of_f H_107 b_75
          refine VL_exit ?_
          refine QL_exit ?_
          refine QB_here ?_
          refine VL_nil (QB_end ?_)
          have H_111 := Option.some.inj (show some out_72 = some q_91 from H_109); subst H_111
          refine VL_nil ?_
          exact QP_end out_72 rfl [(0, 0), (16, 16)] hn (by kernel_rfl) (by kernel_rfl) rfl rfl rfl
    · intro y_94 hy; subst hy
      skip
      skip
      refine V_run hN hn 1 17 [1, 3, 4] [0, 16] ⟨[(1, .c (.h 0)), (3, .c (.h 16)), (4, cI (w6 (i_4 + (1 : Int))))], [(0, .box [.val (.int .i64 d_1), .imm (.slice kE) d_2]), (16, .row (.pair (.int .i64) (.int .u8)) y_94)], 17⟩ [] (by kernel_rfl) rfl rfl ap0 ?_
      refine VL_nil ?_
      exact V_roundEnd (y_94, (w6 (i_4 + (1 : Int)))) H_93 [(0, 0), (9, 16)] hn (by kernel_rfl) (by kernel_rfl) rfl rfl rfl
  · intro b_46; have H_90 := of_f H_88 b_46
    refine VL_exit ?_
    refine QL_exit ?_
    refine QB_here ?_
    refine V_run hN hn 2 10 [2] [9] ⟨[(2, .c (.h 9))], [(9, .row (.pair (.int .i64) (.int .u8)) out_43)], 10⟩ [] (by kernel_rfl) rfl rfl ap0 ?_
    have H_112 := Option.some.inj (show some out_43 = some r from H_90); subst H_112
    refine VL_ret ?_
    exact P_to [(2, .c (.h 9))] [(9, .row (.pair (.int .i64) (.int .u8)) out_43)] [(9, 9)] hn (by kernel_rfl) (by kernel_rfl) rfl rfl rfl (QF_retS (by kernel_rfl) (by kernel_rfl) rfl)

theorem palinoderef11_Move_spec (K : Nat) (d_1 : Int) (d_2 : (List (Int × (Int × ByteArray)))) (at_3 : Int) (after_4 : Bool) (r : Int) (H : palinoderef11_Move K d_1 d_2 at_3 after_4 = some r) : Spec Try.prog 42 0 [.agg [.val (.int .i64 d_1), .imm (.slice kE) d_2], cI at_3, cB after_4] [] (cI r) [] := by
  refine Spec_mk (fn := Try.f42) (c := (Try.f42.body).get!) Try.func42 (by kernel_rfl) rfl ?_
  intro C hN hn
  replace hN : C.N = 62 := hN
  unfold palinoderef11_Move at H
  refine V_run hN hn 4 0 [1, 2, 3] [0] ⟨[(1, cI at_3), (2, cB after_4), (3, .c (.h 0))], [(0, .box [.val (.int .i64 d_1), .imm (.slice kE) d_2])], 1⟩ [] (by kernel_rfl) rfl rfl ap0 ?_
  obtain ⟨r_6, h_7, H_54⟩ := of_bind H
  refine V_reg hN hn [(1, ⟨41, 0, [.agg [.val (.int .i64 d_1), .imm (.slice kE) d_2]], [], cB r_6, [], [], 1⟩)] [] (calls_cons (palinoderef11_Is_spec K d_1 d_2 r_6 h_7) (by kernel_rfl) calls_nil) 1 [1, 2, 3, 13] [0] ⟨[(1, cI at_3), (2, cB after_4), (3, .c (.h 0)), (13, cB (!r_6))], [(0, .box [.val (.int .i64 d_1), .imm (.slice kE) d_2])], 1⟩ [] (by kernel_rfl) rfl rfl ap0 (by kernel_rfl) (by kernel_rfl) ?_
  refine VL_cond ((!r_6)) (by kernel_rfl) ?_ ?_
  · intro b_9; have H_55 := of_t H_54 b_9
    refine V_run hN hn 2 1 [6] [] ⟨[(6, cI (0 : Int))], [], 1⟩ [] (by kernel_rfl) rfl rfl ap0 ?_
    have H_57 := Option.some.inj (show some (0 : Int) = some r from H_55); subst H_57
    refine VL_ret ?_
    exact P_to [(6, cI (0 : Int))] [] [] hn (by kernel_rfl) (by kernel_rfl) rfl rfl rfl (QF_retS (by kernel_rfl) (by kernel_rfl) rfl)
  · intro b_9; have H_56 := of_f H_54 b_9
    refine V_run hN hn 4 1 [2, 3, 7] [0] ⟨[(2, cB after_4), (3, .c (.h 0)), (7, cI (mx2 (0 : Int) (mn2 at_3 d_1)))], [(0, .box [.val (.int .i64 d_1), .imm (.slice kE) d_2])], 1⟩ [] (by kernel_rfl) rfl rfl ap0 ?_
    obtain ⟨r_12, h_13, H_58⟩ := of_bind H_56
    refine V_reg hN hn [(1, ⟨64, 0, [.agg [.val (.int .i64 d_1), .imm (.slice kE) d_2]], [], .c (.h 9), [(9, .row (.pair (.int .i64) (.int .u8)) r_12)], [(9, 1)], 2⟩)] [] (calls_cons (palinoderef11_Cells_spec K d_1 d_2 r_12 h_13) (by kernel_rfl) calls_nil) 1 [2, 7, 8] [1] ⟨[(2, cB after_4), (7, cI (mx2 (0 : Int) (mn2 at_3 d_1))), (8, .c (.h 1))], [(1, .row (.pair (.int .i64) (.int .u8)) r_12)], 2⟩ [] (by kernel_rfl) rfl rfl ap0 (by kernel_rfl) (by kernel_rfl) ?_
    refine V_run hN hn 5 2 [2, 7, 8, 9, 10] [1] ⟨[(2, cB after_4), (7, cI (mx2 (0 : Int) (mn2 at_3 d_1))), (8, .c (.h 1)), (9, cI (0 : Int)), (10, cI (0 : Int))], [(1, .row (.pair (.int .i64) (.int .u8)) r_12)], 2⟩ [] (by kernel_rfl) rfl rfl ap0 ?_
    obtain ⟨q_59, H_60, H_61⟩ := of_bind H_58
    refine V_cut (Y := Int) (R := Int) q_59 (fun y => y) (fun y => [(2, cB after_4), (8, .c (.h 1)), (9, cI y)]) (fun y => [(1, .row (.pair (.int .i64) (.int .u8)) r_12)]) ?_ ?_
    · skip
      refine VL_block ?_
      refine V_to [(2, cB after_4), (7, cI (mx2 (0 : Int) (mn2 at_3 d_1))), (8, .c (.h 1)), (9, cI (0 : Int)), (10, cI (0 : Int))] [(1, .row (.pair (.int .i64) (.int .u8)) r_12)] [(1, 1)] hn (by kernel_rfl) (by kernel_rfl) rfl rfl rfl ?_
      refine VL_loop (X := (Int × Int)) (fun x => [(2, cB after_4), (7, cI (mx2 (0 : Int) (mn2 at_3 d_1))), (8, .c (.h 1)), (9, cI x.1), (10, cI x.2)]) (fun x => [(1, .row (.pair (.int .i64) (.int .u8)) r_12)]) (fun k x => palinoderef11_Move.l0 K r_12 at_3 d_1 k x.1 x.2 = some q_59) K zP H_60 (fun _ h => no_none h) ?_
      intro k_18 x_18 H_63
      obtain ⟨n_16, i_17⟩ := x_18
      have H_64 : palinoderef11_Move.l0 K r_12 at_3 d_1 (k_18 + 1) n_16 i_17 = some q_59 := H_63
      rw [palinoderef11_Move.l0] at H_64
      refine V_run hN hn 3 2 [2, 7, 8, 9, 10, 24] [1] ⟨[(2, cB after_4), (7, cI (mx2 (0 : Int) (mn2 at_3 d_1))), (8, .c (.h 1)), (9, cI n_16), (10, cI i_17), (24, cB (decide (i_17 < (lnI r_12))))], [(1, .row (.pair (.int .i64) (.int .u8)) r_12)], 2⟩ [] (by kernel_rfl) rfl rfl ap0 ?_
      refine VL_cond ((decide (i_17 < (lnI r_12)))) (by kernel_rfl) ?_ ?_
      · intro b_20; have H_65 := of_t H_64 b_20
        refine V_run hN hn 2 2 [2, 7, 8, 9, 10, 24] [1] ⟨[(2, cB after_4), (7, cI (mx2 (0 : Int) (mn2 at_3 d_1))), (8, .c (.h 1)), (9, cI n_16), (10, cI i_17), (24, cB (decide (i_17 < (lnI r_12))))], [(1, .row (.pair (.int .i64) (.int .u8)) r_12)], 2⟩ [] (by kernel_rfl) rfl rfl ap0 ?_
        refine VL_block ?_
        refine V_run hN hn 1 2 [2, 7, 8, 9, 10, 24] [1] ⟨[(2, cB after_4), (7, cI (mx2 (0 : Int) (mn2 at_3 d_1))), (8, .c (.h 1)), (9, cI n_16), (10, cI i_17), (24, cB (decide (i_17 < (lnI r_12))))], [(1, .row (.pair (.int .i64) (.int .u8)) r_12)], 2⟩ [] (by kernel_rfl) rfl rfl ap0 ?_
        obtain ⟨q_67, H_68, H_69⟩ := of_bind H_65
        refine V_cut (Y := Bool) (R := Bool) q_67 (fun y => y) (fun y => [(2, cB after_4), (7, cI (mx2 (0 : Int) (mn2 at_3 d_1))), (8, .c (.h 1)), (9, cI n_16), (10, cI i_17), (41, cB y)]) (fun y => [(1, .row (.pair (.int .i64) (.int .u8)) r_12)]) ?_ ?_
        · skip
          rcases Bool.eq_false_or_eq_true ((decide ((List.getD r_12 (Int.toNat i_17) zP).1 ≥ (0 : Int)))) with b_23 | b_23
          · have H_71 := of_t H_68 b_23
            obtain ⟨c_24, H_73⟩ := of_if H_71
            refine V_reg hN hn [] [(33, true)] calls_nil 2 [2, 7, 8, 9, 10, 41] [1] ⟨[(2, cB after_4), (7, cI (mx2 (0 : Int) (mn2 at_3 d_1))), (8, .c (.h 1)), (9, cI n_16), (10, cI i_17), (41, cB (decide ((List.getD r_12 (Int.toNat i_17) zP).1 < (mx2 (0 : Int) (mn2 at_3 d_1)))))], [(1, .row (.pair (.int .i64) (.int .u8)) r_12)], 2⟩ [0 ≤ i_17, i_17 < (lnI r_12), (decide ((List.getD r_12 (Int.toNat i_17) zP).1 ≥ (0 : Int))) = true, 0 ≤ i_17, i_17 < (lnI r_12)] (by kernel_rfl) rfl rfl (ap2 c_24.1 (ap2 c_24.2 (ap2 b_23 (ap2 c_24.1 (ap1 c_24.2))))) (by kernel_rfl) (by kernel_rfl) ?_
            have H_74 := Option.some.inj (show some (decide ((List.getD r_12 (Int.toNat i_17) zP).1 < (mx2 (0 : Int) (mn2 at_3 d_1)))) = some q_67 from H_73); subst H_74
            refine VL_nil ?_
            exact QP_end (decide ((List.getD r_12 (Int.toNat i_17) zP).1 < (mx2 (0 : Int) (mn2 at_3 d_1)))) rfl [(1, 1)] hn (by kernel_rfl) (by kernel_rfl) rfl rfl rfl
          · have H_72 := of_f H_68 b_23
            obtain ⟨c_25, H_75⟩ := of_if H_72
            refine V_reg hN hn [] [(33, false)] calls_nil 2 [2, 7, 8, 9, 10, 41] [1] ⟨[(2, cB after_4), (7, cI (mx2 (0 : Int) (mn2 at_3 d_1))), (8, .c (.h 1)), (9, cI n_16), (10, cI i_17), (41, cB false)], [(1, .row (.pair (.int .i64) (.int .u8)) r_12)], 2⟩ [0 ≤ i_17, i_17 < (lnI r_12), (decide ((List.getD r_12 (Int.toNat i_17) zP).1 ≥ (0 : Int))) = false] (by kernel_rfl) rfl rfl (ap2 c_25.1 (ap2 c_25.2 (ap1 b_23))) (by kernel_rfl) (by kernel_rfl) ?_
            have H_76 := Option.some.inj (show some false = some q_67 from H_75); subst H_76
            refine VL_nil ?_
            exact QP_end false rfl [(1, 1)] hn (by kernel_rfl) (by kernel_rfl) rfl rfl rfl
        · intro y_70 hy; subst hy
          skip
          skip
          refine VL_cond (y_70) (by kernel_rfl) ?_ ?_
          · intro b_27; have H_77 := of_t H_69 b_27
            refine V_run hN hn 1 2 [2, 7, 8, 9, 10] [1] ⟨[(2, cB after_4), (7, cI (mx2 (0 : Int) (mn2 at_3 d_1))), (8, .c (.h 1)), (9, cI (w6 (i_17 + (1 : Int)))), (10, cI i_17)], [(1, .row (.pair (.int .i64) (.int .u8)) r_12)], 2⟩ [] (by kernel_rfl) rfl rfl ap0 ?_
            refine VL_nil (QB_end ?_)
            refine V_run hN hn 1 2 [2, 7, 8, 9, 10] [1] ⟨[(2, cB after_4), (7, cI (mx2 (0 : Int) (mn2 at_3 d_1))), (8, .c (.h 1)), (9, cI (w6 (i_17 + (1 : Int)))), (10, cI (w6 (i_17 + (1 : Int))))], [(1, .row (.pair (.int .i64) (.int .u8)) r_12)], 2⟩ [] (by kernel_rfl) rfl rfl ap0 ?_
            refine VL_nil ?_
            exact V_roundEnd ((w6 (i_17 + (1 : Int))), (w6 (i_17 + (1 : Int)))) H_77 [(1, 1)] hn (by kernel_rfl) (by kernel_rfl) rfl rfl rfl
          · intro b_27; have H_78 := of_f H_69 b_27
            refine V_run hN hn 1 2 [2, 7, 8, 9, 10, 41] [1] ⟨[(2, cB after_4), (7, cI (mx2 (0 : Int) (mn2 at_3 d_1))), (8, .c (.h 1)), (9, cI n_16), (10, cI i_17), (41, cB y_70)], [(1, .row (.pair (.int .i64) (.int .u8)) r_12)], 2⟩ [] (by kernel_rfl) rfl rfl ap0 ?_
            refine VL_nil (QB_end ?_)
            refine V_run hN hn 1 2 [2, 7, 8, 9, 10] [1] ⟨[(2, cB after_4), (7, cI (mx2 (0 : Int) (mn2 at_3 d_1))), (8, .c (.h 1)), (9, cI n_16), (10, cI (w6 (i_17 + (1 : Int))))], [(1, .row (.pair (.int .i64) (.int .u8)) r_12)], 2⟩ [] (by kernel_rfl) rfl rfl ap0 ?_
            refine VL_nil ?_
            exact V_roundEnd (n_16, (w6 (i_17 + (1 : Int)))) H_78 [(1, 1)] hn (by kernel_rfl) (by kernel_rfl) rfl rfl rfl
      · intro b_20; have H_66 := of_f H_64 b_20
        refine VL_exit ?_
        refine QL_exit ?_
        refine QB_here ?_
        have H_79 := Option.some.inj (show some n_16 = some q_59 from H_66); subst H_79
        refine VL_nil ?_
        exact QP_end n_16 rfl [(1, 1)] hn (by kernel_rfl) (by kernel_rfl) rfl rfl rfl
    · intro y_62 hy; subst hy
      skip
      skip
      refine V_run hN hn 3 2 [8, 9, 45] [1] ⟨[(8, .c (.h 1)), (9, cI y_62), (45, cB (!after_4))], [(1, .row (.pair (.int .i64) (.int .u8)) r_12)], 2⟩ [] (by kernel_rfl) rfl rfl ap0 ?_
      refine VL_cond ((!after_4)) (by kernel_rfl) ?_ ?_
      · intro b_34; have H_80 := of_t H_61 b_34
        refine V_run hN hn 2 2 [6] [] ⟨[(6, cI y_62)], [], 2⟩ [] (by kernel_rfl) rfl rfl ap0 ?_
        have H_82 := Option.some.inj (show some y_62 = some r from H_80); subst H_82
        refine VL_ret ?_
        exact P_to [(6, cI y_62)] [] [] hn (by kernel_rfl) (by kernel_rfl) rfl rfl rfl (QF_retS (by kernel_rfl) (by kernel_rfl) rfl)
      · intro b_34; have H_81 := of_f H_61 b_34
        refine V_run hN hn 2 2 [8, 9, 45] [1] ⟨[(8, .c (.h 1)), (9, cI y_62), (45, cB (!after_4))], [(1, .row (.pair (.int .i64) (.int .u8)) r_12)], 2⟩ [] (by kernel_rfl) rfl rfl ap0 ?_
        refine VL_block ?_
        refine V_to [(8, .c (.h 1)), (9, cI y_62)] [(1, .row (.pair (.int .i64) (.int .u8)) r_12)] [(1, 1)] hn (by kernel_rfl) (by kernel_rfl) rfl rfl rfl ?_
        refine VL_loop (X := Int) (fun x => [(8, .c (.h 1)), (9, cI x)]) (fun x => [(1, .row (.pair (.int .i64) (.int .u8)) r_12)]) (fun k x => palinoderef11_Move.l1 K r_12 k x = some r) K y_62 H_81 (fun _ h => no_none h) ?_
        intro k_38 n_37 H_83
        have H_84 : palinoderef11_Move.l1 K r_12 (k_38 + 1) n_37 = some r := H_83
        rw [palinoderef11_Move.l1] at H_84
        refine V_run hN hn 2 2 [8, 9] [1] ⟨[(8, .c (.h 1)), (9, cI n_37)], [(1, .row (.pair (.int .i64) (.int .u8)) r_12)], 2⟩ [] (by kernel_rfl) rfl rfl ap0 ?_
        obtain ⟨q_85, H_86, H_87⟩ := of_bind H_84
        refine V_cut (Y := Bool) (R := Bool) q_85 (fun y => y) (fun y => [(8, .c (.h 1)), (9, cI n_37), (58, cB y)]) (fun y => [(1, .row (.pair (.int .i64) (.int .u8)) r_12)]) ?_ ?_
        · skip
          rcases Bool.eq_false_or_eq_true ((decide (n_37 < (lnI r_12)))) with b_40 | b_40
          · have H_89 := of_t H_86 b_40
            obtain ⟨c_41, H_91⟩ := of_if H_89
            refine V_reg hN hn [] [(51, true)] calls_nil 2 [8, 9, 58] [1] ⟨[(8, .c (.h 1)), (9, cI n_37), (58, cB (decide ((List.getD r_12 (Int.toNat n_37) zP).1 < (0 : Int))))], [(1, .row (.pair (.int .i64) (.int .u8)) r_12)], 2⟩ [(decide (n_37 < (lnI r_12))) = true, 0 ≤ n_37, n_37 < (lnI r_12)] (by kernel_rfl) rfl rfl (ap2 b_40 (ap2 c_41.1 (ap1 c_41.2))) (by kernel_rfl) (by kernel_rfl) ?_
            have H_92 := Option.some.inj (show some (decide ((List.getD r_12 (Int.toNat n_37) zP).1 < (0 : Int))) = some q_85 from H_91); subst H_92
            refine VL_nil ?_
            exact QP_end (decide ((List.getD r_12 (Int.toNat n_37) zP).1 < (0 : Int))) rfl [(1, 1)] hn (by kernel_rfl) (by kernel_rfl) rfl rfl rfl
          · have H_90 := of_f H_86 b_40
            refine V_reg hN hn [] [(51, false)] calls_nil 2 [8, 9, 58] [1] ⟨[(8, .c (.h 1)), (9, cI n_37), (58, cB false)], [(1, .row (.pair (.int .i64) (.int .u8)) r_12)], 2⟩ [(decide (n_37 < (lnI r_12))) = false] (by kernel_rfl) rfl rfl (ap1 b_40) (by kernel_rfl) (by kernel_rfl) ?_
            have H_93 := Option.some.inj (show some false = some q_85 from H_90); subst H_93
            refine VL_nil ?_
            exact QP_end false rfl [(1, 1)] hn (by kernel_rfl) (by kernel_rfl) rfl rfl rfl
        · intro y_88 hy; subst hy
          skip
          skip
          refine VL_cond (y_88) (by kernel_rfl) ?_ ?_
          · intro b_44; have H_94 := of_t H_87 b_44
            refine V_run hN hn 1 2 [8, 9, 58] [1] ⟨[(8, .c (.h 1)), (9, cI n_37), (58, cB y_88)], [(1, .row (.pair (.int .i64) (.int .u8)) r_12)], 2⟩ [] (by kernel_rfl) rfl rfl ap0 ?_
            refine VL_block ?_
            refine V_run hN hn 1 2 [8, 9] [1] ⟨[(8, .c (.h 1)), (9, cI (w6 (n_37 + (1 : Int))))], [(1, .row (.pair (.int .i64) (.int .u8)) r_12)], 2⟩ [] (by kernel_rfl) rfl rfl ap0 ?_
            refine VL_nil (QB_end ?_)
            refine VL_nil ?_
            exact V_roundEnd (w6 (n_37 + (1 : Int))) H_94 [(1, 1)] hn (by kernel_rfl) (by kernel_rfl) rfl rfl rfl
          · intro b_44; have H_95 := of_f H_87 b_44
            refine VL_exit ?_
            refine QL_exit ?_
            refine QB_here ?_
            refine V_run hN hn 2 2 [6] [] ⟨[(6, cI n_37)], [], 2⟩ [] (by kernel_rfl) rfl rfl ap0 ?_
            have H_96 := Option.some.inj (show some n_37 = some r from H_95); subst H_96
            refine VL_ret ?_
            exact P_to [(6, cI n_37)] [] [] hn (by kernel_rfl) (by kernel_rfl) rfl rfl rfl (QF_retS (by kernel_rfl) (by kernel_rfl) rfl)

theorem palinoderef24_Joined_r_spec (K : Nat) (l_1 : (List (Int × Int))) (r : (List (Int × Int))) (H : palinoderef24_Joined K l_1 = some r) : Spec Try.prog 40 1 [.c (.h 0)] [(0, .row kP l_1)] (.c (.h 12)) [(0, .row kP l_1), (12, .row kP r)] := by
  refine Spec_mk (fn := Try.f40) (c := (Try.f40.body).get!) Try.func40 (by kernel_rfl) rfl ?_
  intro C hN hn
  replace hN : C.N = 151 := hN
  unfold palinoderef24_Joined at H
  refine V_run hN hn 7 1 [0, 3, 4] [0] ⟨[(0, .c (.h 0)), (3, .c (.val (.slice none 0 0))), (4, cI (0 : Int))], [(0, .row kP l_1)], 1⟩ [] (by kernel_rfl) rfl rfl ap0 ?_
  obtain ⟨q_147, H_148, H_149⟩ := of_bind H
  refine V_cut (Y := (List (Int × Int))) (R := (List (Int × Int))) q_147 (fun y => y) (fun y => [(3, .c (.h 7))]) (fun y => [(0, .row kP l_1), (7, .row kP y)]) ?_ ?_
  · skip
    refine VL_block ?_
    refine V_ghost [.nilSlot 3 kP] 1 hn [0, 3, 4] [0, 1] ⟨[(0, .c (.h 0)), (3, .c (.h 1)), (4, cI (0 : Int))], [(0, .row kP l_1), (1, .row kP ([] : List (Int × Int)))], 2⟩ (by kernel_rfl) rfl rfl ?_
    refine V_to [(0, .c (.h 0)), (3, .c (.h 7)), (4, cI (0 : Int))] [(0, .row kP l_1), (7, .row kP ([] : List (Int × Int)))] [(7, 1)] hn (by kernel_rfl) (by kernel_rfl) rfl rfl rfl ?_
    refine VL_loop (X := ((List (Int × Int)) × Int)) (fun x => [(0, .c (.h 0)), (3, .c (.h 7)), (4, cI x.2)]) (fun x => [(0, .row kP l_1), (7, .row kP x.1)]) (fun k x => palinoderef24_Joined.l0 K l_1 k x.1 x.2 = some q_147) K (([] : List (Int × Int)), (0 : Int)) H_148 (fun _ h => no_none h) ?_
    intro k_40 x_40 H_151
    obtain ⟨sorted_39, i_3⟩ := x_40
    have H_152 : palinoderef24_Joined.l0 K l_1 (k_40 + 1) sorted_39 i_3 = some q_147 := H_151
    rw [palinoderef24_Joined.l0] at H_152
    refine V_run hN hn 3 8 [0, 3, 4, 18] [0, 7] ⟨[(0, .c (.h 0)), (3, .c (.h 7)), (4, cI i_3), (18, cB (decide (i_3 < (lnI l_1))))], [(0, .row kP l_1), (7, .row kP sorted_39)], 8⟩ [] (by kernel_rfl) rfl rfl ap0 ?_
    refine VL_cond ((decide (i_3 < (lnI l_1)))) (by kernel_rfl) ?_ ?_
    · intro b_42; have H_153 := of_t H_152 b_42
      refine V_run hN hn 2 8 [0, 3, 4, 18] [0, 7] ⟨[(0, .c (.h 0)), (3, .c (.h 7)), (4, cI i_3), (18, cB (decide (i_3 < (lnI l_1))))], [(0, .row kP l_1), (7, .row kP sorted_39)], 8⟩ [] (by kernel_rfl) rfl rfl ap0 ?_
      obtain ⟨q_155, H_156, H_157⟩ := of_bind H_153
      refine V_cut (Y := (List (Int × Int))) (R := (List (Int × Int))) q_155 (fun y => y) (fun y => [(0, .c (.h 0)), (3, .c (.h 12)), (4, cI i_3)]) (fun y => [(0, .row kP l_1), (12, .row kP y)]) ?_ ?_
      · skip
        refine VL_block ?_
        refine V_run hN hn 1 8 [0, 3, 4, 18] [0, 7] ⟨[(0, .c (.h 0)), (3, .c (.h 7)), (4, cI i_3), (18, cB (decide (i_3 < (lnI l_1))))], [(0, .row kP l_1), (7, .row kP sorted_39)], 8⟩ [] (by kernel_rfl) rfl rfl ap0 ?_
        obtain ⟨r_45, h_46, H_159⟩ := of_bind H_156
        obtain ⟨c_47, H_160⟩ := of_if H_159
        refine V_reg hN hn [(4, ⟨12, 0, [.agg [.val (.int .i64 (List.getD l_1 (Int.toNat i_3) zP).1), .val (.int .i64 (List.getD l_1 (Int.toNat i_3) zP).2)]], [], .agg [.val (.int .i64 r_45.1), .val (.int .i64 r_45.2)], [], [], 8⟩)] [] (calls_cons (palinoderef24_Span_spec K (List.getD l_1 (Int.toNat i_3) zP).1 (List.getD l_1 (Int.toNat i_3) zP).2 r_45 h_46) (by kernel_rfl) calls_nil) 8 [0, 3, 4, 5] [0, 7, 8] ⟨[(0, .c (.h 0)), (3, .c (.h 7)), (4, cI i_3), (5, .c (.h 8))], [(0, .row kP l_1), (7, .row kP sorted_39), (8, .box [.val (.int .i64 r_45.1), .val (.int .i64 r_45.2)])], 9⟩ [0 ≤ i_3, i_3 < (lnI l_1)] (by kernel_rfl) rfl rfl (ap2 c_47.1 (ap1 c_47.2)) (by kernel_rfl) (by kernel_rfl) ?_
        refine V_run hN hn 3 9 [0, 3, 4, 5, 6] [0, 7, 8] ⟨[(0, .c (.h 0)), (3, .c (.h 7)), (4, cI i_3), (5, .c (.h 8)), (6, cI (lnI sorted_39))], [(0, .row kP l_1), (7, .row kP sorted_39), (8, .box [.val (.int .i64 r_45.1), .val (.int .i64 r_45.2)])], 9⟩ [] (by kernel_rfl) rfl rfl ap0 ?_
        obtain ⟨q_161, H_162, H_163⟩ := of_bind H_160
        refine V_cut (Y := Int) (R := Int) q_161 (fun y => y) (fun y => [(0, .c (.h 0)), (3, .c (.h 7)), (4, cI i_3), (6, cI y)]) (fun y => [(0, .row kP l_1), (7, .row kP sorted_39)]) ?_ ?_
        · skip
          refine VL_block ?_
          refine V_to [(0, .c (.h 0)), (3, .c (.h 7)), (4, cI i_3), (5, .c (.h 8)), (6, cI (lnI sorted_39))] [(0, .row kP l_1), (7, .row kP sorted_39), (8, .box [.val (.int .i64 r_45.1), .val (.int .i64 r_45.2)])] [(7, 7), (8, 8)] hn (by kernel_rfl) (by kernel_rfl) rfl rfl rfl ?_
          refine VL_loop (X := Int) (fun x => [(0, .c (.h 0)), (3, .c (.h 7)), (4, cI i_3), (5, .c (.h 8)), (6, cI x)]) (fun x => [(0, .row kP l_1), (7, .row kP sorted_39), (8, .box [.val (.int .i64 r_45.1), .val (.int .i64 r_45.2)])]) (fun k x => palinoderef24_Joined.l1 K sorted_39 r_45 k x = some q_161) K (lnI sorted_39) H_162 (fun _ h => no_none h) ?_
          intro k_50 k_49 H_165
          have H_166 : palinoderef24_Joined.l1 K sorted_39 r_45 (k_50 + 1) k_49 = some q_161 := H_165
          rw [palinoderef24_Joined.l1] at H_166
          refine V_run hN hn 2 9 [0, 3, 4, 5, 6] [0, 7, 8] ⟨[(0, .c (.h 0)), (3, .c (.h 7)), (4, cI i_3), (5, .c (.h 8)), (6, cI k_49)], [(0, .row kP l_1), (7, .row kP sorted_39), (8, .box [.val (.int .i64 r_45.1), .val (.int .i64 r_45.2)])], 9⟩ [] (by kernel_rfl) rfl rfl ap0 ?_
          obtain ⟨q_167, H_168, H_169⟩ := of_bind H_166
          refine V_cut (Y := Bool) (R := Bool) q_167 (fun y => y) (fun y => [(0, .c (.h 0)), (3, .c (.h 7)), (4, cI i_3), (5, .c (.h 8)), (6, cI k_49), (65, cB y)]) (fun y => [(0, .row kP l_1), (7, .row kP sorted_39), (8, .box [.val (.int .i64 r_45.1), .val (.int .i64 r_45.2)])]) ?_ ?_
          · skip
            rcases Bool.eq_false_or_eq_true ((decide (k_49 > (0 : Int)))) with b_52 | b_52
            · have H_171 := of_t H_168 b_52
              obtain ⟨r_53, h_54, H_173⟩ := of_bind H_171
              rcases Bool.eq_false_or_eq_true ((decide (r_53.1 > r_45.1))) with b_55 | b_55
              · have H_174 := of_t H_173 b_55
                obtain ⟨c_56, H_176⟩ := of_if H_174
                refine V_draw hN hn (by kernel_rfl) [(8, ⟨12, 0, [.agg [.val (.int .i64 (List.getD sorted_39 (Int.toNat (w6 (k_49 - (1 : Int)))) zP).1), .val (.int .i64 (List.getD sorted_39 (Int.toNat (w6 (k_49 - (1 : Int)))) zP).2)]], [], .agg [.val (.int .i64 r_53.1), .val (.int .i64 r_53.2)], [], [], 9⟩)] [(30, true), (41, true)] (calls_cons (palinoderef24_Span_spec K (List.getD sorted_39 (Int.toNat (w6 (k_49 - (1 : Int)))) zP).1 (List.getD sorted_39 (Int.toNat (w6 (k_49 - (1 : Int)))) zP).2 r_53 h_54) (by kernel_rfl) calls_nil) 9 [0, 3, 4, 5, 6, 65] [0, 7, 8] ⟨[(0, .c (.h 0)), (3, .c (.h 7)), (4, cI i_3), (5, .c (.h 8)), (6, cI k_49), (65, cB true)], [(0, .row kP l_1), (7, .row kP sorted_39), (8, .box [.val (.int .i64 r_45.1), .val (.int .i64 r_45.2)])], 9⟩ [(decide (k_49 > (0 : Int))) = true, 0 ≤ (w6 (k_49 - (1 : Int))), (w6 (k_49 - (1 : Int))) < (lnI sorted_39), (decide (r_53.1 > r_45.1)) = true] (by kernel_rfl) rfl rfl (ap2 b_52 (ap2 c_56.1 (ap2 c_56.2 (ap1 b_55)))) (by kernel_rfl) (by kernel_rfl) ?_
                have H_177 := Option.some.inj (show some true = some q_167 from H_176); subst H_177
                refine VL_nil ?_
                exact QP_end true rfl [(7, 7), (8, 8)] hn (by kernel_rfl) (by kernel_rfl) rfl rfl rfl
              · have H_175 := of_f H_173 b_55
                obtain ⟨r_57, h_58, H_178⟩ := of_bind H_175
                rcases Bool.eq_false_or_eq_true ((r_57.1 == r_45.1)) with b_59 | b_59
                · have H_179 := of_t H_178 b_59
                  obtain ⟨r_60, h_61, H_181⟩ := of_bind H_179
                  obtain ⟨c_62, H_182⟩ := of_if H_181
                  refine V_draw hN hn (by kernel_rfl) [(8, ⟨12, 0, [.agg [.val (.int .i64 (List.getD sorted_39 (Int.toNat (w6 (k_49 - (1 : Int)))) zP).1), .val (.int .i64 (List.getD sorted_39 (Int.toNat (w6 (k_49 - (1 : Int)))) zP).2)]], [], .agg [.val (.int .i64 r_53.1), .val (.int .i64 r_53.2)], [], [], 9⟩), (19, ⟨12, 0, [.agg [.val (.int .i64 (List.getD sorted_39 (Int.toNat (w6 (k_49 - (1 : Int)))) zP).1), .val (.int .i64 (List.getD sorted_39 (Int.toNat (w6 (k_49 - (1 : Int)))) zP).2)]], [], .agg [.val (.int .i64 r_57.1), .val (.int .i64 r_57.2)], [], [], 9⟩), (30, ⟨12, 0, [.agg [.val (.int .i64 (List.getD sorted_39 (Int.toNat (w6 (k_49 - (1 : Int)))) zP).1), .val (.int .i64 (List.getD sorted_39 (Int.toNat (w6 (k_49 - (1 : Int)))) zP).2)]], [], .agg [.val (.int .i64 r_60.1), .val (.int .i64 r_60.2)], [], [], 9⟩)] [(30, true), (41, false), (52, true)] (calls_cons (palinoderef24_Span_spec K (List.getD sorted_39 (Int.toNat (w6 (k_49 - (1 : Int)))) zP).1 (List.getD sorted_39 (Int.toNat (w6 (k_49 - (1 : Int)))) zP).2 r_53 h_54) (by kernel_rfl) (calls_cons (palinoderef24_Span_spec K (List.getD sorted_39 (Int.toNat (w6 (k_49 - (1 : Int)))) zP).1 (List.getD sorted_39 (Int.toNat (w6 (k_49 - (1 : Int)))) zP).2 r_57 h_58) (by kernel_rfl) (calls_cons (palinoderef24_Span_spec K (List.getD sorted_39 (Int.toNat (w6 (k_49 - (1 : Int)))) zP).1 (List.getD sorted_39 (Int.toNat (w6 (k_49 - (1 : Int)))) zP).2 r_60 h_61) (by kernel_rfl) calls_nil))) 9 [0, 3, 4, 5, 6, 65] [0, 7, 8] ⟨[(0, .c (.h 0)), (3, .c (.h 7)), (4, cI i_3), (5, .c (.h 8)), (6, cI k_49), (65, cB (decide (r_60.2 > r_45.2)))], [(0, .row kP l_1), (7, .row kP sorted_39), (8, .box [.val (.int .i64 r_45.1), .val (.int .i64 r_45.2)])], 9⟩ [(decide (k_49 > (0 : Int))) = true, 0 ≤ (w6 (k_49 - (1 : Int))), (w6 (k_49 - (1 : Int))) < (lnI sorted_39), (decide (r_53.1 > r_45.1)) = false, 0 ≤ (w6 (k_49 - (1 : Int))), (w6 (k_49 - (1 : Int))) < (lnI sorted_39), (r_57.1 == r_45.1) = true, 0 ≤ (w6 (k_49 - (1 : Int))), (w6 (k_49 - (1 : Int))) < (lnI sorted_39)] (by kernel_rfl) rfl rfl (ap2 b_52 (ap2 c_62.1 (ap2 c_62.2 (ap2 b_55 (ap2 c_62.1 (ap2 c_62.2 (ap2 b_59 (ap2 c_62.1 (ap1 c_62.2))))))))) (by kernel_rfl) (by kernel_rfl) ?_
                  have H_183 := Option.some.inj (show some (decide (r_60.2 > r_45.2)) = some q_167 from H_182); subst H_183
                  refine VL_nil ?_
                  exact QP_end (decide (r_60.2 > r_45.2)) rfl [(7, 7), (8, 8)] hn (by kernel_rfl) (by kernel_rfl) rfl rfl rfl
                · have H_180 := of_f H_178 b_59
                  obtain ⟨c_63, H_184⟩ := of_if H_180
                  refine V_draw hN hn (by kernel_rfl) [(8, ⟨12, 0, [.agg [.val (.int .i64 (List.getD sorted_39 (Int.toNat (w6 (k_49 - (1 : Int)))) zP).1), .val (.int .i64 (List.getD sorted_39 (Int.toNat (w6 (k_49 - (1 : Int)))) zP).2)]], [], .agg [.val (.int .i64 r_53.1), .val (.int .i64 r_53.2)], [], [], 9⟩), (19, ⟨12, 0, [.agg [.val (.int .i64 (List.getD sorted_39 (Int.toNat (w6 (k_49 - (1 : Int)))) zP).1), .val (.int .i64 (List.getD sorted_39 (Int.toNat (w6 (k_49 - (1 : Int)))) zP).2)]], [], .agg [.val (.int .i64 r_57.1), .val (.int .i64 r_57.2)], [], [], 9⟩)] [(30, true), (41, false), (52, false)] (calls_cons (palinoderef24_Span_spec K (List.getD sorted_39 (Int.toNat (w6 (k_49 - (1 : Int)))) zP).1 (List.getD sorted_39 (Int.toNat (w6 (k_49 - (1 : Int)))) zP).2 r_53 h_54) (by kernel_rfl) (calls_cons (palinoderef24_Span_spec K (List.getD sorted_39 (Int.toNat (w6 (k_49 - (1 : Int)))) zP).1 (List.getD sorted_39 (Int.toNat (w6 (k_49 - (1 : Int)))) zP).2 r_57 h_58) (by kernel_rfl) calls_nil)) 9 [0, 3, 4, 5, 6, 65] [0, 7, 8] ⟨[(0, .c (.h 0)), (3, .c (.h 7)), (4, cI i_3), (5, .c (.h 8)), (6, cI k_49), (65, cB false)], [(0, .row kP l_1), (7, .row kP sorted_39), (8, .box [.val (.int .i64 r_45.1), .val (.int .i64 r_45.2)])], 9⟩ [(decide (k_49 > (0 : Int))) = true, 0 ≤ (w6 (k_49 - (1 : Int))), (w6 (k_49 - (1 : Int))) < (lnI sorted_39), (decide (r_53.1 > r_45.1)) = false, 0 ≤ (w6 (k_49 - (1 : Int))), (w6 (k_49 - (1 : Int))) < (lnI sorted_39), (r_57.1 == r_45.1) = false] (by kernel_rfl) rfl rfl (ap2 b_52 (ap2 c_63.1 (ap2 c_63.2 (ap2 b_55 (ap2 c_63.1 (ap2 c_63.2 (ap1 b_59))))))) (by kernel_rfl) (by kernel_rfl) ?_
                  have H_185 := Option.some.inj (show some false = some q_167 from H_184); subst H_185
                  refine VL_nil ?_
                  exact QP_end false rfl [(7, 7), (8, 8)] hn (by kernel_rfl) (by kernel_rfl) rfl rfl rfl
            · have H_172 := of_f H_168 b_52
              refine V_draw hN hn (by kernel_rfl) [] [(30, false)] calls_nil 9 [0, 3, 4, 5, 6, 65] [0, 7, 8] ⟨[(0, .c (.h 0)), (3, .c (.h 7)), (4, cI i_3), (5, .c (.h 8)), (6, cI k_49), (65, cB false)], [(0, .row kP l_1), (7, .row kP sorted_39), (8, .box [.val (.int .i64 r_45.1), .val (.int .i64 r_45.2)])], 9⟩ [(decide (k_49 > (0 : Int))) = false] (by kernel_rfl) rfl rfl (ap1 b_52) (by kernel_rfl) (by kernel_rfl) ?_
              have H_186 := Option.some.inj (show some false = some q_167 from H_172); subst H_186
              refine VL_nil ?_
              exact QP_end false rfl [(7, 7), (8, 8)] hn (by kernel_rfl) (by kernel_rfl) rfl rfl rfl
          · intro y_170 hy; subst hy
            skip
            skip
            refine VL_cond (y_170) (by kernel_rfl) ?_ ?_
            · intro b_66; have H_187 := of_t H_169 b_66
              refine V_run hN hn 1 9 [0, 3, 4, 5, 6, 65] [0, 7, 8] ⟨[(0, .c (.h 0)), (3, .c (.h 7)), (4, cI i_3), (5, .c (.h 8)), (6, cI k_49), (65, cB y_170)], [(0, .row kP l_1), (7, .row kP sorted_39), (8, .box [.val (.int .i64 r_45.1), .val (.int .i64 r_45.2)])], 9⟩ [] (by kernel_rfl) rfl rfl ap0 ?_
              refine VL_block ?_
              refine V_run hN hn 1 9 [0, 3, 4, 5, 6] [0, 7, 8] ⟨[(0, .c (.h 0)), (3, .c (.h 7)), (4, cI i_3), (5, .c (.h 8)), (6, cI (w6 (k_49 - (1 : Int))))], [(0, .row kP l_1), (7, .row kP sorted_39), (8, .box [.val (.int .i64 r_45.1), .val (.int .i64 r_45.2)])], 9⟩ [] (by kernel_rfl) rfl rfl ap0 ?_
              refine VL_nil (QB_end ?_)
              refine VL_nil ?_
              exact V_roundEnd (w6 (k_49 - (1 : Int))) H_187 [(7, 7), (8, 8)] hn (by kernel_rfl) (by kernel_rfl) rfl rfl rfl
            · intro b_66; have H_188 := of_f H_169 b_66
              refine VL_exit ?_
              refine QL_exit ?_
              refine QB_here ?_
              have H_189 := Option.some.inj (show some k_49 = some q_161 from H_188); subst H_189
              refine VL_nil ?_
              exact QP_end k_49 rfl [(7, 7)] hn (by kernel_rfl) (by kernel_rfl) rfl rfl rfl
        · intro y_164 hy; subst hy
          skip
          skip
          refine V_run hN hn 1 9 [0, 3, 4, 6] [0, 7] ⟨[(0, .c (.h 0)), (3, .c (.h 7)), (4, cI i_3), (6, cI y_164)], [(0, .row kP l_1), (7, .row kP sorted_39)], 9⟩ [] (by kernel_rfl) rfl rfl ap0 ?_
          obtain ⟨c_71, H_190⟩ := of_if H_163
          refine V_draw hN hn (by kernel_rfl) [] [] calls_nil 9 [0, 3, 4, 6, 7] [0, 7, 11] ⟨[(0, .c (.h 0)), (3, .c (.h 7)), (4, cI i_3), (6, cI y_164), (7, .c (.h 11))], [(0, .row kP l_1), (7, .row kP sorted_39), (11, .row kP ((List.take ((Int.toNat y_164) - 0) (List.drop 0 sorted_39)) ++ ([((List.getD l_1 (Int.toNat i_3) zP).1, (List.getD l_1 (Int.toNat i_3) zP).2)] : List (Int × Int))))], 12⟩ [(0 : Int) ≤ y_164, y_164 ≤ (lnI sorted_39), (0 : Int) ≤ y_164, y_164 ≤ (lnI sorted_39), List.length (List.take ((Int.toNat y_164) - 0) (List.drop 0 sorted_39)) * 16 ≤ 140737488355328, List.length (List.take ((Int.toNat y_164) - 0) (List.drop 0 sorted_39)) * 16 ≤ 140737488355328, 0 ≤ i_3, i_3 < (lnI l_1), 0 ≤ i_3, i_3 < (lnI l_1), (List.length (List.take ((Int.toNat y_164) - 0) (List.drop 0 sorted_39)) + List.length ([((List.getD l_1 (Int.toNat i_3) zP).1, (List.getD l_1 (Int.toNat i_3) zP).2)] : List (Int × Int))) * 16 ≤ 140737488355328] (by kernel_rfl) rfl rfl (ap2 c_71.1 (ap2 c_71.2.1 (ap2 c_71.1 (ap2 c_71.2.1 (ap2 c_71.2.2.1 (ap2 c_71.2.2.1 (ap2 c_47.1 (ap2 c_47.2 (ap2 c_47.1 (ap2 c_47.2 (ap1 c_71.2.2.2))))))))))) (by kernel_rfl) (by kernel_rfl) ?_
          obtain ⟨c_72, H_191⟩ := of_if H_190
          refine V_run hN hn 1 12 [0, 3, 4] [0, 12] ⟨[(0, .c (.h 0)), (3, .c (.h 12)), (4, cI i_3)], [(0, .row kP l_1), (12, .row kP (((List.take ((Int.toNat y_164) - 0) (List.drop 0 sorted_39)) ++ ([((List.getD l_1 (Int.toNat i_3) zP).1, (List.getD l_1 (Int.toNat i_3) zP).2)] : List (Int × Int))) ++ (List.take ((List.length sorted_39) - (Int.toNat y_164)) (List.drop (Int.toNat y_164) sorted_39))))], 13⟩ [(0 : Int) ≤ y_164, y_164 ≤ (lnI sorted_39), (List.length ((List.take ((Int.toNat y_164) - 0) (List.drop 0 sorted_39)) ++ ([((List.getD l_1 (Int.toNat i_3) zP).1, (List.getD l_1 (Int.toNat i_3) zP).2)] : List (Int × Int))) + List.length (List.take ((List.length sorted_39) - (Int.toNat y_164)) (List.drop (Int.toNat y_164) sorted_39))) * 16 ≤ 140737488355328] (by kernel_rfl) rfl rfl (ap2 c_71.1 (ap2 c_71.2.1 (ap1 c_72))) ?_
          refine VL_nil (QB_end ?_)
          have H_192 := Option.some.inj (show some (((List.take ((Int.toNat y_164) - 0) (List.drop 0 sorted_39)) ++ ([((List.getD l_1 (Int.toNat i_3) zP).1, (List.getD l_1 (Int.toNat i_3) zP).2)] : List (Int × Int))) ++ (List.take ((List.length sorted_39) - (Int.toNat y_164)) (List.drop (Int.toNat y_164) sorted_39))) = some q_155 from H_191); subst H_192
          refine VL_nil ?_
          exact QP_end (((List.take ((Int.toNat y_164) - 0) (List.drop 0 sorted_39)) ++ ([((List.getD l_1 (Int.toNat i_3) zP).1, (List.getD l_1 (Int.toNat i_3) zP).2)] : List (Int × Int))) ++ (List.take ((List.length sorted_39) - (Int.toNat y_164)) (List.drop (Int.toNat y_164) sorted_39))) rfl [(12, 12)] hn (by kernel_rfl) (by kernel_rfl) rfl rfl rfl
      · intro y_158 hy; subst hy
        skip
        skip
        refine V_run hN hn 1 13 [0, 3, 4] [0, 12] ⟨[(0, .c (.h 0)), (3, .c (.h 12)), (4, cI (w6 (i_3 + (1 : Int))))], [(0, .row kP l_1), (12, .row kP y_158)], 13⟩ [] (by kernel_rfl) rfl rfl ap0 ?_
        refine VL_nil ?_
        exact V_roundEnd (y_158, (w6 (i_3 + (1 : Int)))) H_157 [(7, 12)] hn (by kernel_rfl) (by kernel_rfl) rfl rfl rfl
    · intro b_42; have H_154 := of_f H_152 b_42
      refine VL_exit ?_
      refine QL_exit ?_
      refine QB_here ?_
      have H_193 := Option.some.inj (show some sorted_39 = some q_147 from H_154); subst H_193
      refine VL_nil ?_
      exact QP_end sorted_39 rfl [(7, 7)] hn (by kernel_rfl) (by kernel_rfl) rfl rfl rfl
  · intro y_150 hy; subst hy
    skip
    skip
    refine V_run hN hn 5 8 [3, 8, 9] [0, 7] ⟨[(3, .c (.h 7)), (8, .c (.val (.slice none 0 0))), (9, cI (0 : Int))], [(0, .row kP l_1), (7, .row kP y_150)], 8⟩ [] (by kernel_rfl) rfl rfl ap0 ?_
    refine VL_block ?_
    refine V_ghost [.nilSlot 8 kP] 8 hn [3, 8, 9] [0, 7, 8] ⟨[(3, .c (.h 7)), (8, .c (.h 8)), (9, cI (0 : Int))], [(0, .row kP l_1), (7, .row kP y_150), (8, .row kP ([] : List (Int × Int)))], 9⟩ (by kernel_rfl) rfl rfl ?_
    refine V_to [(3, .c (.h 7)), (8, .c (.h 12)), (9, cI (0 : Int))] [(0, .row kP l_1), (7, .row kP y_150), (12, .row kP ([] : List (Int × Int)))] [(7, 7), (12, 8)] hn (by kernel_rfl) (by kernel_rfl) rfl rfl rfl ?_
    refine VL_loop (X := ((List (Int × Int)) × Int)) (fun x => [(3, .c (.h 7)), (8, .c (.h 12)), (9, cI x.2)]) (fun x => [(0, .row kP l_1), (7, .row kP y_150), (12, .row kP x.1)]) (fun k x => palinoderef24_Joined.l2 K y_150 k x.1 x.2 = some r) K (([] : List (Int × Int)), (0 : Int)) H_149 (fun _ h => no_none h) ?_
    intro k_108 x_108 H_194
    obtain ⟨out_107, i_77⟩ := x_108
    have H_195 : palinoderef24_Joined.l2 K y_150 (k_108 + 1) out_107 i_77 = some r := H_194
    rw [palinoderef24_Joined.l2] at H_195
    refine V_run hN hn 3 13 [3, 8, 9, 86] [0, 7, 12] ⟨[(3, .c (.h 7)), (8, .c (.h 12)), (9, cI i_77), (86, cB (decide (i_77 < (lnI y_150))))], [(0, .row kP l_1), (7, .row kP y_150), (12, .row kP out_107)], 13⟩ [] (by kernel_rfl) rfl rfl ap0 ?_
    refine VL_cond ((decide (i_77 < (lnI y_150)))) (by kernel_rfl) ?_ ?_
    · intro b_110; have H_196 := of_t H_195 b_110
      refine V_run hN hn 2 13 [3, 8, 9, 86] [0, 7, 12] ⟨[(3, .c (.h 7)), (8, .c (.h 12)), (9, cI i_77), (86, cB (decide (i_77 < (lnI y_150))))], [(0, .row kP l_1), (7, .row kP y_150), (12, .row kP out_107)], 13⟩ [] (by kernel_rfl) rfl rfl ap0 ?_
      refine VL_block ?_
      refine V_run hN hn 3 13 [3, 8, 9, 10] [0, 7, 12] ⟨[(3, .c (.h 7)), (8, .c (.h 12)), (9, cI i_77), (10, cI (lnI out_107))], [(0, .row kP l_1), (7, .row kP y_150), (12, .row kP out_107)], 13⟩ [] (by kernel_rfl) rfl rfl ap0 ?_
      obtain ⟨r_113, h_114, H_198⟩ := of_bind H_196
      obtain ⟨c_115, H_199⟩ := of_if H_198
      refine V_reg hN hn [(4, ⟨12, 0, [.agg [.val (.int .i64 (List.getD y_150 (Int.toNat i_77) zP).1), .val (.int .i64 (List.getD y_150 (Int.toNat i_77) zP).2)]], [], .agg [.val (.int .i64 r_113.1), .val (.int .i64 r_113.2)], [], [], 13⟩)] [] (calls_cons (palinoderef24_Span_spec K (List.getD y_150 (Int.toNat i_77) zP).1 (List.getD y_150 (Int.toNat i_77) zP).2 r_113 h_114) (by kernel_rfl) calls_nil) 13 [3, 8, 9, 10, 11] [0, 7, 12, 13] ⟨[(3, .c (.h 7)), (8, .c (.h 12)), (9, cI i_77), (10, cI (lnI out_107)), (11, .c (.h 13))], [(0, .row kP l_1), (7, .row kP y_150), (12, .row kP out_107), (13, .box [.val (.int .i64 r_113.1), .val (.int .i64 r_113.2)])], 14⟩ [0 ≤ i_77, i_77 < (lnI y_150)] (by kernel_rfl) rfl rfl (ap2 c_115.1 (ap1 c_115.2)) (by kernel_rfl) (by kernel_rfl) ?_
      refine V_run hN hn 2 14 [3, 8, 9, 10, 11] [0, 7, 12, 13] ⟨[(3, .c (.h 7)), (8, .c (.h 12)), (9, cI i_77), (10, cI (lnI out_107)), (11, .c (.h 13))], [(0, .row kP l_1), (7, .row kP y_150), (12, .row kP out_107), (13, .box [.val (.int .i64 r_113.1), .val (.int .i64 r_113.2)])], 14⟩ [] (by kernel_rfl) rfl rfl ap0 ?_
      obtain ⟨q_200, H_201, H_202⟩ := of_bind H_199
      refine V_cut (Y := Bool) (R := Bool) q_200 (fun y => y) (fun y => [(3, .c (.h 7)), (8, .c (.h 12)), (9, cI i_77), (10, cI (lnI out_107)), (11, .c (.h 13)), (109, cB y)]) (fun y => [(0, .row kP l_1), (7, .row kP y_150), (12, .row kP out_107), (13, .box [.val (.int .i64 r_113.1), .val (.int .i64 r_113.2)])]) ?_ ?_
      · skip
        rcases Bool.eq_false_or_eq_true (((lnI out_107) == (0 : Int))) with b_117 | b_117
        · have H_204 := of_t H_201 b_117
          refine V_draw hN hn (by kernel_rfl) [] [(98, true)] calls_nil 14 [3, 8, 9, 10, 11, 109] [0, 7, 12, 13] ⟨[(3, .c (.h 7)), (8, .c (.h 12)), (9, cI i_77), (10, cI (lnI out_107)), (11, .c (.h 13)), (109, cB true)], [(0, .row kP l_1), (7, .row kP y_150), (12, .row kP out_107), (13, .box [.val (.int .i64 r_113.1), .val (.int .i64 r_113.2)])], 14⟩ [((lnI out_107) == (0 : Int)) = true] (by kernel_rfl) rfl rfl (ap1 b_117) (by kernel_rfl) (by kernel_rfl) ?_
          have H_206 := Option.some.inj (show some true = some q_200 from H_204); subst H_206
          refine VL_nil ?_
          exact QP_end true rfl [(7, 7), (12, 12), (13, 13)] hn (by kernel_rfl) (by kernel_rfl) rfl rfl rfl
        · have H_205 := of_f H_201 b_117
          obtain ⟨r_119, h_120, H_207⟩ := of_bind H_205
          obtain ⟨c_121, H_208⟩ := of_if H_207
          refine V_draw hN hn (by kernel_rfl) [(10, ⟨12, 0, [.agg [.val (.int .i64 (List.getD out_107 (Int.toNat (w6 ((lnI out_107) - (1 : Int)))) zP).1), .val (.int .i64 (List.getD out_107 (Int.toNat (w6 ((lnI out_107) - (1 : Int)))) zP).2)]], [], .agg [.val (.int .i64 r_119.1), .val (.int .i64 r_119.2)], [], [], 14⟩)] [(98, false)] (calls_cons (palinoderef24_Span_spec K (List.getD out_107 (Int.toNat (w6 ((lnI out_107) - (1 : Int)))) zP).1 (List.getD out_107 (Int.toNat (w6 ((lnI out_107) - (1 : Int)))) zP).2 r_119 h_120) (by kernel_rfl) calls_nil) 14 [3, 8, 9, 10, 11, 109] [0, 7, 12, 13] ⟨[(3, .c (.h 7)), (8, .c (.h 12)), (9, cI i_77), (10, cI (lnI out_107)), (11, .c (.h 13)), (109, cB (decide (r_113.1 > r_119.2)))], [(0, .row kP l_1), (7, .row kP y_150), (12, .row kP out_107), (13, .box [.val (.int .i64 r_113.1), .val (.int .i64 r_113.2)])], 14⟩ [((lnI out_107) == (0 : Int)) = false, 0 ≤ (w6 ((lnI out_107) - (1 : Int))), (w6 ((lnI out_107) - (1 : Int))) < (lnI out_107)] (by kernel_rfl) rfl rfl (ap2 b_117 (ap2 c_121.1 (ap1 c_121.2))) (by kernel_rfl) (by kernel_rfl) ?_
          have H_209 := Option.some.inj (show some (decide (r_113.1 > r_119.2)) = some q_200 from H_208); subst H_209
          refine VL_nil ?_
          exact QP_end (decide (r_113.1 > r_119.2)) rfl [(7, 7), (12, 12), (13, 13)] hn (by kernel_rfl) (by kernel_rfl) rfl rfl rfl
      · intro y_203 hy; subst hy
        skip
        skip
        refine VL_cond (y_203) (by kernel_rfl) ?_ ?_
        · intro b_123; have H_210 := of_t H_202 b_123
          obtain ⟨c_124, H_212⟩ := of_if H_210
          refine V_run hN hn 2 14 [3, 8, 9] [0, 7, 15] ⟨[(3, .c (.h 7)), (8, .c (.h 15)), (9, cI i_77)], [(0, .row kP l_1), (7, .row kP y_150), (15, .row kP (out_107 ++ ([((List.getD y_150 (Int.toNat i_77) zP).1, (List.getD y_150 (Int.toNat i_77) zP).2)] : List (Int × Int))))], 16⟩ [0 ≤ i_77, i_77 < (lnI y_150), (List.length out_107 + List.length ([((List.getD y_150 (Int.toNat i_77) zP).1, (List.getD y_150 (Int.toNat i_77) zP).2)] : List (Int × Int))) * 16 ≤ 140737488355328] (by kernel_rfl) rfl rfl (ap2 c_115.1 (ap2 c_115.2 (ap1 c_124))) ?_
          refine VL_exit ?_
          refine QB_here ?_
          refine V_run hN hn 1 16 [3, 8, 9] [0, 7, 15] ⟨[(3, .c (.h 7)), (8, .c (.h 15)), (9, cI (w6 (i_77 + (1 : Int))))], [(0, .row kP l_1), (7, .row kP y_150), (15, .row kP (out_107 ++ ([((List.getD y_150 (Int.toNat i_77) zP).1, (List.getD y_150 (Int.toNat i_77) zP).2)] : List (Int × Int))))], 16⟩ [] (by kernel_rfl) rfl rfl ap0 ?_
          refine VL_nil ?_
          exact V_roundEnd ((out_107 ++ ([((List.getD y_150 (Int.toNat i_77) zP).1, (List.getD y_150 (Int.toNat i_77) zP).2)] : List (Int × Int))), (w6 (i_77 + (1 : Int)))) H_212 [(7, 7), (12, 15)] hn (by kernel_rfl) (by kernel_rfl) rfl rfl rfl
        · intro b_123; have H_211 := of_f H_202 b_123
          obtain ⟨c_126, H_213⟩ := of_if H_211
          refine V_run hN hn 4 14 [3, 8, 9, 10, 11, 12] [0, 7, 12, 13, 14] ⟨[(3, .c (.h 7)), (8, .c (.h 12)), (9, cI i_77), (10, cI (lnI out_107)), (11, .c (.h 13)), (12, .c (.h 14))], [(0, .row kP l_1), (7, .row kP y_150), (12, .row kP out_107), (13, .box [.val (.int .i64 r_113.1), .val (.int .i64 r_113.2)]), (14, .box [.val (.int .i64 (List.getD out_107 (Int.toNat (w6 ((lnI out_107) - (1 : Int)))) zP).1), .val (.int .i64 (List.getD out_107 (Int.toNat (w6 ((lnI out_107) - (1 : Int)))) zP).2)])], 15⟩ [0 ≤ (w6 ((lnI out_107) - (1 : Int))), (w6 ((lnI out_107) - (1 : Int))) < (lnI out_107)] (by kernel_rfl) rfl rfl (ap2 c_126.1 (ap1 c_126.2)) ?_
          obtain ⟨r_127, h_128, H_214⟩ := of_bind H_213
          refine V_reg hN hn [(1, ⟨12, 0, [.agg [.val (.int .i64 (List.getD out_107 (Int.toNat (w6 ((lnI out_107) - (1 : Int)))) zP).1), .val (.int .i64 (List.getD out_107 (Int.toNat (w6 ((lnI out_107) - (1 : Int)))) zP).2)]], [], .agg [.val (.int .i64 r_127.1), .val (.int .i64 r_127.2)], [], [], 15⟩)] [] (calls_cons (palinoderef24_Span_spec K (List.getD out_107 (Int.toNat (w6 ((lnI out_107) - (1 : Int)))) zP).1 (List.getD out_107 (Int.toNat (w6 ((lnI out_107) - (1 : Int)))) zP).2 r_127 h_128) (by kernel_rfl) calls_nil) 15 [3, 8, 9, 10, 11, 12, 13] [0, 7, 12, 13, 14, 15] ⟨[(3, .c (.h 7)), (8, .c (.h 12)), (9, cI i_77), (10, cI (lnI out_107)), (11, .c (.h 13)), (12, .c (.h 14)), (13, .c (.h 15))], [(0, .row kP l_1), (7, .row kP y_150), (12, .row kP out_107), (13, .box [.val (.int .i64 r_113.1), .val (.int .i64 r_113.2)]), (14, .box [.val (.int .i64 (List.getD out_107 (Int.toNat (w6 ((lnI out_107) - (1 : Int)))) zP).1), .val (.int .i64 (List.getD out_107 (Int.toNat (w6 ((lnI out_107) - (1 : Int)))) zP).2)]), (15, .box [.val (.int .i64 r_127.1), .val (.int .i64 r_127.2)])], 16⟩ [] (by kernel_rfl) rfl rfl ap0 (by kernel_rfl) (by kernel_rfl) ?_
          refine V_run hN hn 4 16 [3, 8, 9, 10, 13, 14, 133] [0, 7, 12, 15] ⟨[(3, .c (.h 7)), (8, .c (.h 12)), (9, cI i_77), (10, cI (lnI out_107)), (13, .c (.h 15)), (14, cI (mx2 r_113.2 r_127.2)), (133, cB (decide ((List.getD out_107 (Int.toNat (w6 ((lnI out_107) - (1 : Int)))) zP).2 < (List.getD out_107 (Int.toNat (w6 ((lnI out_107) - (1 : Int)))) zP).1)))], [(0, .row kP l_1), (7, .row kP y_150), (12, .row kP out_107), (15, .box [.val (.int .i64 r_127.1), .val (.int .i64 r_127.2)])], 16⟩ [] (by kernel_rfl) rfl rfl ap0 ?_
          refine VL_cond ((decide ((List.getD out_107 (Int.toNat (w6 ((lnI out_107) - (1 : Int)))) zP).2 < (List.getD out_107 (Int.toNat (w6 ((lnI out_107) - (1 : Int)))) zP).1))) (by kernel_rfl) ?_ ?_
          · intro b_131; have H_215 := of_t H_214 b_131
            refine V_run hN hn 1 16 [3, 8, 9] [0, 7, 12] ⟨[(3, .c (.h 7)), (8, .c (.h 12)), (9, cI i_77)], [(0, .row kP l_1), (7, .row kP y_150), (12, .row kP (List.set out_107 (Int.toNat (w6 ((lnI out_107) - (1 : Int)))) ((mx2 r_113.2 r_127.2), r_127.1)))], 16⟩ [0 ≤ (w6 ((lnI out_107) - (1 : Int))), (w6 ((lnI out_107) - (1 : Int))) < (lnI out_107)] (by kernel_rfl) rfl rfl (ap2 c_126.1 (ap1 c_126.2)) ?_
            refine VL_nil (QB_end ?_)
            refine V_run hN hn 1 16 [3, 8, 9] [0, 7, 12] ⟨[(3, .c (.h 7)), (8, .c (.h 12)), (9, cI (w6 (i_77 + (1 : Int))))], [(0, .row kP l_1), (7, .row kP y_150), (12, .row kP (List.set out_107 (Int.toNat (w6 ((lnI out_107) - (1 : Int)))) ((mx2 r_113.2 r_127.2), r_127.1)))], 16⟩ [] (by kernel_rfl) rfl rfl ap0 ?_
            refine VL_nil ?_
            exact V_roundEnd ((List.set out_107 (Int.toNat (w6 ((lnI out_107) - (1 : Int)))) ((mx2 r_113.2 r_127.2), r_127.1)), (w6 (i_77 + (1 : Int)))) H_215 [(7, 7), (12, 12)] hn (by kernel_rfl) (by kernel_rfl) rfl rfl rfl
          · intro b_131; have H_216 := of_f H_214 b_131
            refine V_run hN hn 1 16 [3, 8, 9] [0, 7, 12] ⟨[(3, .c (.h 7)), (8, .c (.h 12)), (9, cI i_77)], [(0, .row kP l_1), (7, .row kP y_150), (12, .row kP (List.set out_107 (Int.toNat (w6 ((lnI out_107) - (1 : Int)))) (r_127.1, (mx2 r_113.2 r_127.2))))], 16⟩ [0 ≤ (w6 ((lnI out_107) - (1 : Int))), (w6 ((lnI out_107) - (1 : Int))) < (lnI out_107)] (by kernel_rfl) rfl rfl (ap2 c_126.1 (ap1 c_126.2)) ?_
            refine VL_nil (QB_end ?_)
            refine V_run hN hn 1 16 [3, 8, 9] [0, 7, 12] ⟨[(3, .c (.h 7)), (8, .c (.h 12)), (9, cI (w6 (i_77 + (1 : Int))))], [(0, .row kP l_1), (7, .row kP y_150), (12, .row kP (List.set out_107 (Int.toNat (w6 ((lnI out_107) - (1 : Int)))) (r_127.1, (mx2 r_113.2 r_127.2))))], 16⟩ [] (by kernel_rfl) rfl rfl ap0 ?_
            refine VL_nil ?_
            exact V_roundEnd ((List.set out_107 (Int.toNat (w6 ((lnI out_107) - (1 : Int)))) (r_127.1, (mx2 r_113.2 r_127.2))), (w6 (i_77 + (1 : Int)))) H_216 [(7, 7), (12, 12)] hn (by kernel_rfl) (by kernel_rfl) rfl rfl rfl
    · intro b_110; have H_197 := of_f H_195 b_110
      refine VL_exit ?_
      refine QL_exit ?_
      refine QB_here ?_
      refine V_run hN hn 2 13 [2] [0, 12] ⟨[(2, .c (.h 12))], [(0, .row kP l_1), (12, .row kP out_107)], 13⟩ [] (by kernel_rfl) rfl rfl ap0 ?_
      have H_217 := Option.some.inj (show some out_107 = some r from H_197); subst H_217
      refine VL_ret ?_
      exact P_to [(2, .c (.h 12))] [(0, .row kP l_1), (12, .row kP out_107)] [(12, 12)] hn (by kernel_rfl) (by kernel_rfl) rfl rfl rfl (QF_retS (by kernel_rfl) (by kernel_rfl) rfl)

theorem palinoderef24_Move_spec (K : Nat) (l_1 : (List (Int × Int))) (d_2 : Int) (d_3 : (List (Int × (Int × ByteArray)))) (r : ((List (Int × Int)) × Int)) (H : palinoderef24_Move K l_1 d_2 d_3 = some r) : Spec Try.prog 17 0 [.c (.imm (.slice kP) l_1), .agg [.val (.int .i64 d_2), .imm (.slice kE) d_3]] [] (.tup [(false, [.h 6]), (false, [.val (.int .i64 r.2)])]) [(6, .row kP r.1)] := by
  refine Spec_mk (fn := Try.f17) (c := (Try.f17.body).get!) Try.func17 (by kernel_rfl) rfl ?_
  intro C hN hn
  replace hN : C.N = 68 := hN
  unfold palinoderef24_Move at H
  refine V_run hN hn 4 0 [0, 3] [0] ⟨[(0, .c (.imm (.slice kP) l_1)), (3, .c (.h 0))], [(0, .box [.val (.int .i64 d_2), .imm (.slice kE) d_3])], 1⟩ [] (by kernel_rfl) rfl rfl ap0 ?_
  obtain ⟨q_71, H_72, H_73⟩ := of_bind H
  refine V_cut (Y := Bool) (R := Bool) q_71 (fun y => y) (fun y => [(0, .c (.imm (.slice kP) l_1)), (3, .c (.h 0)), (17, cB y)]) (fun y => [(0, .box [.val (.int .i64 d_2), .imm (.slice kE) d_3])]) ?_ ?_
  · skip
    obtain ⟨r_5, h_6, H_75⟩ := of_bind H_72
    rcases Bool.eq_false_or_eq_true ((!r_5)) with b_7 | b_7
    · have H_76 := of_t H_75 b_7
      refine V_reg hN hn [(1, ⟨41, 0, [.agg [.val (.int .i64 d_2), .imm (.slice kE) d_3]], [], cB r_5, [], [], 1⟩)] [(13, true)] (calls_cons (palinoderef11_Is_spec K d_2 d_3 r_5 h_6) (by kernel_rfl) calls_nil) 1 [0, 3, 17] [0] ⟨[(0, .c (.imm (.slice kP) l_1)), (3, .c (.h 0)), (17, cB true)], [(0, .box [.val (.int .i64 d_2), .imm (.slice kE) d_3])], 1⟩ [(!r_5) = true] (by kernel_rfl) rfl rfl (ap1 b_7) (by kernel_rfl) (by kernel_rfl) ?_
      have H_78 := Option.some.inj (show some true = some q_71 from H_76); subst H_78
      refine VL_nil ?_
      exact QP_end true rfl [(0, 0)] hn (by kernel_rfl) (by kernel_rfl) rfl rfl rfl
    · have H_77 := of_f H_75 b_7
      refine V_reg hN hn [(1, ⟨41, 0, [.agg [.val (.int .i64 d_2), .imm (.slice kE) d_3]], [], cB r_5, [], [], 1⟩)] [(13, false)] (calls_cons (palinoderef11_Is_spec K d_2 d_3 r_5 h_6) (by kernel_rfl) calls_nil) 1 [0, 3, 17] [0] ⟨[(0, .c (.imm (.slice kP) l_1)), (3, .c (.h 0)), (17, cB ((lnI l_1) == (0 : Int)))], [(0, .box [.val (.int .i64 d_2), .imm (.slice kE) d_3])], 1⟩ [(!r_5) = false] (by kernel_rfl) rfl rfl (ap1 b_7) (by kernel_rfl) (by kernel_rfl) ?_
      have H_79 := Option.some.inj (show some ((lnI l_1) == (0 : Int)) = some q_71 from H_77); subst H_79
      refine VL_nil ?_
      exact QP_end ((lnI l_1) == (0 : Int)) rfl [(0, 0)] hn (by kernel_rfl) (by kernel_rfl) rfl rfl rfl
  · intro y_74 hy; subst hy
    skip
    skip
    refine VL_cond (y_74) (by kernel_rfl) ?_ ?_
    · intro b_11; have H_80 := of_t H_73 b_11
      refine V_run hN hn 2 1 [4, 5] [] ⟨[(4, .c (.val (.slice none 0 0))), (5, cI (12 : Int))], [], 1⟩ [] (by kernel_rfl) rfl rfl ap0 ?_
      have H_82 := Option.some.inj (show some (([] : List (Int × Int)), (12 : Int)) = some r from H_80); subst H_82
      refine VL_ret ?_
      refine P_ghost [.nilSlot 4 kP] 1 hn [4, 5] [1] ⟨[(4, .c (.h 1)), (5, cI (12 : Int))], [(1, .row kP ([] : List (Int × Int)))], 2⟩ (by kernel_rfl) rfl rfl ?_
      exact P_to [(4, .c (.h 6)), (5, cI (12 : Int))] [(6, .row kP ([] : List (Int × Int)))] [(6, 1)] hn (by kernel_rfl) (by kernel_rfl) rfl rfl rfl (QF_retS (by kernel_rfl) (by kernel_rfl) rfl)
    · intro b_11; have H_81 := of_f H_73 b_11
      refine V_run hN hn 4 1 [0, 3, 6] [0] ⟨[(0, .c (.imm (.slice kP) l_1)), (3, .c (.h 0)), (6, cI (0 : Int))], [(0, .box [.val (.int .i64 d_2), .imm (.slice kE) d_3])], 1⟩ [] (by kernel_rfl) rfl rfl ap0 ?_
      obtain ⟨q_83, H_84, H_85⟩ := of_bind H_81
      refine V_cut (Y := Unit) (R := (((List (Int × Int)) × Int) ⊕ Unit)) q_83 (fun y => (Sum.inr y)) (fun y => [(0, .c (.imm (.slice kP) l_1)), (3, .c (.h 0))]) (fun y => [(0, .box [.val (.int .i64 d_2), .imm (.slice kE) d_3])]) ?_ ?_
      · skip
        refine VL_block ?_
        refine V_to [(0, .c (.imm (.slice kP) l_1)), (3, .c (.h 0)), (6, cI (0 : Int))] [(0, .box [.val (.int .i64 d_2), .imm (.slice kE) d_3])] [(0, 0)] hn (by kernel_rfl) (by kernel_rfl) rfl rfl rfl ?_
        refine VL_loop (X := Int) (fun x => [(0, .c (.imm (.slice kP) l_1)), (3, .c (.h 0)), (6, cI x)]) (fun x => [(0, .box [.val (.int .i64 d_2), .imm (.slice kE) d_3])]) (fun k x => palinoderef24_Move.l0 K l_1 d_2 k x = some q_83) K (0 : Int) H_84 (fun _ h => no_none h) ?_
        intro k_15 i_14 H_87
        have H_88 : palinoderef24_Move.l0 K l_1 d_2 (k_15 + 1) i_14 = some q_83 := H_87
        rw [palinoderef24_Move.l0] at H_88
        refine V_run hN hn 3 1 [0, 3, 6, 21] [0] ⟨[(0, .c (.imm (.slice kP) l_1)), (3, .c (.h 0)), (6, cI i_14), (21, cB (decide (i_14 < (lnI l_1))))], [(0, .box [.val (.int .i64 d_2), .imm (.slice kE) d_3])], 1⟩ [] (by kernel_rfl) rfl rfl ap0 ?_
        refine VL_cond ((decide (i_14 < (lnI l_1)))) (by kernel_rfl) ?_ ?_
        · intro b_17; have H_89 := of_t H_88 b_17
          refine V_run hN hn 2 1 [0, 3, 6, 21] [0] ⟨[(0, .c (.imm (.slice kP) l_1)), (3, .c (.h 0)), (6, cI i_14), (21, cB (decide (i_14 < (lnI l_1))))], [(0, .box [.val (.int .i64 d_2), .imm (.slice kE) d_3])], 1⟩ [] (by kernel_rfl) rfl rfl ap0 ?_
          refine VL_block ?_
          refine V_run hN hn 1 1 [0, 3, 6, 21] [0] ⟨[(0, .c (.imm (.slice kP) l_1)), (3, .c (.h 0)), (6, cI i_14), (21, cB (decide (i_14 < (lnI l_1))))], [(0, .box [.val (.int .i64 d_2), .imm (.slice kE) d_3])], 1⟩ [] (by kernel_rfl) rfl rfl ap0 ?_
          obtain ⟨r_20, h_21, H_91⟩ := of_bind H_89
          obtain ⟨c_22, H_92⟩ := of_if H_91
          refine V_reg hN hn [(4, ⟨12, 0, [.agg [.val (.int .i64 (List.getD l_1 (Int.toNat i_14) zP).1), .val (.int .i64 (List.getD l_1 (Int.toNat i_14) zP).2)]], [], .agg [.val (.int .i64 r_20.1), .val (.int .i64 r_20.2)], [], [], 1⟩)] [] (calls_cons (palinoderef24_Span_spec K (List.getD l_1 (Int.toNat i_14) zP).1 (List.getD l_1 (Int.toNat i_14) zP).2 r_20 h_21) (by kernel_rfl) calls_nil) 1 [0, 3, 6, 7] [0, 1] ⟨[(0, .c (.imm (.slice kP) l_1)), (3, .c (.h 0)), (6, cI i_14), (7, .c (.h 1))], [(0, .box [.val (.int .i64 d_2), .imm (.slice kE) d_3]), (1, .box [.val (.int .i64 r_20.1), .val (.int .i64 r_20.2)])], 2⟩ [0 ≤ i_14, i_14 < (lnI l_1)] (by kernel_rfl) rfl rfl (ap2 c_22.1 (ap1 c_22.2)) (by kernel_rfl) (by kernel_rfl) ?_
          refine V_run hN hn 1 2 [0, 3, 6, 7] [0, 1] ⟨[(0, .c (.imm (.slice kP) l_1)), (3, .c (.h 0)), (6, cI i_14), (7, .c (.h 1))], [(0, .box [.val (.int .i64 d_2), .imm (.slice kE) d_3]), (1, .box [.val (.int .i64 r_20.1), .val (.int .i64 r_20.2)])], 2⟩ [] (by kernel_rfl) rfl rfl ap0 ?_
          obtain ⟨q_93, H_94, H_95⟩ := of_bind H_92
          refine V_cut (Y := Bool) (R := Bool) q_93 (fun y => y) (fun y => [(0, .c (.imm (.slice kP) l_1)), (3, .c (.h 0)), (6, cI i_14), (38, cB y)]) (fun y => [(0, .box [.val (.int .i64 d_2), .imm (.slice kE) d_3])]) ?_ ?_
          · skip
            rcases Bool.eq_false_or_eq_true ((decide (r_20.1 < (0 : Int)))) with b_24 | b_24
            · have H_97 := of_t H_94 b_24
              refine V_reg hN hn [] [(32, true)] calls_nil 2 [0, 3, 6, 38] [0] ⟨[(0, .c (.imm (.slice kP) l_1)), (3, .c (.h 0)), (6, cI i_14), (38, cB true)], [(0, .box [.val (.int .i64 d_2), .imm (.slice kE) d_3])], 2⟩ [(decide (r_20.1 < (0 : Int))) = true] (by kernel_rfl) rfl rfl (ap1 b_24) (by kernel_rfl) (by kernel_rfl) ?_
              have H_99 := Option.some.inj (show some true = some q_93 from H_97); subst H_99
              refine VL_nil ?_
              exact QP_end true rfl [(0, 0)] hn (by kernel_rfl) (by kernel_rfl) rfl rfl rfl
            · have H_98 := of_f H_94 b_24
              refine V_reg hN hn [] [(32, false)] calls_nil 2 [0, 3, 6, 38] [0] ⟨[(0, .c (.imm (.slice kP) l_1)), (3, .c (.h 0)), (6, cI i_14), (38, cB (decide (r_20.2 > d_2)))], [(0, .box [.val (.int .i64 d_2), .imm (.slice kE) d_3])], 2⟩ [(decide (r_20.1 < (0 : Int))) = false] (by kernel_rfl) rfl rfl (ap1 b_24) (by kernel_rfl) (by kernel_rfl) ?_
              have H_100 := Option.some.inj (show some (decide (r_20.2 > d_2)) = some q_93 from H_98); subst H_100
              refine VL_nil ?_
              exact QP_end (decide (r_20.2 > d_2)) rfl [(0, 0)] hn (by kernel_rfl) (by kernel_rfl) rfl rfl rfl
          · intro y_96 hy; subst hy
            skip
            skip
            refine VL_cond (y_96) (by kernel_rfl) ?_ ?_
            · intro b_28; have H_101 := of_t H_95 b_28
              refine V_run hN hn 2 2 [4, 5] [] ⟨[(4, .c (.val (.slice none 0 0))), (5, cI (12 : Int))], [], 2⟩ [] (by kernel_rfl) rfl rfl ap0 ?_
              have H_103 := Option.some.inj (show some (Sum.inl (([] : List (Int × Int)), (12 : Int))) = some q_83 from H_101); subst H_103
              have H_104 := Option.some.inj (show some (([] : List (Int × Int)), (12 : Int)) = some r from H_85); subst H_104
              refine VL_ret ?_
              refine QB_ret ?_
              refine QL_ret ?_
              refine QB_ret ?_
              refine QP_ret ?_
              refine P_ghost [.nilSlot 4 kP] 2 hn [4, 5] [2] ⟨[(4, .c (.h 2)), (5, cI (12 : Int))], [(2, .row kP ([] : List (Int × Int)))], 3⟩ (by kernel_rfl) rfl rfl ?_
              exact P_to [(4, .c (.h 6)), (5, cI (12 : Int))] [(6, .row kP ([] : List (Int × Int)))] [(6, 2)] hn (by kernel_rfl) (by kernel_rfl) rfl rfl rfl (QF_retS (by kernel_rfl) (by kernel_rfl) rfl)
            · intro b_28; have H_102 := of_f H_95 b_28
              refine V_run hN hn 1 2 [0, 3, 6, 38] [0] ⟨[(0, .c (.imm (.slice kP) l_1)), (3, .c (.h 0)), (6, cI i_14), (38, cB y_96)], [(0, .box [.val (.int .i64 d_2), .imm (.slice kE) d_3])], 2⟩ [] (by kernel_rfl) rfl rfl ap0 ?_
              refine VL_nil (QB_end ?_)
              refine V_run hN hn 1 2 [0, 3, 6] [0] ⟨[(0, .c (.imm (.slice kP) l_1)), (3, .c (.h 0)), (6, cI (w6 (i_14 + (1 : Int))))], [(0, .box [.val (.int .i64 d_2), .imm (.slice kE) d_3])], 2⟩ [] (by kernel_rfl) rfl rfl ap0 ?_
              refine VL_nil ?_
              exact V_roundEnd (w6 (i_14 + (1 : Int))) H_102 [(0, 0)] hn (by kernel_rfl) (by kernel_rfl) rfl rfl rfl
        · intro b_17; have H_90 := of_f H_88 b_17
          refine VL_exit ?_
          refine QL_exit ?_
          refine QB_here ?_
          have H_105 := Option.some.inj (show some (Sum.inr ()) = some q_83 from H_90); subst H_105
          refine VL_nil ?_
          exact QP_end () rfl [(0, 0)] hn (by kernel_rfl) (by kernel_rfl) rfl rfl rfl
      · intro y_86 hy; subst hy
        skip
        refine V_run hN hn 3 1 [0, 3, 41] [0] ⟨[(0, .c (.imm (.slice kP) l_1)), (3, .c (.h 0)), (41, cB (decide ((lnI l_1) > (8 : Int))))], [(0, .box [.val (.int .i64 d_2), .imm (.slice kE) d_3])], 1⟩ [] (by kernel_rfl) rfl rfl ap0 ?_
        refine VL_cond ((decide ((lnI l_1) > (8 : Int)))) (by kernel_rfl) ?_ ?_
        · intro b_33; have H_106 := of_t H_85 b_33
          refine V_run hN hn 2 1 [4, 5] [] ⟨[(4, .c (.val (.slice none 0 0))), (5, cI (70 : Int))], [], 1⟩ [] (by kernel_rfl) rfl rfl ap0 ?_
          have H_108 := Option.some.inj (show some (([] : List (Int × Int)), (70 : Int)) = some r from H_106); subst H_108
          refine VL_ret ?_
          refine P_ghost [.nilSlot 4 kP] 1 hn [4, 5] [1] ⟨[(4, .c (.h 1)), (5, cI (70 : Int))], [(1, .row kP ([] : List (Int × Int)))], 2⟩ (by kernel_rfl) rfl rfl ?_
          exact P_to [(4, .c (.h 6)), (5, cI (70 : Int))] [(6, .row kP ([] : List (Int × Int)))] [(6, 1)] hn (by kernel_rfl) (by kernel_rfl) rfl rfl rfl (QF_retS (by kernel_rfl) (by kernel_rfl) rfl)
        · intro b_33; have H_107 := of_f H_85 b_33
          refine V_run hN hn 6 1 [0, 3, 8, 9] [0] ⟨[(0, .c (.imm (.slice kP) l_1)), (3, .c (.h 0)), (8, .c (.val (.slice none 0 0))), (9, cI (0 : Int))], [(0, .box [.val (.int .i64 d_2), .imm (.slice kE) d_3])], 1⟩ [] (by kernel_rfl) rfl rfl ap0 ?_
          obtain ⟨q_109, H_110, H_111⟩ := of_bind H_107
          refine V_cut (Y := (List (Int × Int))) (R := (List (Int × Int))) q_109 (fun y => y) (fun y => [(8, .c (.h 4))]) (fun y => [(4, .row kP y)]) ?_ ?_
          · skip
            refine VL_block ?_
            refine V_ghost [.nilSlot 8 kP] 1 hn [0, 3, 8, 9] [0, 1] ⟨[(0, .c (.imm (.slice kP) l_1)), (3, .c (.h 0)), (8, .c (.h 1)), (9, cI (0 : Int))], [(0, .box [.val (.int .i64 d_2), .imm (.slice kE) d_3]), (1, .row kP ([] : List (Int × Int)))], 2⟩ (by kernel_rfl) rfl rfl ?_
            refine V_to [(0, .c (.imm (.slice kP) l_1)), (3, .c (.h 0)), (8, .c (.h 4)), (9, cI (0 : Int))] [(0, .box [.val (.int .i64 d_2), .imm (.slice kE) d_3]), (4, .row kP ([] : List (Int × Int)))] [(0, 0), (4, 1)] hn (by kernel_rfl) (by kernel_rfl) rfl rfl rfl ?_
            refine VL_loop (X := ((List (Int × Int)) × Int)) (fun x => [(0, .c (.imm (.slice kP) l_1)), (3, .c (.h 0)), (8, .c (.h 4)), (9, cI x.2)]) (fun x => [(0, .box [.val (.int .i64 d_2), .imm (.slice kE) d_3]), (4, .row kP x.1)]) (fun k x => palinoderef24_Move.l1 K l_1 d_2 d_3 k x.1 x.2 = some q_109) K (([] : List (Int × Int)), (0 : Int)) H_110 (fun _ h => no_none h) ?_
            intro k_48 x_48 H_113
            obtain ⟨out_47, i_36⟩ := x_48
            have H_114 : palinoderef24_Move.l1 K l_1 d_2 d_3 (k_48 + 1) out_47 i_36 = some q_109 := H_113
            rw [palinoderef24_Move.l1] at H_114
            refine V_run hN hn 3 5 [0, 3, 8, 9, 45] [0, 4] ⟨[(0, .c (.imm (.slice kP) l_1)), (3, .c (.h 0)), (8, .c (.h 4)), (9, cI i_36), (45, cB (decide (i_36 < (lnI l_1))))], [(0, .box [.val (.int .i64 d_2), .imm (.slice kE) d_3]), (4, .row kP out_47)], 5⟩ [] (by kernel_rfl) rfl rfl ap0 ?_
            refine VL_cond ((decide (i_36 < (lnI l_1)))) (by kernel_rfl) ?_ ?_
            · intro b_50; have H_115 := of_t H_114 b_50
              refine V_run hN hn 2 5 [0, 3, 8, 9, 45] [0, 4] ⟨[(0, .c (.imm (.slice kP) l_1)), (3, .c (.h 0)), (8, .c (.h 4)), (9, cI i_36), (45, cB (decide (i_36 < (lnI l_1))))], [(0, .box [.val (.int .i64 d_2), .imm (.slice kE) d_3]), (4, .row kP out_47)], 5⟩ [] (by kernel_rfl) rfl rfl ap0 ?_
              refine VL_block ?_
              obtain ⟨r_52, h_53, H_117⟩ := of_bind H_115
              obtain ⟨r_54, h_55, H_118⟩ := of_bind H_117
              obtain ⟨c_56, H_119⟩ := of_if H_118
              refine V_draw hN hn (by kernel_rfl) [(7, ⟨42, 0, [.agg [.val (.int .i64 d_2), .imm (.slice kE) d_3], .c (.val (.int .i64 (List.getD l_1 (Int.toNat i_36) zP).1)), cB true], [], cI r_52, [], [], 5⟩), (14, ⟨42, 0, [.agg [.val (.int .i64 d_2), .imm (.slice kE) d_3], .c (.val (.int .i64 (List.getD l_1 (Int.toNat i_36) zP).2)), cB true], [], cI r_54, [], [], 5⟩)] [] (calls_cons (palinoderef11_Move_spec K d_2 d_3 (List.getD l_1 (Int.toNat i_36) zP).1 true r_52 h_53) (by kernel_rfl) (calls_cons (palinoderef11_Move_spec K d_2 d_3 (List.getD l_1 (Int.toNat i_36) zP).2 true r_54 h_55) (by kernel_rfl) calls_nil)) 5 [0, 3, 8, 9] [0, 6] ⟨[(0, .c (.imm (.slice kP) l_1)), (3, .c (.h 0)), (8, .c (.h 6)), (9, cI i_36)], [(0, .box [.val (.int .i64 d_2), .imm (.slice kE) d_3]), (6, .row kP (out_47 ++ ([(r_52, r_54)] : List (Int × Int))))], 7⟩ [0 ≤ i_36, i_36 < (lnI l_1), 0 ≤ i_36, i_36 < (lnI l_1), (List.length out_47 + List.length ([(r_52, r_54)] : List (Int × Int))) * 16 ≤ 140737488355328] (by kernel_rfl) rfl rfl (ap2 c_56.1 (ap2 c_56.2.1 (ap2 c_56.1 (ap2 c_56.2.1 (ap1 c_56.2.2))))) (by kernel_rfl) (by kernel_rfl) ?_
              refine VL_nil (QB_end ?_)
              refine V_run hN hn 1 7 [0, 3, 8, 9] [0, 6] ⟨[(0, .c (.imm (.slice kP) l_1)), (3, .c (.h 0)), (8, .c (.h 6)), (9, cI (w6 (i_36 + (1 : Int))))], [(0, .box [.val (.int .i64 d_2), .imm (.slice kE) d_3]), (6, .row kP (out_47 ++ ([(r_52, r_54)] : List (Int × Int))))], 7⟩ [] (by kernel_rfl) rfl rfl ap0 ?_
              refine VL_nil ?_
              exact V_roundEnd ((out_47 ++ ([(r_52, r_54)] : List (Int × Int))), (w6 (i_36 + (1 : Int)))) H_119 [(0, 0), (4, 6)] hn (by kernel_rfl) (by kernel_rfl) rfl rfl rfl
            · intro b_50; have H_116 := of_f H_114 b_50
              refine VL_exit ?_
              refine QL_exit ?_
              refine QB_here ?_
              have H_120 := Option.some.inj (show some out_47 = some q_109 from H_116); subst H_120
              refine VL_nil ?_
              exact QP_end out_47 rfl [(4, 4)] hn (by kernel_rfl) (by kernel_rfl) rfl rfl rfl
          · intro y_112 hy; subst hy
            skip
            skip
            refine V_run hN hn 1 5 [8] [4] ⟨[(8, .c (.h 4))], [(4, .row kP y_112)], 5⟩ [] (by kernel_rfl) rfl rfl ap0 ?_
            obtain ⟨r_60, h_61, H_121⟩ := of_bind H_111
            refine V_reg hN hn [(1, ⟨40, 1, [.c (.h 0)], [(0, .row kP y_112)], .c (.h 12), [(0, .row kP y_112), (12, .row kP r_60)], [(0, 4), (12, 5)], 6⟩)] [] (calls_cons (palinoderef24_Joined_r_spec K y_112 r_60 h_61) (by kernel_rfl) calls_nil) 5 [4, 5] [5] ⟨[(4, .c (.h 5)), (5, cI (0 : Int))], [(5, .row kP r_60)], 6⟩ [] (by kernel_rfl) rfl rfl ap0 (by kernel_rfl) (by kernel_rfl) ?_
            have H_122 := Option.some.inj (show some (r_60, (0 : Int)) = some r from H_121); subst H_122
            refine VL_ret ?_
            exact P_to [(4, .c (.h 6)), (5, cI (0 : Int))] [(6, .row kP r_60)] [(6, 5)] hn (by kernel_rfl) (by kernel_rfl) rfl rfl rfl (QF_retS (by kernel_rfl) (by kernel_rfl) rfl)

theorem region_Add_spec (K : Nat) (l_1 : (List (Int × Int))) (r_2 : Int) (r_3 : Int) (s_4 : ByteArray) (r : ((List (Int × Int)) × Int)) (H : region_Add K l_1 r_2 r_3 s_4 = some r) : Spec Try.prog 18 0 [.c (.imm (.slice kP) l_1), .agg [.val (.int .i64 r_2), .val (.int .i64 r_3)], cS s_4] [] (.tup [(false, [.h 4]), (false, [.val (.int .i64 r.2)])]) [(4, .row kP r.1)] := by
  refine Spec_mk (fn := Try.f18) (c := (Try.f18.body).get!) Try.func18 (by kernel_rfl) rfl ?_
  intro C hN hn
  replace hN : C.N = 17 := hN
  unfold region_Add at H
  refine V_run hN hn 3 0 [0, 2, 4] [0] ⟨[(0, .c (.imm (.slice kP) l_1)), (2, cS s_4), (4, .c (.h 0))], [(0, .box [.val (.int .i64 r_2), .val (.int .i64 r_3)])], 1⟩ [] (by kernel_rfl) rfl rfl ap0 ?_
  obtain ⟨r_6, h_7, H_13⟩ := of_bind H
  obtain ⟨r_8, h_9, H_14⟩ := of_bind H_13
  obtain ⟨c_10, H_15⟩ := of_if H_14
  refine V_draw hN hn (by kernel_rfl) [(1, ⟨43, 0, [.c (.imm (.slice kP) l_1)], [], .c (.h 2), [(2, .row kP r_6)], [(2, 1)], 2⟩), (6, ⟨9, 1, [.c (.h 0), cS s_4], [(0, .row kP (r_6 ++ ([(r_2, r_3)] : List (Int × Int))))], .tup [(false, [.h 4]), (false, [.val (.int .i64 r_8.2)])], [(4, .row kP r_8.1)], [(0, 3), (4, 4)], 5⟩)] [] (calls_cons (slices_Clone_spec K l_1 r_6 h_7) (by kernel_rfl) (calls_cons (region_Make_eg_spec K (r_6 ++ ([(r_2, r_3)] : List (Int × Int))) s_4 r_8 h_9) (by kernel_rfl) calls_nil)) 1 [6, 7] [4] ⟨[(6, .c (.h 4)), (7, cI r_8.2)], [(4, .row kP r_8.1)], 5⟩ [(List.length r_6 + List.length ([(r_2, r_3)] : List (Int × Int))) * 16 ≤ 140737488355328] (by kernel_rfl) rfl rfl (ap1 c_10) (by kernel_rfl) (by kernel_rfl) ?_
  have H_16 := Option.some.inj (show some (r_8.1, r_8.2) = some r from H_15); subst H_16
  refine VL_ret ?_
  exact P_to [(6, .c (.h 4)), (7, cI r_8.2)] [(4, .row kP r_8.1)] [(4, 4)] hn (by kernel_rfl) (by kernel_rfl) rfl rfl rfl (QF_retS (by kernel_rfl) (by kernel_rfl) rfl)

theorem palinoderef24_Make_rg_spec (K : Nat) (l_1 : (List (Int × Int))) (s_2 : ByteArray) (r : ((List (Int × Int)) × Int)) (H : palinoderef24_Make K l_1 s_2 = some r) : Spec Try.prog 16 1 [.c (.h 0), cS s_2] [(0, .row kP l_1)] (.tup [(false, [.h 3]), (false, [.val (.int .i64 r.2)])]) [(0, .row kP l_1), (3, .row kP r.1)] := by
  refine Spec_mk (fn := Try.f16) (c := (Try.f16.body).get!) Try.func16 (by kernel_rfl) rfl ?_
  intro C hN hn
  replace hN : C.N = 62 := hN
  unfold palinoderef24_Make at H
  refine V_run hN hn 5 1 [0, 1, 11] [0] ⟨[(0, .c (.h 0)), (1, cS s_2), (11, cB ((lnI l_1) == (0 : Int)))], [(0, .row kP l_1)], 1⟩ [] (by kernel_rfl) rfl rfl ap0 ?_
  refine VL_cond (((lnI l_1) == (0 : Int))) (by kernel_rfl) ?_ ?_
  · intro b_4; have H_61 := of_t H b_4
    refine V_run hN hn 2 1 [4, 5] [0] ⟨[(4, .c (.val (.slice none 0 0))), (5, cI (12 : Int))], [(0, .row kP l_1)], 1⟩ [] (by kernel_rfl) rfl rfl ap0 ?_
    have H_63 := Option.some.inj (show some (([] : List (Int × Int)), (12 : Int)) = some r from H_61); subst H_63
    refine VL_ret ?_
    refine P_ghost [.nilSlot 4 kP] 1 hn [4, 5] [0, 1] ⟨[(4, .c (.h 1)), (5, cI (12 : Int))], [(0, .row kP l_1), (1, .row kP ([] : List (Int × Int)))], 2⟩ (by kernel_rfl) rfl rfl ?_
    exact P_to [(4, .c (.h 3)), (5, cI (12 : Int))] [(0, .row kP l_1), (3, .row kP ([] : List (Int × Int)))] [(3, 1)] hn (by kernel_rfl) (by kernel_rfl) rfl rfl rfl (QF_retS (by kernel_rfl) (by kernel_rfl) rfl)
  · intro b_4; have H_62 := of_f H b_4
    refine V_run hN hn 4 1 [0, 1, 14] [0] ⟨[(0, .c (.h 0)), (1, cS s_2), (14, cB (decide ((lnI l_1) > (8 : Int))))], [(0, .row kP l_1)], 1⟩ [] (by kernel_rfl) rfl rfl ap0 ?_
    refine VL_cond ((decide ((lnI l_1) > (8 : Int)))) (by kernel_rfl) ?_ ?_
    · intro b_7; have H_64 := of_t H_62 b_7
      refine V_run hN hn 2 1 [4, 5] [0] ⟨[(4, .c (.val (.slice none 0 0))), (5, cI (70 : Int))], [(0, .row kP l_1)], 1⟩ [] (by kernel_rfl) rfl rfl ap0 ?_
      have H_66 := Option.some.inj (show some (([] : List (Int × Int)), (70 : Int)) = some r from H_64); subst H_66
      refine VL_ret ?_
      refine P_ghost [.nilSlot 4 kP] 1 hn [4, 5] [0, 1] ⟨[(4, .c (.h 1)), (5, cI (70 : Int))], [(0, .row kP l_1), (1, .row kP ([] : List (Int × Int)))], 2⟩ (by kernel_rfl) rfl rfl ?_
      exact P_to [(4, .c (.h 3)), (5, cI (70 : Int))] [(0, .row kP l_1), (3, .row kP ([] : List (Int × Int)))] [(3, 1)] hn (by kernel_rfl) (by kernel_rfl) rfl rfl rfl (QF_retS (by kernel_rfl) (by kernel_rfl) rfl)
    · intro b_7; have H_65 := of_f H_62 b_7
      refine V_run hN hn 4 1 [0, 1, 6] [0] ⟨[(0, .c (.h 0)), (1, cS s_2), (6, cI (0 : Int))], [(0, .row kP l_1)], 1⟩ [] (by kernel_rfl) rfl rfl ap0 ?_
      obtain ⟨q_67, H_68, H_69⟩ := of_bind H_65
      refine V_cut (Y := Unit) (R := (((List (Int × Int)) × Int) ⊕ Unit)) q_67 (fun y => (Sum.inr y)) (fun y => [(0, .c (.h 0)), (1, cS s_2)]) (fun y => [(0, .row kP l_1)]) ?_ ?_
      · skip
        refine VL_block ?_
        refine V_to [(0, .c (.h 0)), (1, cS s_2), (6, cI (0 : Int))] [(0, .row kP l_1)] [] hn (by kernel_rfl) (by kernel_rfl) rfl rfl rfl ?_
        refine VL_loop (X := Int) (fun x => [(0, .c (.h 0)), (1, cS s_2), (6, cI x)]) (fun x => [(0, .row kP l_1)]) (fun k x => palinoderef24_Make.l0 K l_1 s_2 k x = some q_67) K (0 : Int) H_68 (fun _ h => no_none h) ?_
        intro k_11 i_10 H_71
        have H_72 : palinoderef24_Make.l0 K l_1 s_2 (k_11 + 1) i_10 = some q_67 := H_71
        rw [palinoderef24_Make.l0] at H_72
        refine V_run hN hn 3 1 [0, 1, 6, 18] [0] ⟨[(0, .c (.h 0)), (1, cS s_2), (6, cI i_10), (18, cB (decide (i_10 < (lnI l_1))))], [(0, .row kP l_1)], 1⟩ [] (by kernel_rfl) rfl rfl ap0 ?_
        refine VL_cond ((decide (i_10 < (lnI l_1)))) (by kernel_rfl) ?_ ?_
        · intro b_13; have H_73 := of_t H_72 b_13
          refine V_run hN hn 2 1 [0, 1, 6, 18] [0] ⟨[(0, .c (.h 0)), (1, cS s_2), (6, cI i_10), (18, cB (decide (i_10 < (lnI l_1))))], [(0, .row kP l_1)], 1⟩ [] (by kernel_rfl) rfl rfl ap0 ?_
          refine VL_block ?_
          refine V_run hN hn 1 1 [0, 1, 6, 18] [0] ⟨[(0, .c (.h 0)), (1, cS s_2), (6, cI i_10), (18, cB (decide (i_10 < (lnI l_1))))], [(0, .row kP l_1)], 1⟩ [] (by kernel_rfl) rfl rfl ap0 ?_
          obtain ⟨r_16, h_17, H_75⟩ := of_bind H_73
          obtain ⟨c_18, H_76⟩ := of_if H_75
          refine V_reg hN hn [(4, ⟨12, 0, [.agg [.val (.int .i64 (List.getD l_1 (Int.toNat i_10) zP).1), .val (.int .i64 (List.getD l_1 (Int.toNat i_10) zP).2)]], [], .agg [.val (.int .i64 r_16.1), .val (.int .i64 r_16.2)], [], [], 1⟩)] [] (calls_cons (palinoderef24_Span_spec K (List.getD l_1 (Int.toNat i_10) zP).1 (List.getD l_1 (Int.toNat i_10) zP).2 r_16 h_17) (by kernel_rfl) calls_nil) 1 [0, 1, 6, 7] [0, 1] ⟨[(0, .c (.h 0)), (1, cS s_2), (6, cI i_10), (7, .c (.h 1))], [(0, .row kP l_1), (1, .box [.val (.int .i64 r_16.1), .val (.int .i64 r_16.2)])], 2⟩ [0 ≤ i_10, i_10 < (lnI l_1)] (by kernel_rfl) rfl rfl (ap2 c_18.1 (ap1 c_18.2)) (by kernel_rfl) (by kernel_rfl) ?_
          refine V_run hN hn 1 2 [0, 1, 6, 7] [0, 1] ⟨[(0, .c (.h 0)), (1, cS s_2), (6, cI i_10), (7, .c (.h 1))], [(0, .row kP l_1), (1, .box [.val (.int .i64 r_16.1), .val (.int .i64 r_16.2)])], 2⟩ [] (by kernel_rfl) rfl rfl ap0 ?_
          obtain ⟨q_77, H_78, H_79⟩ := of_bind H_76
          refine V_cut (Y := Bool) (R := Bool) q_77 (fun y => y) (fun y => [(0, .c (.h 0)), (1, cS s_2), (6, cI i_10), (35, cB y)]) (fun y => [(0, .row kP l_1)]) ?_ ?_
          · skip
            rcases Bool.eq_false_or_eq_true ((decide (r_16.1 < (0 : Int)))) with b_20 | b_20
            · have H_81 := of_t H_78 b_20
              refine V_reg hN hn [] [(29, true)] calls_nil 2 [0, 1, 6, 35] [0] ⟨[(0, .c (.h 0)), (1, cS s_2), (6, cI i_10), (35, cB true)], [(0, .row kP l_1)], 2⟩ [(decide (r_16.1 < (0 : Int))) = true] (by kernel_rfl) rfl rfl (ap1 b_20) (by kernel_rfl) (by kernel_rfl) ?_
              have H_83 := Option.some.inj (show some true = some q_77 from H_81); subst H_83
              refine VL_nil ?_
              exact QP_end true rfl [] hn (by kernel_rfl) (by kernel_rfl) rfl rfl rfl
            · have H_82 := of_f H_78 b_20
              refine V_reg hN hn [] [(29, false)] calls_nil 2 [0, 1, 6, 35] [0] ⟨[(0, .c (.h 0)), (1, cS s_2), (6, cI i_10), (35, cB (decide (r_16.2 > (((ByteArray.size s_2) : Nat) : Int))))], [(0, .row kP l_1)], 2⟩ [(decide (r_16.1 < (0 : Int))) = false] (by kernel_rfl) rfl rfl (ap1 b_20) (by kernel_rfl) (by kernel_rfl) ?_
              have H_84 := Option.some.inj (show some (decide (r_16.2 > (((ByteArray.size s_2) : Nat) : Int))) = some q_77 from H_82); subst H_84
              refine VL_nil ?_
              exact QP_end (decide (r_16.2 > (((ByteArray.size s_2) : Nat) : Int))) rfl [] hn (by kernel_rfl) (by kernel_rfl) rfl rfl rfl
          · intro y_80 hy; subst hy
            skip
            skip
            refine VL_cond (y_80) (by kernel_rfl) ?_ ?_
            · intro b_24; have H_85 := of_t H_79 b_24
              refine V_run hN hn 2 2 [4, 5] [0] ⟨[(4, .c (.val (.slice none 0 0))), (5, cI (10 : Int))], [(0, .row kP l_1)], 2⟩ [] (by kernel_rfl) rfl rfl ap0 ?_
              have H_87 := Option.some.inj (show some (Sum.inl (([] : List (Int × Int)), (10 : Int))) = some q_67 from H_85); subst H_87
              have H_88 := Option.some.inj (show some (([] : List (Int × Int)), (10 : Int)) = some r from H_69); subst H_88
              refine VL_ret ?_
              refine QB_ret ?_
              refine QL_ret ?_
              refine QB_ret ?_
              refine QP_ret ?_
              refine P_ghost [.nilSlot 4 kP] 2 hn [4, 5] [0, 2] ⟨[(4, .c (.h 2)), (5, cI (10 : Int))], [(0, .row kP l_1), (2, .row kP ([] : List (Int × Int)))], 3⟩ (by kernel_rfl) rfl rfl ?_
              exact P_to [(4, .c (.h 3)), (5, cI (10 : Int))] [(0, .row kP l_1), (3, .row kP ([] : List (Int × Int)))] [(3, 2)] hn (by kernel_rfl) (by kernel_rfl) rfl rfl rfl (QF_retS (by kernel_rfl) (by kernel_rfl) rfl)
            · intro b_24; have H_86 := of_f H_79 b_24
              refine V_run hN hn 1 2 [0, 1, 6, 35] [0] ⟨[(0, .c (.h 0)), (1, cS s_2), (6, cI i_10), (35, cB y_80)], [(0, .row kP l_1)], 2⟩ [] (by kernel_rfl) rfl rfl ap0 ?_
              refine VL_nil (QB_end ?_)
              refine V_run hN hn 1 2 [0, 1, 6] [0] ⟨[(0, .c (.h 0)), (1, cS s_2), (6, cI (w6 (i_10 + (1 : Int))))], [(0, .row kP l_1)], 2⟩ [] (by kernel_rfl) rfl rfl ap0 ?_
              refine VL_nil ?_
              exact V_roundEnd (w6 (i_10 + (1 : Int))) H_86 [] hn (by kernel_rfl) (by kernel_rfl) rfl rfl rfl
        · intro b_13; have H_74 := of_f H_72 b_13
          refine VL_exit ?_
          refine QL_exit ?_
          refine QB_here ?_
          have H_89 := Option.some.inj (show some (Sum.inr ()) = some q_67 from H_74); subst H_89
          refine VL_nil ?_
          exact QP_end () rfl [] hn (by kernel_rfl) (by kernel_rfl) rfl rfl rfl
      · intro y_70 hy; subst hy
        skip
        refine V_run hN hn 3 1 [0, 1, 8] [0] ⟨[(0, .c (.h 0)), (1, cS s_2), (8, cI (0 : Int))], [(0, .row kP l_1)], 1⟩ [] (by kernel_rfl) rfl rfl ap0 ?_
        obtain ⟨q_90, H_91, H_92⟩ := of_bind H_69
        refine V_cut (Y := Unit) (R := (((List (Int × Int)) × Int) ⊕ Unit)) q_90 (fun y => (Sum.inr y)) (fun y => [(0, .c (.h 0))]) (fun y => [(0, .row kP l_1)]) ?_ ?_
        · skip
          refine VL_block ?_
          refine V_to [(0, .c (.h 0)), (1, cS s_2), (8, cI (0 : Int))] [(0, .row kP l_1)] [] hn (by kernel_rfl) (by kernel_rfl) rfl rfl rfl ?_
          refine VL_loop (X := Int) (fun x => [(0, .c (.h 0)), (1, cS s_2), (8, cI x)]) (fun x => [(0, .row kP l_1)]) (fun k x => palinoderef24_Make.l1 K l_1 s_2 k x = some q_90) K (0 : Int) H_91 (fun _ h => no_none h) ?_
          intro k_30 i_29 H_94
          have H_95 : palinoderef24_Make.l1 K l_1 s_2 (k_30 + 1) i_29 = some q_90 := H_94
          rw [palinoderef24_Make.l1] at H_95
          refine V_run hN hn 3 1 [0, 1, 8, 39] [0] ⟨[(0, .c (.h 0)), (1, cS s_2), (8, cI i_29), (39, cB (decide (i_29 < (lnI l_1))))], [(0, .row kP l_1)], 1⟩ [] (by kernel_rfl) rfl rfl ap0 ?_
          refine VL_cond ((decide (i_29 < (lnI l_1)))) (by kernel_rfl) ?_ ?_
          · intro b_32; have H_96 := of_t H_95 b_32
            refine V_run hN hn 2 1 [0, 1, 8, 39] [0] ⟨[(0, .c (.h 0)), (1, cS s_2), (8, cI i_29), (39, cB (decide (i_29 < (lnI l_1))))], [(0, .row kP l_1)], 1⟩ [] (by kernel_rfl) rfl rfl ap0 ?_
            refine VL_block ?_
            refine V_run hN hn 1 1 [0, 1, 8, 39] [0] ⟨[(0, .c (.h 0)), (1, cS s_2), (8, cI i_29), (39, cB (decide (i_29 < (lnI l_1))))], [(0, .row kP l_1)], 1⟩ [] (by kernel_rfl) rfl rfl ap0 ?_
            obtain ⟨q_98, H_99, H_100⟩ := of_bind H_96
            refine V_cut (Y := Bool) (R := Bool) q_98 (fun y => y) (fun y => [(0, .c (.h 0)), (1, cS s_2), (8, cI i_29), (59, cB y)]) (fun y => [(0, .row kP l_1)]) ?_ ?_
            · skip
              obtain ⟨r_35, h_36, H_102⟩ := of_bind H_99
              rcases Bool.eq_false_or_eq_true ((!r_35)) with b_37 | b_37
              · have H_103 := of_t H_102 b_37
                obtain ⟨c_38, H_105⟩ := of_if H_103
                refine V_reg hN hn [(6, ⟨23, 0, [cS s_2, .c (.val (.int .i64 (List.getD l_1 (Int.toNat i_29) zP).1))], [], cB r_35, [], [], 1⟩)] [(50, true)] (calls_cons (palinoderef1_IsEdge_spec K s_2 (List.getD l_1 (Int.toNat i_29) zP).1 r_35 h_36) (by kernel_rfl) calls_nil) 1 [0, 1, 8, 59] [0] ⟨[(0, .c (.h 0)), (1, cS s_2), (8, cI i_29), (59, cB true)], [(0, .row kP l_1)], 1⟩ [0 ≤ i_29, i_29 < (lnI l_1), (!r_35) = true] (by kernel_rfl) rfl rfl (ap2 c_38.1 (ap2 c_38.2 (ap1 b_37))) (by kernel_rfl) (by kernel_rfl) ?_
                have H_106 := Option.some.inj (show some true = some q_98 from H_105); subst H_106
                refine VL_nil ?_
                exact QP_end true rfl [] hn (by kernel_rfl) (by kernel_rfl) rfl rfl rfl
              · have H_104 := of_f H_102 b_37
                obtain ⟨r_39, h_40, H_107⟩ := of_bind H_104
                obtain ⟨c_41, H_108⟩ := of_if H_107
                refine V_reg hN hn [(6, ⟨23, 0, [cS s_2, .c (.val (.int .i64 (List.getD l_1 (Int.toNat i_29) zP).1))], [], cB r_35, [], [], 1⟩), (15, ⟨23, 0, [cS s_2, .c (.val (.int .i64 (List.getD l_1 (Int.toNat i_29) zP).2))], [], cB r_39, [], [], 1⟩)] [(50, false)] (calls_cons (palinoderef1_IsEdge_spec K s_2 (List.getD l_1 (Int.toNat i_29) zP).1 r_35 h_36) (by kernel_rfl) (calls_cons (palinoderef1_IsEdge_spec K s_2 (List.getD l_1 (Int.toNat i_29) zP).2 r_39 h_40) (by kernel_rfl) calls_nil)) 1 [0, 1, 8, 59] [0] ⟨[(0, .c (.h 0)), (1, cS s_2), (8, cI i_29), (59, cB (!r_39))], [(0, .row kP l_1)], 1⟩ [0 ≤ i_29, i_29 < (lnI l_1), (!r_35) = false, 0 ≤ i_29, i_29 < (lnI l_1)] (by kernel_rfl) rfl rfl (ap2 c_41.1 (ap2 c_41.2 (ap2 b_37 (ap2 c_41.1 (ap1 c_41.2))))) (by kernel_rfl) (by kernel_rfl) ?_
                have H_109 := Option.some.inj (show some (!r_39) = some q_98 from H_108); subst H_109
                refine VL_nil ?_
                exact QP_end (!r_39) rfl [] hn (by kernel_rfl) (by kernel_rfl) rfl rfl rfl
            · intro y_101 hy; subst hy
              skip
              skip
              refine VL_cond (y_101) (by kernel_rfl) ?_ ?_
              · intro b_43; have H_110 := of_t H_100 b_43
                refine V_run hN hn 2 1 [4, 5] [0] ⟨[(4, .c (.val (.slice none 0 0))), (5, cI (11 : Int))], [(0, .row kP l_1)], 1⟩ [] (by kernel_rfl) rfl rfl ap0 ?_
                have H_112 := Option.some.inj (show some (Sum.inl (([] : List (Int × Int)), (11 : Int))) = some q_90 from H_110); subst H_112
                have H_113 := Option.some.inj (show some (([] : List (Int × Int)), (11 : Int)) = some r from H_92); subst H_113
                refine VL_ret ?_
                refine QB_ret ?_
                refine QL_ret ?_
                refine QB_ret ?_
                refine QP_ret ?_
                refine P_ghost [.nilSlot 4 kP] 1 hn [4, 5] [0, 1] ⟨[(4, .c (.h 1)), (5, cI (11 : Int))], [(0, .row kP l_1), (1, .row kP ([] : List (Int × Int)))], 2⟩ (by kernel_rfl) rfl rfl ?_
                exact P_to [(4, .c (.h 3)), (5, cI (11 : Int))] [(0, .row kP l_1), (3, .row kP ([] : List (Int × Int)))] [(3, 1)] hn (by kernel_rfl) (by kernel_rfl) rfl rfl rfl (QF_retS (by kernel_rfl) (by kernel_rfl) rfl)
              · intro b_43; have H_111 := of_f H_100 b_43
                refine V_run hN hn 1 1 [0, 1, 8, 59] [0] ⟨[(0, .c (.h 0)), (1, cS s_2), (8, cI i_29), (59, cB y_101)], [(0, .row kP l_1)], 1⟩ [] (by kernel_rfl) rfl rfl ap0 ?_
                refine VL_nil (QB_end ?_)
                refine V_run hN hn 1 1 [0, 1, 8] [0] ⟨[(0, .c (.h 0)), (1, cS s_2), (8, cI (w6 (i_29 + (1 : Int))))], [(0, .row kP l_1)], 1⟩ [] (by kernel_rfl) rfl rfl ap0 ?_
                refine VL_nil ?_
                exact V_roundEnd (w6 (i_29 + (1 : Int))) H_111 [] hn (by kernel_rfl) (by kernel_rfl) rfl rfl rfl
          · intro b_32; have H_97 := of_f H_95 b_32
            refine VL_exit ?_
            refine QL_exit ?_
            refine QB_here ?_
            have H_114 := Option.some.inj (show some (Sum.inr ()) = some q_90 from H_97); subst H_114
            refine VL_nil ?_
            exact QP_end () rfl [] hn (by kernel_rfl) (by kernel_rfl) rfl rfl rfl
        · intro y_93 hy; subst hy
          skip
          refine V_run hN hn 1 1 [0] [0] ⟨[(0, .c (.h 0))], [(0, .row kP l_1)], 1⟩ [] (by kernel_rfl) rfl rfl ap0 ?_
          obtain ⟨r_48, h_49, H_115⟩ := of_bind H_92
          refine V_reg hN hn [(1, ⟨40, 1, [.c (.h 0)], [(0, .row kP l_1)], .c (.h 12), [(0, .row kP l_1), (12, .row kP r_48)], [(0, 0), (12, 1)], 2⟩)] [] (calls_cons (palinoderef24_Joined_r_spec K l_1 r_48 h_49) (by kernel_rfl) calls_nil) 1 [4, 5] [0, 1] ⟨[(4, .c (.h 1)), (5, cI (0 : Int))], [(0, .row kP l_1), (1, .row kP r_48)], 2⟩ [] (by kernel_rfl) rfl rfl ap0 (by kernel_rfl) (by kernel_rfl) ?_
          have H_116 := Option.some.inj (show some (r_48, (0 : Int)) = some r from H_115); subst H_116
          refine VL_ret ?_
          exact P_to [(4, .c (.h 3)), (5, cI (0 : Int))] [(0, .row kP l_1), (3, .row kP r_48)] [(3, 1)] hn (by kernel_rfl) (by kernel_rfl) rfl rfl rfl (QF_retS (by kernel_rfl) (by kernel_rfl) rfl)

theorem palinoderef24_Is_spec (K : Nat) (l_1 : (List (Int × Int))) (s_2 : ByteArray) (r : Bool) (H : palinoderef24_Is K l_1 s_2 = some r) : Spec Try.prog 19 0 [.c (.imm (.slice kP) l_1), cS s_2] [] (cB r) [] := by
  refine Spec_mk (fn := Try.f19) (c := (Try.f19.body).get!) Try.func19 (by kernel_rfl) rfl ?_
  intro C hN hn
  replace hN : C.N = 58 := hN
  unfold palinoderef24_Is at H
  refine V_run hN hn 4 0 [0, 1] [] ⟨[(0, .c (.imm (.slice kP) l_1)), (1, cS s_2)], [], 0⟩ [] (by kernel_rfl) rfl rfl ap0 ?_
  obtain ⟨q_42, H_43, H_44⟩ := of_bind H
  refine V_cut (Y := Bool) (R := Bool) q_42 (fun y => y) (fun y => [(0, .c (.imm (.slice kP) l_1)), (1, cS s_2), (13, cB y)]) (fun y => []) ?_ ?_
  · skip
    rcases Bool.eq_false_or_eq_true ((decide ((lnI l_1) < (1 : Int)))) with b_4 | b_4
    · have H_46 := of_t H_43 b_4
      refine V_reg hN hn [] [(9, true)] calls_nil 0 [0, 1, 13] [] ⟨[(0, .c (.imm (.slice kP) l_1)), (1, cS s_2), (13, cB true)], [], 0⟩ [(decide ((lnI l_1) < (1 : Int))) = true] (by kernel_rfl) rfl rfl (ap1 b_4) (by kernel_rfl) (by kernel_rfl) ?_
      have H_48 := Option.some.inj (show some true = some q_42 from H_46); subst H_48
      refine VL_nil ?_
      exact QP_end true rfl [] hn (by kernel_rfl) (by kernel_rfl) rfl rfl rfl
    · have H_47 := of_f H_43 b_4
      refine V_reg hN hn [] [(9, false)] calls_nil 0 [0, 1, 13] [] ⟨[(0, .c (.imm (.slice kP) l_1)), (1, cS s_2), (13, cB (decide ((lnI l_1) > (8 : Int))))], [], 0⟩ [(decide ((lnI l_1) < (1 : Int))) = false] (by kernel_rfl) rfl rfl (ap1 b_4) (by kernel_rfl) (by kernel_rfl) ?_
      have H_49 := Option.some.inj (show some (decide ((lnI l_1) > (8 : Int))) = some q_42 from H_47); subst H_49
      refine VL_nil ?_
      exact QP_end (decide ((lnI l_1) > (8 : Int))) rfl [] hn (by kernel_rfl) (by kernel_rfl) rfl rfl rfl
  · intro y_45 hy; subst hy
    skip
    skip
    refine VL_cond (y_45) (by kernel_rfl) ?_ ?_
    · intro b_8; have H_50 := of_t H_44 b_8
      refine V_run hN hn 2 0 [4] [] ⟨[(4, cB false)], [], 0⟩ [] (by kernel_rfl) rfl rfl ap0 ?_
      have H_52 := Option.some.inj (show some false = some r from H_50); subst H_52
      refine VL_ret ?_
      exact P_to [(4, cB false)] [] [] hn (by kernel_rfl) (by kernel_rfl) rfl rfl rfl (QF_retS (by kernel_rfl) (by kernel_rfl) rfl)
    · intro b_8; have H_51 := of_f H_44 b_8
      refine V_run hN hn 4 0 [0, 1, 5] [] ⟨[(0, .c (.imm (.slice kP) l_1)), (1, cS s_2), (5, cI (0 : Int))], [], 0⟩ [] (by kernel_rfl) rfl rfl ap0 ?_
      refine VL_block ?_
      refine V_to [(0, .c (.imm (.slice kP) l_1)), (1, cS s_2), (5, cI (0 : Int))] [] [] hn (by kernel_rfl) (by kernel_rfl) rfl rfl rfl ?_
      refine VL_loop (X := Int) (fun x => [(0, .c (.imm (.slice kP) l_1)), (1, cS s_2), (5, cI x)]) (fun x => []) (fun k x => palinoderef24_Is.l0 K l_1 s_2 k x = some r) K (0 : Int) H_51 (fun _ h => no_none h) ?_
      intro k_12 i_11 H_53
      have H_54 : palinoderef24_Is.l0 K l_1 s_2 (k_12 + 1) i_11 = some r := H_53
      rw [palinoderef24_Is.l0] at H_54
      refine V_run hN hn 3 0 [0, 1, 5, 17] [] ⟨[(0, .c (.imm (.slice kP) l_1)), (1, cS s_2), (5, cI i_11), (17, cB (decide (i_11 < (lnI l_1))))], [], 0⟩ [] (by kernel_rfl) rfl rfl ap0 ?_
      refine VL_cond ((decide (i_11 < (lnI l_1)))) (by kernel_rfl) ?_ ?_
      · intro b_14; have H_55 := of_t H_54 b_14
        refine V_run hN hn 2 0 [0, 1, 5, 17] [] ⟨[(0, .c (.imm (.slice kP) l_1)), (1, cS s_2), (5, cI i_11), (17, cB (decide (i_11 < (lnI l_1))))], [], 0⟩ [] (by kernel_rfl) rfl rfl ap0 ?_
        refine VL_block ?_
        refine V_run hN hn 1 0 [0, 1, 5, 17] [] ⟨[(0, .c (.imm (.slice kP) l_1)), (1, cS s_2), (5, cI i_11), (17, cB (decide (i_11 < (lnI l_1))))], [], 0⟩ [] (by kernel_rfl) rfl rfl ap0 ?_
        obtain ⟨q_57, H_58, H_59⟩ := of_bind H_55
        refine V_cut (Y := Bool) (R := Bool) q_57 (fun y => y) (fun y => [(0, .c (.imm (.slice kP) l_1)), (1, cS s_2), (5, cI i_11), (57, cB y)]) (fun y => []) ?_ ?_
        · skip
          obtain ⟨r_17, h_18, H_61⟩ := of_bind H_58
          rcases Bool.eq_false_or_eq_true ((!r_17)) with b_19 | b_19
          · have H_62 := of_t H_61 b_19
            obtain ⟨c_20, H_64⟩ := of_if H_62
            refine V_draw hN hn (by kernel_rfl) [(6, ⟨23, 0, [cS s_2, .c (.val (.int .i64 (List.getD l_1 (Int.toNat i_11) zP).1))], [], cB r_17, [], [], 0⟩)] [(28, true)] (calls_cons (palinoderef1_IsEdge_spec K s_2 (List.getD l_1 (Int.toNat i_11) zP).1 r_17 h_18) (by kernel_rfl) calls_nil) 0 [0, 1, 5, 57] [] ⟨[(0, .c (.imm (.slice kP) l_1)), (1, cS s_2), (5, cI i_11), (57, cB true)], [], 0⟩ [0 ≤ i_11, i_11 < (lnI l_1), (!r_17) = true] (by kernel_rfl) rfl rfl (ap2 c_20.1 (ap2 c_20.2 (ap1 b_19))) (by kernel_rfl) (by kernel_rfl) ?_
            have H_65 := Option.some.inj (show some true = some q_57 from H_64); subst H_65
            refine VL_nil ?_
            exact QP_end true rfl [] hn (by kernel_rfl) (by kernel_rfl) rfl rfl rfl
          · have H_63 := of_f H_61 b_19
            obtain ⟨r_21, h_22, H_66⟩ := of_bind H_63
            rcases Bool.eq_false_or_eq_true ((!r_21)) with b_23 | b_23
            · have H_67 := of_t H_66 b_23
              obtain ⟨c_24, H_69⟩ := of_if H_67
              refine V_draw hN hn (by kernel_rfl) [(6, ⟨23, 0, [cS s_2, .c (.val (.int .i64 (List.getD l_1 (Int.toNat i_11) zP).1))], [], cB r_17, [], [], 0⟩), (15, ⟨23, 0, [cS s_2, .c (.val (.int .i64 (List.getD l_1 (Int.toNat i_11) zP).2))], [], cB r_21, [], [], 0⟩)] [(28, false), (38, true)] (calls_cons (palinoderef1_IsEdge_spec K s_2 (List.getD l_1 (Int.toNat i_11) zP).1 r_17 h_18) (by kernel_rfl) (calls_cons (palinoderef1_IsEdge_spec K s_2 (List.getD l_1 (Int.toNat i_11) zP).2 r_21 h_22) (by kernel_rfl) calls_nil)) 0 [0, 1, 5, 57] [] ⟨[(0, .c (.imm (.slice kP) l_1)), (1, cS s_2), (5, cI i_11), (57, cB true)], [], 0⟩ [0 ≤ i_11, i_11 < (lnI l_1), (!r_17) = false, 0 ≤ i_11, i_11 < (lnI l_1), (!r_21) = true] (by kernel_rfl) rfl rfl (ap2 c_24.1 (ap2 c_24.2 (ap2 b_19 (ap2 c_24.1 (ap2 c_24.2 (ap1 b_23)))))) (by kernel_rfl) (by kernel_rfl) ?_
              have H_70 := Option.some.inj (show some true = some q_57 from H_69); subst H_70
              refine VL_nil ?_
              exact QP_end true rfl [] hn (by kernel_rfl) (by kernel_rfl) rfl rfl rfl
            · have H_68 := of_f H_66 b_23
              rcases Bool.eq_false_or_eq_true ((decide (i_11 > (0 : Int)))) with b_25 | b_25
              · have H_71 := of_t H_68 b_25
                obtain ⟨r_26, h_27, H_73⟩ := of_bind H_71
                obtain ⟨r_28, h_29, H_74⟩ := of_bind H_73
                obtain ⟨c_30, H_75⟩ := of_if H_74
                refine V_draw hN hn (by kernel_rfl) [(6, ⟨23, 0, [cS s_2, .c (.val (.int .i64 (List.getD l_1 (Int.toNat i_11) zP).1))], [], cB r_17, [], [], 0⟩), (15, ⟨23, 0, [cS s_2, .c (.val (.int .i64 (List.getD l_1 (Int.toNat i_11) zP).2))], [], cB r_21, [], [], 0⟩), (26, ⟨12, 0, [.agg [.val (.int .i64 (List.getD l_1 (Int.toNat i_11) zP).1), .val (.int .i64 (List.getD l_1 (Int.toNat i_11) zP).2)]], [], .agg [.val (.int .i64 r_26.1), .val (.int .i64 r_26.2)], [], [], 0⟩), (33, ⟨12, 0, [.agg [.val (.int .i64 (List.getD l_1 (Int.toNat (w6 (i_11 - (1 : Int)))) zP).1), .val (.int .i64 (List.getD l_1 (Int.toNat (w6 (i_11 - (1 : Int)))) zP).2)]], [], .agg [.val (.int .i64 r_28.1), .val (.int .i64 r_28.2)], [], [], 0⟩)] [(28, false), (38, false), (41, true)] (calls_cons (palinoderef1_IsEdge_spec K s_2 (List.getD l_1 (Int.toNat i_11) zP).1 r_17 h_18) (by kernel_rfl) (calls_cons (palinoderef1_IsEdge_spec K s_2 (List.getD l_1 (Int.toNat i_11) zP).2 r_21 h_22) (by kernel_rfl) (calls_cons (palinoderef24_Span_spec K (List.getD l_1 (Int.toNat i_11) zP).1 (List.getD l_1 (Int.toNat i_11) zP).2 r_26 h_27) (by kernel_rfl) (calls_cons (palinoderef24_Span_spec K (List.getD l_1 (Int.toNat (w6 (i_11 - (1 : Int)))) zP).1 (List.getD l_1 (Int.toNat (w6 (i_11 - (1 : Int)))) zP).2 r_28 h_29) (by kernel_rfl) calls_nil)))) 0 [0, 1, 5, 57] [] ⟨[(0, .c (.imm (.slice kP) l_1)), (1, cS s_2), (5, cI i_11), (57, cB (decide (r_26.1 ≤ r_28.2)))], [], 0⟩ [0 ≤ i_11, i_11 < (lnI l_1), (!r_17) = false, 0 ≤ i_11, i_11 < (lnI l_1), (!r_21) = false, (decide (i_11 > (0 : Int))) = true, 0 ≤ i_11, i_11 < (lnI l_1), 0 ≤ (w6 (i_11 - (1 : Int))), (w6 (i_11 - (1 : Int))) < (lnI l_1)] (by kernel_rfl) rfl rfl (ap2 c_30.1 (ap2 c_30.2.1 (ap2 b_19 (ap2 c_30.1 (ap2 c_30.2.1 (ap2 b_23 (ap2 b_25 (ap2 c_30.1 (ap2 c_30.2.1 (ap2 c_30.2.2.1 (ap1 c_30.2.2.2))))))))))) (by kernel_rfl) (by kernel_rfl) ?_
                have H_76 := Option.some.inj (show some (decide (r_26.1 ≤ r_28.2)) = some q_57 from H_75); subst H_76
                refine VL_nil ?_
                exact QP_end (decide (r_26.1 ≤ r_28.2)) rfl [] hn (by kernel_rfl) (by kernel_rfl) rfl rfl rfl
              · have H_72 := of_f H_68 b_25
                obtain ⟨c_31, H_77⟩ := of_if H_72
                refine V_draw hN hn (by kernel_rfl) [(6, ⟨23, 0, [cS s_2, .c (.val (.int .i64 (List.getD l_1 (Int.toNat i_11) zP).1))], [], cB r_17, [], [], 0⟩), (15, ⟨23, 0, [cS s_2, .c (.val (.int .i64 (List.getD l_1 (Int.toNat i_11) zP).2))], [], cB r_21, [], [], 0⟩)] [(28, false), (38, false), (41, false)] (calls_cons (palinoderef1_IsEdge_spec K s_2 (List.getD l_1 (Int.toNat i_11) zP).1 r_17 h_18) (by kernel_rfl) (calls_cons (palinoderef1_IsEdge_spec K s_2 (List.getD l_1 (Int.toNat i_11) zP).2 r_21 h_22) (by kernel_rfl) calls_nil)) 0 [0, 1, 5, 57] [] ⟨[(0, .c (.imm (.slice kP) l_1)), (1, cS s_2), (5, cI i_11), (57, cB false)], [], 0⟩ [0 ≤ i_11, i_11 < (lnI l_1), (!r_17) = false, 0 ≤ i_11, i_11 < (lnI l_1), (!r_21) = false, (decide (i_11 > (0 : Int))) = false] (by kernel_rfl) rfl rfl (ap2 c_31.1 (ap2 c_31.2 (ap2 b_19 (ap2 c_31.1 (ap2 c_31.2 (ap2 b_23 (ap1 b_25))))))) (by kernel_rfl) (by kernel_rfl) ?_
                have H_78 := Option.some.inj (show some false = some q_57 from H_77); subst H_78
                refine VL_nil ?_
                exact QP_end false rfl [] hn (by kernel_rfl) (by kernel_rfl) rfl rfl rfl
        · intro y_60 hy; subst hy
          skip
          skip
          refine VL_cond (y_60) (by kernel_rfl) ?_ ?_
          · intro b_33; have H_79 := of_t H_59 b_33
            refine V_run hN hn 2 0 [4] [] ⟨[(4, cB false)], [], 0⟩ [] (by kernel_rfl) rfl rfl ap0 ?_
            have H_81 := Option.some.inj (show some false = some r from H_79); subst H_81
            refine VL_ret ?_
            refine QB_ret ?_
            refine QL_ret ?_
            refine QB_ret ?_
            exact P_to [(4, cB false)] [] [] hn (by kernel_rfl) (by kernel_rfl) rfl rfl rfl (QF_retS (by kernel_rfl) (by kernel_rfl) rfl)
          · intro b_33; have H_80 := of_f H_59 b_33
            refine V_run hN hn 1 0 [0, 1, 5, 57] [] ⟨[(0, .c (.imm (.slice kP) l_1)), (1, cS s_2), (5, cI i_11), (57, cB y_60)], [], 0⟩ [] (by kernel_rfl) rfl rfl ap0 ?_
            refine VL_nil (QB_end ?_)
            refine V_run hN hn 1 0 [0, 1, 5] [] ⟨[(0, .c (.imm (.slice kP) l_1)), (1, cS s_2), (5, cI (w6 (i_11 + (1 : Int))))], [], 0⟩ [] (by kernel_rfl) rfl rfl ap0 ?_
            refine VL_nil ?_
            exact V_roundEnd (w6 (i_11 + (1 : Int))) H_80 [] hn (by kernel_rfl) (by kernel_rfl) rfl rfl rfl
      · intro b_14; have H_56 := of_f H_54 b_14
        refine VL_exit ?_
        refine QL_exit ?_
        refine QB_here ?_
        refine V_run hN hn 2 0 [4] [] ⟨[(4, cB true)], [], 0⟩ [] (by kernel_rfl) rfl rfl ap0 ?_
        have H_82 := Option.some.inj (show some true = some r from H_56); subst H_82
        refine VL_ret ?_
        exact P_to [(4, cB true)] [] [] hn (by kernel_rfl) (by kernel_rfl) rfl rfl rfl (QF_retS (by kernel_rfl) (by kernel_rfl) rfl)

theorem region_Texts_spec (K : Nat) (l_1 : (List (Int × Int))) (s_2 : ByteArray) (r : (List ByteArray)) (H : region_Texts_rg K l_1 s_2 = some r) : Spec Try.prog 20 0 [.c (.imm (.slice kP) l_1), cS s_2] [] (.c (.h 6)) [(6, .row .str r)] := by
  refine Spec_mk (fn := Try.f20) (c := (Try.f20.body).get!) Try.func20 (by kernel_rfl) rfl ?_
  intro C hN hn
  replace hN : C.N = 32 := hN
  unfold region_Texts_rg at H
  refine V_run hN hn 4 0 [0, 1] [] ⟨[(0, .c (.imm (.slice kP) l_1)), (1, cS s_2)], [], 0⟩ [] (by kernel_rfl) rfl rfl ap0 ?_
  obtain ⟨r_4, h_5, H_35⟩ := of_bind H
  refine V_reg hN hn [(2, ⟨10, 0, [.c (.imm (.slice kP) l_1), cS s_2], [], cB r_4, [], [], 0⟩)] [] (calls_cons (region_Is_spec K l_1 s_2 r_4 h_5) (by kernel_rfl) calls_nil) 0 [0, 1, 12] [] ⟨[(0, .c (.imm (.slice kP) l_1)), (1, cS s_2), (12, cB (!r_4))], [], 0⟩ [] (by kernel_rfl) rfl rfl ap0 (by kernel_rfl) (by kernel_rfl) ?_
  refine VL_cond ((!r_4)) (by kernel_rfl) ?_ ?_
  · intro b_7; have H_36 := of_t H_35 b_7
    refine V_run hN hn 2 0 [4] [] ⟨[(4, .c (.val (.slice none 0 0)))], [], 0⟩ [] (by kernel_rfl) rfl rfl ap0 ?_
    have H_38 := Option.some.inj (show some ([] : List ByteArray) = some r from H_36); subst H_38
    refine VL_ret ?_
    refine P_ghost [.nilSlot 4 .str] 0 hn [4] [0] ⟨[(4, .c (.h 0))], [(0, .row .str ([] : List ByteArray))], 1⟩ (by kernel_rfl) rfl rfl ?_
    exact P_to [(4, .c (.h 6))] [(6, .row .str ([] : List ByteArray))] [(6, 0)] hn (by kernel_rfl) (by kernel_rfl) rfl rfl rfl (QF_retS (by kernel_rfl) (by kernel_rfl) rfl)
  · intro b_7; have H_37 := of_f H_35 b_7
    refine V_run hN hn 6 0 [1, 5, 13, 14, 15] [] ⟨[(1, cS s_2), (5, .c (.val (.slice none 0 0))), (13, .c (.imm (.slice kP) l_1)), (14, cI (lnI l_1)), (15, cI (0 : Int))], [], 0⟩ [] (by kernel_rfl) rfl rfl ap0 ?_
    refine VL_block ?_
    refine V_ghost [.nilSlot 5 .str] 0 hn [1, 5, 13, 14, 15] [0] ⟨[(1, cS s_2), (5, .c (.h 0)), (13, .c (.imm (.slice kP) l_1)), (14, cI (lnI l_1)), (15, cI (0 : Int))], [(0, .row .str ([] : List ByteArray))], 1⟩ (by kernel_rfl) rfl rfl ?_
    refine V_to [(1, cS s_2), (5, .c (.h 5)), (13, .c (.imm (.slice kP) l_1)), (14, cI (lnI l_1)), (15, cI (0 : Int))] [(5, .row .str ([] : List ByteArray))] [(5, 0)] hn (by kernel_rfl) (by kernel_rfl) rfl rfl rfl ?_
    refine VL_loop (X := ((List ByteArray) × Int)) (fun x => [(1, cS s_2), (5, .c (.h 5)), (13, .c (.imm (.slice kP) l_1)), (14, cI (lnI l_1)), (15, cI x.2)]) (fun x => [(5, .row .str x.1)]) (fun k x => region_Texts_rg.l0 K l_1 s_2 k x.1 x.2 = some r) K (([] : List ByteArray), (0 : Int)) H_37 (fun _ h => no_none h) ?_
    intro k_23 x_23 H_39
    obtain ⟨out_22, t_10⟩ := x_23
    have H_40 : region_Texts_rg.l0 K l_1 s_2 (k_23 + 1) out_22 t_10 = some r := H_39
    rw [region_Texts_rg.l0] at H_40
    refine V_run hN hn 3 6 [1, 5, 13, 14, 15, 16] [5] ⟨[(1, cS s_2), (5, .c (.h 5)), (13, .c (.imm (.slice kP) l_1)), (14, cI (lnI l_1)), (15, cI t_10), (16, cB (decide (t_10 < (lnI l_1))))], [(5, .row .str out_22)], 6⟩ [] (by kernel_rfl) rfl rfl ap0 ?_
    refine VL_cond ((decide (t_10 < (lnI l_1)))) (by kernel_rfl) ?_ ?_
    · intro b_25; have H_41 := of_t H_40 b_25
      refine V_run hN hn 2 6 [1, 5, 13, 14, 15, 16] [5] ⟨[(1, cS s_2), (5, .c (.h 5)), (13, .c (.imm (.slice kP) l_1)), (14, cI (lnI l_1)), (15, cI t_10), (16, cB (decide (t_10 < (lnI l_1))))], [(5, .row .str out_22)], 6⟩ [] (by kernel_rfl) rfl rfl ap0 ?_
      refine VL_block ?_
      obtain ⟨c_27, H_43⟩ := of_if H_41
      refine V_run hN hn 3 6 [1, 5, 7, 13, 14, 15] [5, 6] ⟨[(1, cS s_2), (5, .c (.h 5)), (7, .c (.h 6)), (13, .c (.imm (.slice kP) l_1)), (14, cI (lnI l_1)), (15, cI t_10)], [(5, .row .str out_22), (6, .box [.val (.int .i64 (List.getD l_1 (Int.toNat t_10) zP).1), .val (.int .i64 (List.getD l_1 (Int.toNat t_10) zP).2)])], 7⟩ [0 ≤ t_10, t_10 < (lnI l_1)] (by kernel_rfl) rfl rfl (ap2 c_27.1 (ap1 c_27.2)) ?_
      obtain ⟨r_28, h_29, H_44⟩ := of_bind H_43
      refine V_reg hN hn [(1, ⟨21, 0, [.agg [.val (.int .i64 (List.getD l_1 (Int.toNat t_10) zP).1), .val (.int .i64 (List.getD l_1 (Int.toNat t_10) zP).2)]], [], .agg [.val (.int .i64 r_28.1), .val (.int .i64 r_28.2)], [], [], 7⟩)] [] (calls_cons (region_Span_spec K (List.getD l_1 (Int.toNat t_10) zP).1 (List.getD l_1 (Int.toNat t_10) zP).2 r_28 h_29) (by kernel_rfl) calls_nil) 7 [1, 5, 8, 13, 14, 15] [5, 7] ⟨[(1, cS s_2), (5, .c (.h 5)), (8, .c (.h 7)), (13, .c (.imm (.slice kP) l_1)), (14, cI (lnI l_1)), (15, cI t_10)], [(5, .row .str out_22), (7, .box [.val (.int .i64 r_28.1), .val (.int .i64 r_28.2)])], 8⟩ [] (by kernel_rfl) rfl rfl ap0 (by kernel_rfl) (by kernel_rfl) ?_
      obtain ⟨c_31, H_45⟩ := of_if H_44
      refine V_run hN hn 1 8 [1, 5, 13, 14, 15] [9] ⟨[(1, cS s_2), (5, .c (.h 9)), (13, .c (.imm (.slice kP) l_1)), (14, cI (lnI l_1)), (15, cI t_10)], [(9, .row .str (out_22 ++ ([(ByteArray.extract s_2 (Int.toNat r_28.1) (Int.toNat r_28.2))] : List ByteArray)))], 10⟩ [(0 : Int) ≤ r_28.1, r_28.1 ≤ r_28.2, r_28.2 ≤ (((ByteArray.size s_2) : Nat) : Int), (List.length out_22 + List.length ([(ByteArray.extract s_2 (Int.toNat r_28.1) (Int.toNat r_28.2))] : List ByteArray)) * 16 ≤ 140737488355328] (by kernel_rfl) rfl rfl (ap2 c_31.1 (ap2 c_31.2.1 (ap2 c_31.2.2.1 (ap1 c_31.2.2.2)))) ?_
      refine VL_nil (QB_end ?_)
      refine V_run hN hn 1 10 [1, 5, 13, 14, 15] [9] ⟨[(1, cS s_2), (5, .c (.h 9)), (13, .c (.imm (.slice kP) l_1)), (14, cI (lnI l_1)), (15, cI (w6 (t_10 + (1 : Int))))], [(9, .row .str (out_22 ++ ([(ByteArray.extract s_2 (Int.toNat r_28.1) (Int.toNat r_28.2))] : List ByteArray)))], 10⟩ [] (by kernel_rfl) rfl rfl ap0 ?_
      refine VL_nil ?_
      exact V_roundEnd ((out_22 ++ ([(ByteArray.extract s_2 (Int.toNat r_28.1) (Int.toNat r_28.2))] : List ByteArray)), (w6 (t_10 + (1 : Int)))) H_45 [(5, 9)] hn (by kernel_rfl) (by kernel_rfl) rfl rfl rfl
    · intro b_25; have H_42 := of_f H_40 b_25
      refine VL_exit ?_
      refine QL_exit ?_
      refine QB_here ?_
      refine V_run hN hn 2 6 [4] [5] ⟨[(4, .c (.h 5))], [(5, .row .str out_22)], 6⟩ [] (by kernel_rfl) rfl rfl ap0 ?_
      have H_46 := Option.some.inj (show some out_22 = some r from H_42); subst H_46
      refine VL_ret ?_
      exact P_to [(4, .c (.h 6))] [(6, .row .str out_22)] [(6, 5)] hn (by kernel_rfl) (by kernel_rfl) rfl rfl rfl (QF_retS (by kernel_rfl) (by kernel_rfl) rfl)

theorem palinodelaw24_same_rr_spec (K : Nat) (a_1 : (List (Int × Int))) (b_2 : (List (Int × Int))) (r : Bool) (H : palinodelaw24_same_rg K a_1 b_2 = some r) : Spec Try.prog 11 2 [.c (.h 0), .c (.h 1)] [(0, .row kP a_1), (1, .row kP b_2)] (cB r) [(0, .row kP a_1), (1, .row kP b_2)] := by
  refine Spec_mk (fn := Try.f11) (c := (Try.f11.body).get!) Try.func11 (by kernel_rfl) rfl ?_
  intro C hN hn
  replace hN : C.N = 26 := hN
  unfold palinodelaw24_same_rg at H
  refine V_run hN hn 5 2 [0, 1, 10] [0, 1] ⟨[(0, .c (.h 0)), (1, .c (.h 1)), (10, cB ((lnI a_1) != (lnI b_2)))], [(0, .row kP a_1), (1, .row kP b_2)], 2⟩ [] (by kernel_rfl) rfl rfl ap0 ?_
  refine VL_cond (((lnI a_1) != (lnI b_2))) (by kernel_rfl) ?_ ?_
  · intro b_4; have H_20 := of_t H b_4
    refine V_run hN hn 2 2 [4] [0, 1] ⟨[(4, cB false)], [(0, .row kP a_1), (1, .row kP b_2)], 2⟩ [] (by kernel_rfl) rfl rfl ap0 ?_
    have H_22 := Option.some.inj (show some false = some r from H_20); subst H_22
    refine VL_ret ?_
    exact P_to [(4, cB false)] [(0, .row kP a_1), (1, .row kP b_2)] [] hn (by kernel_rfl) (by kernel_rfl) rfl rfl rfl (QF_retS (by kernel_rfl) (by kernel_rfl) rfl)
  · intro b_4; have H_21 := of_f H b_4
    refine V_run hN hn 4 2 [0, 1, 5] [0, 1] ⟨[(0, .c (.h 0)), (1, .c (.h 1)), (5, cI (0 : Int))], [(0, .row kP a_1), (1, .row kP b_2)], 2⟩ [] (by kernel_rfl) rfl rfl ap0 ?_
    refine VL_block ?_
    refine V_to [(0, .c (.h 0)), (1, .c (.h 1)), (5, cI (0 : Int))] [(0, .row kP a_1), (1, .row kP b_2)] [] hn (by kernel_rfl) (by kernel_rfl) rfl rfl rfl ?_
    refine VL_loop (X := Int) (fun x => [(0, .c (.h 0)), (1, .c (.h 1)), (5, cI x)]) (fun x => [(0, .row kP a_1), (1, .row kP b_2)]) (fun k x => palinodelaw24_same_rg.l0 K a_1 b_2 k x = some r) K (0 : Int) H_21 (fun _ h => no_none h) ?_
    intro k_8 i_7 H_23
    have H_24 : palinodelaw24_same_rg.l0 K a_1 b_2 (k_8 + 1) i_7 = some r := H_23
    rw [palinodelaw24_same_rg.l0] at H_24
    refine V_run hN hn 3 2 [0, 1, 5, 14] [0, 1] ⟨[(0, .c (.h 0)), (1, .c (.h 1)), (5, cI i_7), (14, cB (decide (i_7 < (lnI a_1))))], [(0, .row kP a_1), (1, .row kP b_2)], 2⟩ [] (by kernel_rfl) rfl rfl ap0 ?_
    refine VL_cond ((decide (i_7 < (lnI a_1)))) (by kernel_rfl) ?_ ?_
    · intro b_10; have H_25 := of_t H_24 b_10
      refine V_run hN hn 2 2 [0, 1, 5, 14] [0, 1] ⟨[(0, .c (.h 0)), (1, .c (.h 1)), (5, cI i_7), (14, cB (decide (i_7 < (lnI a_1))))], [(0, .row kP a_1), (1, .row kP b_2)], 2⟩ [] (by kernel_rfl) rfl rfl ap0 ?_
      refine VL_block ?_
      refine V_run hN hn 1 2 [0, 1, 5, 14] [0, 1] ⟨[(0, .c (.h 0)), (1, .c (.h 1)), (5, cI i_7), (14, cB (decide (i_7 < (lnI a_1))))], [(0, .row kP a_1), (1, .row kP b_2)], 2⟩ [] (by kernel_rfl) rfl rfl ap0 ?_
      obtain ⟨c_13, H_27⟩ := of_if H_25
      refine V_draw hN hn (by kernel_rfl) [] [] calls_nil 2 [0, 1, 5, 25] [0, 1] ⟨[(0, .c (.h 0)), (1, .c (.h 1)), (5, cI i_7), (25, cB (!(((List.getD a_1 (Int.toNat i_7) zP).1 == (List.getD b_2 (Int.toNat i_7) zP).1) && ((List.getD a_1 (Int.toNat i_7) zP).2 == (List.getD b_2 (Int.toNat i_7) zP).2))))], [(0, .row kP a_1), (1, .row kP b_2)], 2⟩ [0 ≤ i_7, i_7 < (lnI a_1), 0 ≤ i_7, i_7 < (lnI b_2)] (by kernel_rfl) rfl rfl (ap2 c_13.1 (ap2 c_13.2.1 (ap2 c_13.1 (ap1 c_13.2.2)))) (by kernel_rfl) (by kernel_rfl) ?_
      refine VL_cond ((!(((List.getD a_1 (Int.toNat i_7) zP).1 == (List.getD b_2 (Int.toNat i_7) zP).1) && ((List.getD a_1 (Int.toNat i_7) zP).2 == (List.getD b_2 (Int.toNat i_7) zP).2)))) (by kernel_rfl) ?_ ?_
      · intro b_14; have H_28 := of_t H_27 b_14
        refine V_run hN hn 2 2 [4] [0, 1] ⟨[(4, cB false)], [(0, .row kP a_1), (1, .row kP b_2)], 2⟩ [] (by kernel_rfl) rfl rfl ap0 ?_
        have H_30 := Option.some.inj (show some false = some r from H_28); subst H_30
        refine VL_ret ?_
        refine QB_ret ?_
        refine QL_ret ?_
        refine QB_ret ?_
        exact P_to [(4, cB false)] [(0, .row kP a_1), (1, .row kP b_2)] [] hn (by kernel_rfl) (by kernel_rfl) rfl rfl rfl (QF_retS (by kernel_rfl) (by kernel_rfl) rfl)
      · intro b_14; have H_29 := of_f H_27 b_14
        refine V_run hN hn 1 2 [0, 1, 5, 25] [0, 1] ⟨[(0, .c (.h 0)), (1, .c (.h 1)), (5, cI i_7), (25, cB (!(((List.getD a_1 (Int.toNat i_7) zP).1 == (List.getD b_2 (Int.toNat i_7) zP).1) && ((List.getD a_1 (Int.toNat i_7) zP).2 == (List.getD b_2 (Int.toNat i_7) zP).2))))], [(0, .row kP a_1), (1, .row kP b_2)], 2⟩ [] (by kernel_rfl) rfl rfl ap0 ?_
        refine VL_nil (QB_end ?_)
        refine V_run hN hn 1 2 [0, 1, 5] [0, 1] ⟨[(0, .c (.h 0)), (1, .c (.h 1)), (5, cI (w6 (i_7 + (1 : Int))))], [(0, .row kP a_1), (1, .row kP b_2)], 2⟩ [] (by kernel_rfl) rfl rfl ap0 ?_
        refine VL_nil ?_
        exact V_roundEnd (w6 (i_7 + (1 : Int))) H_29 [] hn (by kernel_rfl) (by kernel_rfl) rfl rfl rfl
    · intro b_10; have H_26 := of_f H_24 b_10
      refine VL_exit ?_
      refine QL_exit ?_
      refine QB_here ?_
      refine V_run hN hn 2 2 [4] [0, 1] ⟨[(4, cB true)], [(0, .row kP a_1), (1, .row kP b_2)], 2⟩ [] (by kernel_rfl) rfl rfl ap0 ?_
      have H_31 := Option.some.inj (show some true = some r from H_26); subst H_31
      refine VL_ret ?_
      exact P_to [(4, cB true)] [(0, .row kP a_1), (1, .row kP b_2)] [] hn (by kernel_rfl) (by kernel_rfl) rfl rfl rfl (QF_retS (by kernel_rfl) (by kernel_rfl) rfl)

theorem palinodelaw24_RegionTells_spec (K : Nat) (l_1 : (List (Int × Int))) (r_2 : Int) (r_3 : Int) (s_4 : ByteArray) (d_5 : Int) (d_6 : (List (Int × (Int × ByteArray)))) (r : Bool) (H : palinodelaw24_RegionTells K l_1 r_2 r_3 s_4 d_5 d_6 = some r) : Spec Try.prog 6 0 [.c (.imm (.slice kP) l_1), .agg [.val (.int .i64 r_2), .val (.int .i64 r_3)], cS s_4, .agg [.val (.int .i64 d_5), .imm (.slice kE) d_6]] [] (cB r) [] := by
  refine Spec_mk (fn := Try.f6) (c := (Try.f6.body).get!) Try.func6 (by kernel_rfl) rfl ?_
  intro C hN hn
  replace hN : C.N = 166 := hN
  unfold palinodelaw24_RegionTells at H
  refine V_run hN hn 4 0 [0, 2, 5, 7] [0, 1] ⟨[(0, .c (.imm (.slice kP) l_1)), (2, cS s_4), (5, .c (.h 0)), (7, .c (.h 1))], [(0, .box [.val (.int .i64 r_2), .val (.int .i64 r_3)]), (1, .box [.val (.int .i64 d_5), .imm (.slice kE) d_6])], 2⟩ [] (by kernel_rfl) rfl rfl ap0 ?_
  obtain ⟨r_8, h_9, H_115⟩ := of_bind H
  refine V_reg hN hn [(0, ⟨8, 0, [], [], cB r_8, [], [], 2⟩)] [] (calls_cons (palinodelaw24_known_spec K  r_8 h_9) (by kernel_rfl) calls_nil) 2 [0, 2, 5, 7, 26] [0, 1] ⟨[(0, .c (.imm (.slice kP) l_1)), (2, cS s_4), (5, .c (.h 0)), (7, .c (.h 1)), (26, cB (!r_8))], [(0, .box [.val (.int .i64 r_2), .val (.int .i64 r_3)]), (1, .box [.val (.int .i64 d_5), .imm (.slice kE) d_6])], 2⟩ [] (by kernel_rfl) rfl rfl ap0 (by kernel_rfl) (by kernel_rfl) ?_
  refine VL_cond ((!r_8)) (by kernel_rfl) ?_ ?_
  · intro b_11; have H_116 := of_t H_115 b_11
    refine V_run hN hn 2 2 [8] [] ⟨[(8, cB false)], [], 2⟩ [] (by kernel_rfl) rfl rfl ap0 ?_
    have H_118 := Option.some.inj (show some false = some r from H_116); subst H_118
    refine VL_ret ?_
    exact P_to [(8, cB false)] [] [] hn (by kernel_rfl) (by kernel_rfl) rfl rfl rfl (QF_retS (by kernel_rfl) (by kernel_rfl) rfl)
  · intro b_11; have H_117 := of_f H_115 b_11
    refine V_run hN hn 3 2 [0, 2, 5, 7, 26] [0, 1] ⟨[(0, .c (.imm (.slice kP) l_1)), (2, cS s_4), (5, .c (.h 0)), (7, .c (.h 1)), (26, cB (!r_8))], [(0, .box [.val (.int .i64 r_2), .val (.int .i64 r_3)]), (1, .box [.val (.int .i64 d_5), .imm (.slice kE) d_6])], 2⟩ [] (by kernel_rfl) rfl rfl ap0 ?_
    obtain ⟨q_119, H_120, H_121⟩ := of_bind H_117
    refine V_cut (Y := Bool) (R := Bool) q_119 (fun y => y) (fun y => [(0, .c (.imm (.slice kP) l_1)), (2, cS s_4), (5, .c (.h 0)), (7, .c (.h 1)), (39, cB y)]) (fun y => [(0, .box [.val (.int .i64 r_2), .val (.int .i64 r_3)]), (1, .box [.val (.int .i64 d_5), .imm (.slice kE) d_6])]) ?_ ?_
    · skip
      rcases Bool.eq_false_or_eq_true ((decide ((lnI l_1) > (12 : Int)))) with b_14 | b_14
      · have H_123 := of_t H_120 b_14
        refine V_reg hN hn [] [(30, true)] calls_nil 2 [0, 2, 5, 7, 39] [0, 1] ⟨[(0, .c (.imm (.slice kP) l_1)), (2, cS s_4), (5, .c (.h 0)), (7, .c (.h 1)), (39, cB true)], [(0, .box [.val (.int .i64 r_2), .val (.int .i64 r_3)]), (1, .box [.val (.int .i64 d_5), .imm (.slice kE) d_6])], 2⟩ [(decide ((lnI l_1) > (12 : Int))) = true] (by kernel_rfl) rfl rfl (ap1 b_14) (by kernel_rfl) (by kernel_rfl) ?_
        have H_125 := Option.some.inj (show some true = some q_119 from H_123); subst H_125
        refine VL_nil ?_
        exact QP_end true rfl [(0, 0), (1, 1)] hn (by kernel_rfl) (by kernel_rfl) rfl rfl rfl
      · have H_124 := of_f H_120 b_14
        rcases Bool.eq_false_or_eq_true ((decide ((((ByteArray.size s_4) : Nat) : Int) > (300 : Int)))) with b_16 | b_16
        · have H_126 := of_t H_124 b_16
          refine V_reg hN hn [] [(30, false), (35, true)] calls_nil 2 [0, 2, 5, 7, 39] [0, 1] ⟨[(0, .c (.imm (.slice kP) l_1)), (2, cS s_4), (5, .c (.h 0)), (7, .c (.h 1)), (39, cB true)], [(0, .box [.val (.int .i64 r_2), .val (.int .i64 r_3)]), (1, .box [.val (.int .i64 d_5), .imm (.slice kE) d_6])], 2⟩ [(decide ((lnI l_1) > (12 : Int))) = false, (decide ((((ByteArray.size s_4) : Nat) : Int) > (300 : Int))) = true] (by kernel_rfl) rfl rfl (ap2 b_14 (ap1 b_16)) (by kernel_rfl) (by kernel_rfl) ?_
          have H_128 := Option.some.inj (show some true = some q_119 from H_126); subst H_128
          refine VL_nil ?_
          exact QP_end true rfl [(0, 0), (1, 1)] hn (by kernel_rfl) (by kernel_rfl) rfl rfl rfl
        · have H_127 := of_f H_124 b_16
          obtain ⟨r_18, h_19, H_129⟩ := of_bind H_127
          refine V_reg hN hn [(10, ⟨15, 0, [.agg [.val (.int .i64 d_5), .imm (.slice kE) d_6]], [], cB r_18, [], [], 2⟩)] [(30, false), (35, false)] (calls_cons (palinodelaw24_few_spec K d_5 d_6 r_18 h_19) (by kernel_rfl) calls_nil) 2 [0, 2, 5, 7, 39] [0, 1] ⟨[(0, .c (.imm (.slice kP) l_1)), (2, cS s_4), (5, .c (.h 0)), (7, .c (.h 1)), (39, cB (!r_18))], [(0, .box [.val (.int .i64 r_2), .val (.int .i64 r_3)]), (1, .box [.val (.int .i64 d_5), .imm (.slice kE) d_6])], 2⟩ [(decide ((lnI l_1) > (12 : Int))) = false, (decide ((((ByteArray.size s_4) : Nat) : Int) > (300 : Int))) = false] (by kernel_rfl) rfl rfl (ap2 b_14 (ap1 b_16)) (by kernel_rfl) (by kernel_rfl) ?_
          have H_130 := Option.some.inj (show some (!r_18) = some q_119 from H_129); subst H_130
          refine VL_nil ?_
          exact QP_end (!r_18) rfl [(0, 0), (1, 1)] hn (by kernel_rfl) (by kernel_rfl) rfl rfl rfl
    · intro y_122 hy; subst hy
      skip
      skip
      refine VL_cond (y_122) (by kernel_rfl) ?_ ?_
      · intro b_22; have H_131 := of_t H_121 b_22
        refine V_run hN hn 2 2 [8] [] ⟨[(8, cB true)], [], 2⟩ [] (by kernel_rfl) rfl rfl ap0 ?_
        have H_133 := Option.some.inj (show some true = some r from H_131); subst H_133
        refine VL_ret ?_
        exact P_to [(8, cB true)] [] [] hn (by kernel_rfl) (by kernel_rfl) rfl rfl rfl (QF_retS (by kernel_rfl) (by kernel_rfl) rfl)
      · intro b_22; have H_132 := of_f H_121 b_22
        refine V_run hN hn 2 2 [0, 2, 5, 7, 39] [0, 1] ⟨[(0, .c (.imm (.slice kP) l_1)), (2, cS s_4), (5, .c (.h 0)), (7, .c (.h 1)), (39, cB y_122)], [(0, .box [.val (.int .i64 r_2), .val (.int .i64 r_3)]), (1, .box [.val (.int .i64 d_5), .imm (.slice kE) d_6])], 2⟩ [] (by kernel_rfl) rfl rfl ap0 ?_
        obtain ⟨r_25, h_26, H_134⟩ := of_bind H_132
        refine V_reg hN hn [(2, ⟨9, 0, [.c (.imm (.slice kP) l_1), cS s_4], [], .tup [(false, [.h 3]), (false, [.val (.int .i64 r_25.2)])], [(3, .row kP r_25.1)], [(3, 2)], 3⟩)] [] (calls_cons (region_Make_spec K l_1 s_4 r_25 h_26) (by kernel_rfl) calls_nil) 2 [0, 2, 5, 7, 9, 10] [0, 1, 2] ⟨[(0, .c (.imm (.slice kP) l_1)), (2, cS s_4), (5, .c (.h 0)), (7, .c (.h 1)), (9, .c (.h 2)), (10, cI r_25.2)], [(0, .box [.val (.int .i64 r_2), .val (.int .i64 r_3)]), (1, .box [.val (.int .i64 d_5), .imm (.slice kE) d_6]), (2, .row kP r_25.1)], 3⟩ [] (by kernel_rfl) rfl rfl ap0 (by kernel_rfl) (by kernel_rfl) ?_
        refine V_run hN hn 1 3 [0, 2, 5, 7, 9, 10] [0, 1, 2] ⟨[(0, .c (.imm (.slice kP) l_1)), (2, cS s_4), (5, .c (.h 0)), (7, .c (.h 1)), (9, .c (.h 2)), (10, cI r_25.2)], [(0, .box [.val (.int .i64 r_2), .val (.int .i64 r_3)]), (1, .box [.val (.int .i64 d_5), .imm (.slice kE) d_6]), (2, .row kP r_25.1)], 3⟩ [] (by kernel_rfl) rfl rfl ap0 ?_
        obtain ⟨r_29, h_30, H_135⟩ := of_bind H_134
        refine V_reg hN hn [(2, ⟨16, 0, [.c (.imm (.slice kP) l_1), cS s_4], [], .tup [(false, [.h 2]), (false, [.val (.int .i64 r_29.2)])], [(2, .row kP r_29.1)], [(2, 3)], 4⟩)] [] (calls_cons (palinoderef24_Make_spec K l_1 s_4 r_29 h_30) (by kernel_rfl) calls_nil) 3 [0, 2, 5, 7, 9, 10, 11, 12] [0, 1, 2, 3] ⟨[(0, .c (.imm (.slice kP) l_1)), (2, cS s_4), (5, .c (.h 0)), (7, .c (.h 1)), (9, .c (.h 2)), (10, cI r_25.2), (11, .c (.h 3)), (12, cI r_29.2)], [(0, .box [.val (.int .i64 r_2), .val (.int .i64 r_3)]), (1, .box [.val (.int .i64 d_5), .imm (.slice kE) d_6]), (2, .row kP r_25.1), (3, .row kP r_29.1)], 4⟩ [] (by kernel_rfl) rfl rfl ap0 (by kernel_rfl) (by kernel_rfl) ?_
        refine V_run hN hn 1 4 [0, 2, 5, 7, 9, 10, 11, 12] [0, 1, 2, 3] ⟨[(0, .c (.imm (.slice kP) l_1)), (2, cS s_4), (5, .c (.h 0)), (7, .c (.h 1)), (9, .c (.h 2)), (10, cI r_25.2), (11, .c (.h 3)), (12, cI r_29.2)], [(0, .box [.val (.int .i64 r_2), .val (.int .i64 r_3)]), (1, .box [.val (.int .i64 d_5), .imm (.slice kE) d_6]), (2, .row kP r_25.1), (3, .row kP r_29.1)], 4⟩ [] (by kernel_rfl) rfl rfl ap0 ?_
        obtain ⟨r_33, h_34, H_136⟩ := of_bind H_135
        refine V_reg hN hn [(2, ⟨14, 0, [.c (.imm (.slice kP) l_1), .agg [.val (.int .i64 d_5), .imm (.slice kE) d_6]], [], .tup [(false, [.h 7]), (false, [.val (.int .i64 r_33.2)])], [(7, .row kP r_33.1)], [(7, 4)], 5⟩)] [] (calls_cons (region_Move_spec K l_1 d_5 d_6 r_33 h_34) (by kernel_rfl) calls_nil) 4 [0, 2, 5, 7, 9, 10, 11, 12, 13, 14] [0, 1, 2, 3, 4] ⟨[(0, .c (.imm (.slice kP) l_1)), (2, cS s_4), (5, .c (.h 0)), (7, .c (.h 1)), (9, .c (.h 2)), (10, cI r_25.2), (11, .c (.h 3)), (12, cI r_29.2), (13, .c (.h 4)), (14, cI r_33.2)], [(0, .box [.val (.int .i64 r_2), .val (.int .i64 r_3)]), (1, .box [.val (.int .i64 d_5), .imm (.slice kE) d_6]), (2, .row kP r_25.1), (3, .row kP r_29.1), (4, .row kP r_33.1)], 5⟩ [] (by kernel_rfl) rfl rfl ap0 (by kernel_rfl) (by kernel_rfl) ?_
        refine V_run hN hn 1 5 [0, 2, 5, 7, 9, 10, 11, 12, 13, 14] [0, 1, 2, 3, 4] ⟨[(0, .c (.imm (.slice kP) l_1)), (2, cS s_4), (5, .c (.h 0)), (7, .c (.h 1)), (9, .c (.h 2)), (10, cI r_25.2), (11, .c (.h 3)), (12, cI r_29.2), (13, .c (.h 4)), (14, cI r_33.2)], [(0, .box [.val (.int .i64 r_2), .val (.int .i64 r_3)]), (1, .box [.val (.int .i64 d_5), .imm (.slice kE) d_6]), (2, .row kP r_25.1), (3, .row kP r_29.1), (4, .row kP r_33.1)], 5⟩ [] (by kernel_rfl) rfl rfl ap0 ?_
        obtain ⟨r_37, h_38, H_137⟩ := of_bind H_136
        refine V_reg hN hn [(2, ⟨17, 0, [.c (.imm (.slice kP) l_1), .agg [.val (.int .i64 d_5), .imm (.slice kE) d_6]], [], .tup [(false, [.h 6]), (false, [.val (.int .i64 r_37.2)])], [(6, .row kP r_37.1)], [(6, 5)], 6⟩)] [] (calls_cons (palinoderef24_Move_spec K l_1 d_5 d_6 r_37 h_38) (by kernel_rfl) calls_nil) 5 [0, 2, 5, 9, 10, 11, 12, 13, 14, 15, 16] [0, 2, 3, 4, 5] ⟨[(0, .c (.imm (.slice kP) l_1)), (2, cS s_4), (5, .c (.h 0)), (9, .c (.h 2)), (10, cI r_25.2), (11, .c (.h 3)), (12, cI r_29.2), (13, .c (.h 4)), (14, cI r_33.2), (15, .c (.h 5)), (16, cI r_37.2)], [(0, .box [.val (.int .i64 r_2), .val (.int .i64 r_3)]), (2, .row kP r_25.1), (3, .row kP r_29.1), (4, .row kP r_33.1), (5, .row kP r_37.1)], 6⟩ [] (by kernel_rfl) rfl rfl ap0 (by kernel_rfl) (by kernel_rfl) ?_
        refine V_run hN hn 1 6 [0, 2, 5, 9, 10, 11, 12, 13, 14, 15, 16] [0, 2, 3, 4, 5] ⟨[(0, .c (.imm (.slice kP) l_1)), (2, cS s_4), (5, .c (.h 0)), (9, .c (.h 2)), (10, cI r_25.2), (11, .c (.h 3)), (12, cI r_29.2), (13, .c (.h 4)), (14, cI r_33.2), (15, .c (.h 5)), (16, cI r_37.2)], [(0, .box [.val (.int .i64 r_2), .val (.int .i64 r_3)]), (2, .row kP r_25.1), (3, .row kP r_29.1), (4, .row kP r_33.1), (5, .row kP r_37.1)], 6⟩ [] (by kernel_rfl) rfl rfl ap0 ?_
        obtain ⟨r_41, h_42, H_138⟩ := of_bind H_137
        refine V_reg hN hn [(3, ⟨18, 0, [.c (.imm (.slice kP) l_1), .agg [.val (.int .i64 r_2), .val (.int .i64 r_3)], cS s_4], [], .tup [(false, [.h 4]), (false, [.val (.int .i64 r_41.2)])], [(4, .row kP r_41.1)], [(4, 6)], 7⟩)] [] (calls_cons (region_Add_spec K l_1 r_2 r_3 s_4 r_41 h_42) (by kernel_rfl) calls_nil) 6 [0, 2, 5, 9, 10, 11, 12, 13, 14, 15, 16, 17, 18] [0, 2, 3, 4, 5, 6] ⟨[(0, .c (.imm (.slice kP) l_1)), (2, cS s_4), (5, .c (.h 0)), (9, .c (.h 2)), (10, cI r_25.2), (11, .c (.h 3)), (12, cI r_29.2), (13, .c (.h 4)), (14, cI r_33.2), (15, .c (.h 5)), (16, cI r_37.2), (17, .c (.h 6)), (18, cI r_41.2)], [(0, .box [.val (.int .i64 r_2), .val (.int .i64 r_3)]), (2, .row kP r_25.1), (3, .row kP r_29.1), (4, .row kP r_33.1), (5, .row kP r_37.1), (6, .row kP r_41.1)], 7⟩ [] (by kernel_rfl) rfl rfl ap0 (by kernel_rfl) (by kernel_rfl) ?_
        refine V_run hN hn 1 7 [0, 2, 5, 9, 10, 11, 12, 13, 14, 15, 16, 17, 18] [0, 2, 3, 4, 5, 6] ⟨[(0, .c (.imm (.slice kP) l_1)), (2, cS s_4), (5, .c (.h 0)), (9, .c (.h 2)), (10, cI r_25.2), (11, .c (.h 3)), (12, cI r_29.2), (13, .c (.h 4)), (14, cI r_33.2), (15, .c (.h 5)), (16, cI r_37.2), (17, .c (.h 6)), (18, cI r_41.2)], [(0, .box [.val (.int .i64 r_2), .val (.int .i64 r_3)]), (2, .row kP r_25.1), (3, .row kP r_29.1), (4, .row kP r_33.1), (5, .row kP r_37.1), (6, .row kP r_41.1)], 7⟩ [] (by kernel_rfl) rfl rfl ap0 ?_
        obtain ⟨r_45, h_46, H_139⟩ := of_bind H_138
        obtain ⟨c_47, H_140⟩ := of_if H_139
        refine V_draw hN hn (by kernel_rfl) [(6, ⟨16, 1, [.c (.h 0), cS s_4], [(0, .row kP (l_1 ++ ([(r_2, r_3)] : List (Int × Int))))], .tup [(false, [.h 3]), (false, [.val (.int .i64 r_45.2)])], [(0, .row kP (l_1 ++ ([(r_2, r_3)] : List (Int × Int)))), (3, .row kP r_45.1)], [(0, 9), (3, 10)], 11⟩)] [] (calls_cons (palinoderef24_Make_rg_spec K (l_1 ++ ([(r_2, r_3)] : List (Int × Int))) s_4 r_45 h_46) (by kernel_rfl) calls_nil) 7 [0, 2, 5, 9, 10, 11, 12, 13, 14, 15, 16, 17, 18, 19, 20] [0, 2, 3, 4, 5, 6, 10] ⟨[(0, .c (.imm (.slice kP) l_1)), (2, cS s_4), (5, .c (.h 0)), (9, .c (.h 2)), (10, cI r_25.2), (11, .c (.h 3)), (12, cI r_29.2), (13, .c (.h 4)), (14, cI r_33.2), (15, .c (.h 5)), (16, cI r_37.2), (17, .c (.h 6)), (18, cI r_41.2), (19, .c (.h 10)), (20, cI r_45.2)], [(0, .box [.val (.int .i64 r_2), .val (.int .i64 r_3)]), (2, .row kP r_25.1), (3, .row kP r_29.1), (4, .row kP r_33.1), (5, .row kP r_37.1), (6, .row kP r_41.1), (10, .row kP r_45.1)], 11⟩ [List.length l_1 * 16 ≤ 140737488355328, List.length l_1 * 16 ≤ 140737488355328, (List.length l_1 + List.length ([(r_2, r_3)] : List (Int × Int))) * 16 ≤ 140737488355328] (by kernel_rfl) rfl rfl (ap2 c_47.1 (ap2 c_47.1 (ap1 c_47.2))) (by kernel_rfl) (by kernel_rfl) ?_
        refine V_run hN hn 1 11 [0, 2, 5, 9, 10, 11, 12, 13, 14, 15, 16, 17, 18, 19, 20] [0, 2, 3, 4, 5, 6, 10] ⟨[(0, .c (.imm (.slice kP) l_1)), (2, cS s_4), (5, .c (.h 0)), (9, .c (.h 2)), (10, cI r_25.2), (11, .c (.h 3)), (12, cI r_29.2), (13, .c (.h 4)), (14, cI r_33.2), (15, .c (.h 5)), (16, cI r_37.2), (17, .c (.h 6)), (18, cI r_41.2), (19, .c (.h 10)), (20, cI r_45.2)], [(0, .box [.val (.int .i64 r_2), .val (.int .i64 r_3)]), (2, .row kP r_25.1), (3, .row kP r_29.1), (4, .row kP r_33.1), (5, .row kP r_37.1), (6, .row kP r_41.1), (10, .row kP r_45.1)], 11⟩ [] (by kernel_rfl) rfl rfl ap0 ?_
        obtain ⟨r_49, h_50, H_141⟩ := of_bind H_140
        refine V_reg hN hn [(2, ⟨19, 0, [.c (.imm (.slice kP) l_1), cS s_4], [], cB r_49, [], [], 11⟩)] [] (calls_cons (palinoderef24_Is_spec K l_1 s_4 r_49 h_50) (by kernel_rfl) calls_nil) 11 [0, 2, 5, 9, 10, 11, 12, 13, 14, 15, 16, 17, 18, 19, 20, 21] [0, 2, 3, 4, 5, 6, 10] ⟨[(0, .c (.imm (.slice kP) l_1)), (2, cS s_4), (5, .c (.h 0)), (9, .c (.h 2)), (10, cI r_25.2), (11, .c (.h 3)), (12, cI r_29.2), (13, .c (.h 4)), (14, cI r_33.2), (15, .c (.h 5)), (16, cI r_37.2), (17, .c (.h 6)), (18, cI r_41.2), (19, .c (.h 10)), (20, cI r_45.2), (21, cB r_49)], [(0, .box [.val (.int .i64 r_2), .val (.int .i64 r_3)]), (2, .row kP r_25.1), (3, .row kP r_29.1), (4, .row kP r_33.1), (5, .row kP r_37.1), (6, .row kP r_41.1), (10, .row kP r_45.1)], 11⟩ [] (by kernel_rfl) rfl rfl ap0 (by kernel_rfl) (by kernel_rfl) ?_
        refine V_run hN hn 1 11 [0, 2, 5, 9, 10, 11, 12, 13, 14, 15, 16, 17, 18, 19, 20, 21] [0, 2, 3, 4, 5, 6, 10] ⟨[(0, .c (.imm (.slice kP) l_1)), (2, cS s_4), (5, .c (.h 0)), (9, .c (.h 2)), (10, cI r_25.2), (11, .c (.h 3)), (12, cI r_29.2), (13, .c (.h 4)), (14, cI r_33.2), (15, .c (.h 5)), (16, cI r_37.2), (17, .c (.h 6)), (18, cI r_41.2), (19, .c (.h 10)), (20, cI r_45.2), (21, cB r_49)], [(0, .box [.val (.int .i64 r_2), .val (.int .i64 r_3)]), (2, .row kP r_25.1), (3, .row kP r_29.1), (4, .row kP r_33.1), (5, .row kP r_37.1), (6, .row kP r_41.1), (10, .row kP r_45.1)], 11⟩ [] (by kernel_rfl) rfl rfl ap0 ?_
        obtain ⟨r_53, h_54, H_142⟩ := of_bind H_141
        refine V_reg hN hn [(2, ⟨20, 0, [.c (.imm (.slice kP) l_1), cS s_4], [], .c (.h 6), [(6, .row .str r_53)], [(6, 11)], 12⟩)] [] (calls_cons (region_Texts_spec K l_1 s_4 r_53 h_54) (by kernel_rfl) calls_nil) 11 [0, 2, 5, 9, 10, 11, 12, 13, 14, 15, 16, 17, 18, 19, 20, 21, 22] [0, 2, 3, 4, 5, 6, 10, 11] ⟨[(0, .c (.imm (.slice kP) l_1)), (2, cS s_4), (5, .c (.h 0)), (9, .c (.h 2)), (10, cI r_25.2), (11, .c (.h 3)), (12, cI r_29.2), (13, .c (.h 4)), (14, cI r_33.2), (15, .c (.h 5)), (16, cI r_37.2), (17, .c (.h 6)), (18, cI r_41.2), (19, .c (.h 10)), (20, cI r_45.2), (21, cB r_49), (22, .c (.h 11))], [(0, .box [.val (.int .i64 r_2), .val (.int .i64 r_3)]), (2, .row kP r_25.1), (3, .row kP r_29.1), (4, .row kP r_33.1), (5, .row kP r_37.1), (6, .row kP r_41.1), (10, .row kP r_45.1), (11, .row .str r_53)], 12⟩ [] (by kernel_rfl) rfl rfl ap0 (by kernel_rfl) (by kernel_rfl) ?_
        refine V_run hN hn 2 12 [0, 2, 5, 9, 10, 11, 12, 13, 14, 15, 16, 17, 18, 19, 20, 21, 22] [0, 2, 3, 4, 5, 6, 10, 11] ⟨[(0, .c (.imm (.slice kP) l_1)), (2, cS s_4), (5, .c (.h 0)), (9, .c (.h 2)), (10, cI r_25.2), (11, .c (.h 3)), (12, cI r_29.2), (13, .c (.h 4)), (14, cI r_33.2), (15, .c (.h 5)), (16, cI r_37.2), (17, .c (.h 6)), (18, cI r_41.2), (19, .c (.h 10)), (20, cI r_45.2), (21, cB r_49), (22, .c (.h 11))], [(0, .box [.val (.int .i64 r_2), .val (.int .i64 r_3)]), (2, .row kP r_25.1), (3, .row kP r_29.1), (4, .row kP r_33.1), (5, .row kP r_37.1), (6, .row kP r_41.1), (10, .row kP r_45.1), (11, .row .str r_53)], 12⟩ [] (by kernel_rfl) rfl rfl ap0 ?_
        obtain ⟨q_143, H_144, H_145⟩ := of_bind H_142
        refine V_cut (Y := Bool) (R := Bool) q_143 (fun y => y) (fun y => [(0, .c (.imm (.slice kP) l_1)), (2, cS s_4), (21, cB r_49), (22, .c (.h 11)), (131, cB y)]) (fun y => [(11, .row .str r_53)]) ?_ ?_
        · skip
          rcases Bool.eq_false_or_eq_true ((r_25.2 != r_29.2)) with b_57 | b_57
          · have H_147 := of_t H_144 b_57
            refine V_draw hN hn (by kernel_rfl) [] [(90, true)] calls_nil 12 [0, 2, 21, 22, 131] [11] ⟨[(0, .c (.imm (.slice kP) l_1)), (2, cS s_4), (21, cB r_49), (22, .c (.h 11)), (131, cB true)], [(11, .row .str r_53)], 12⟩ [(r_25.2 != r_29.2) = true] (by kernel_rfl) rfl rfl (ap1 b_57) (by kernel_rfl) (by kernel_rfl) ?_
            have H_149 := Option.some.inj (show some true = some q_143 from H_147); subst H_149
            refine VL_nil ?_
            exact QP_end true rfl [(11, 11)] hn (by kernel_rfl) (by kernel_rfl) rfl rfl rfl
          · have H_148 := of_f H_144 b_57
            obtain ⟨r_59, h_60, H_150⟩ := of_bind H_148
            rcases Bool.eq_false_or_eq_true ((!r_59)) with b_61 | b_61
            · have H_151 := of_t H_150 b_61
              refine V_draw hN hn (by kernel_rfl) [(6, ⟨11, 2, [.c (.h 0), .c (.h 1)], [(0, .row kP r_25.1), (1, .row kP r_29.1)], cB r_59, [(0, .row kP r_25.1), (1, .row kP r_29.1)], [(0, 2), (1, 3)], 12⟩)] [(90, false), (96, true)] (calls_cons (palinodelaw24_same_rr_spec K r_25.1 r_29.1 r_59 h_60) (by kernel_rfl) calls_nil) 12 [0, 2, 21, 22, 131] [11] ⟨[(0, .c (.imm (.slice kP) l_1)), (2, cS s_4), (21, cB r_49), (22, .c (.h 11)), (131, cB true)], [(11, .row .str r_53)], 12⟩ [(r_25.2 != r_29.2) = false, (!r_59) = true] (by kernel_rfl) rfl rfl (ap2 b_57 (ap1 b_61)) (by kernel_rfl) (by kernel_rfl) ?_
              have H_153 := Option.some.inj (show some true = some q_143 from H_151); subst H_153
              refine VL_nil ?_
              exact QP_end true rfl [(11, 11)] hn (by kernel_rfl) (by kernel_rfl) rfl rfl rfl
            · have H_152 := of_f H_150 b_61
              rcases Bool.eq_false_or_eq_true ((r_33.2 != r_37.2)) with b_63 | b_63
              · have H_154 := of_t H_152 b_63
                refine V_draw hN hn (by kernel_rfl) [(6, ⟨11, 2, [.c (.h 0), .c (.h 1)], [(0, .row kP r_25.1), (1, .row kP r_29.1)], cB r_59, [(0, .row kP r_25.1), (1, .row kP r_29.1)], [(0, 2), (1, 3)], 12⟩)] [(90, false), (96, false), (101, true)] (calls_cons (palinodelaw24_same_rr_spec K r_25.1 r_29.1 r_59 h_60) (by kernel_rfl) calls_nil) 12 [0, 2, 21, 22, 131] [11] ⟨[(0, .c (.imm (.slice kP) l_1)), (2, cS s_4), (21, cB r_49), (22, .c (.h 11)), (131, cB true)], [(11, .row .str r_53)], 12⟩ [(r_25.2 != r_29.2) = false, (!r_59) = false, (r_33.2 != r_37.2) = true] (by kernel_rfl) rfl rfl (ap2 b_57 (ap2 b_61 (ap1 b_63))) (by kernel_rfl) (by kernel_rfl) ?_
                have H_156 := Option.some.inj (show some true = some q_143 from H_154); subst H_156
                refine VL_nil ?_
                exact QP_end true rfl [(11, 11)] hn (by kernel_rfl) (by kernel_rfl) rfl rfl rfl
              · have H_155 := of_f H_152 b_63
                obtain ⟨r_65, h_66, H_157⟩ := of_bind H_155
                rcases Bool.eq_false_or_eq_true ((!r_65)) with b_67 | b_67
                · have H_158 := of_t H_157 b_67
                  refine V_draw hN hn (by kernel_rfl) [(6, ⟨11, 2, [.c (.h 0), .c (.h 1)], [(0, .row kP r_25.1), (1, .row kP r_29.1)], cB r_59, [(0, .row kP r_25.1), (1, .row kP r_29.1)], [(0, 2), (1, 3)], 12⟩), (17, ⟨11, 2, [.c (.h 0), .c (.h 1)], [(0, .row kP r_33.1), (1, .row kP r_37.1)], cB r_65, [(0, .row kP r_33.1), (1, .row kP r_37.1)], [(0, 4), (1, 5)], 12⟩)] [(90, false), (96, false), (101, false), (107, true)] (calls_cons (palinodelaw24_same_rr_spec K r_25.1 r_29.1 r_59 h_60) (by kernel_rfl) (calls_cons (palinodelaw24_same_rr_spec K r_33.1 r_37.1 r_65 h_66) (by kernel_rfl) calls_nil)) 12 [0, 2, 21, 22, 131] [11] ⟨[(0, .c (.imm (.slice kP) l_1)), (2, cS s_4), (21, cB r_49), (22, .c (.h 11)), (131, cB true)], [(11, .row .str r_53)], 12⟩ [(r_25.2 != r_29.2) = false, (!r_59) = false, (r_33.2 != r_37.2) = false, (!r_65) = true] (by kernel_rfl) rfl rfl (ap2 b_57 (ap2 b_61 (ap2 b_63 (ap1 b_67)))) (by kernel_rfl) (by kernel_rfl) ?_
                  have H_160 := Option.some.inj (show some true = some q_143 from H_158); subst H_160
                  refine VL_nil ?_
                  exact QP_end true rfl [(11, 11)] hn (by kernel_rfl) (by kernel_rfl) rfl rfl rfl
                · have H_159 := of_f H_157 b_67
                  rcases Bool.eq_false_or_eq_true ((r_41.2 != r_45.2)) with b_69 | b_69
                  · have H_161 := of_t H_159 b_69
                    refine V_draw hN hn (by kernel_rfl) [(6, ⟨11, 2, [.c (.h 0), .c (.h 1)], [(0, .row kP r_25.1), (1, .row kP r_29.1)], cB r_59, [(0, .row kP r_25.1), (1, .row kP r_29.1)], [(0, 2), (1, 3)], 12⟩), (17, ⟨11, 2, [.c (.h 0), .c (.h 1)], [(0, .row kP r_33.1), (1, .row kP r_37.1)], cB r_65, [(0, .row kP r_33.1), (1, .row kP r_37.1)], [(0, 4), (1, 5)], 12⟩)] [(90, false), (96, false), (101, false), (107, false), (112, true)] (calls_cons (palinodelaw24_same_rr_spec K r_25.1 r_29.1 r_59 h_60) (by kernel_rfl) (calls_cons (palinodelaw24_same_rr_spec K r_33.1 r_37.1 r_65 h_66) (by kernel_rfl) calls_nil)) 12 [0, 2, 21, 22, 131] [11] ⟨[(0, .c (.imm (.slice kP) l_1)), (2, cS s_4), (21, cB r_49), (22, .c (.h 11)), (131, cB true)], [(11, .row .str r_53)], 12⟩ [(r_25.2 != r_29.2) = false, (!r_59) = false, (r_33.2 != r_37.2) = false, (!r_65) = false, (r_41.2 != r_45.2) = true] (by kernel_rfl) rfl rfl (ap2 b_57 (ap2 b_61 (ap2 b_63 (ap2 b_67 (ap1 b_69))))) (by kernel_rfl) (by kernel_rfl) ?_
                    have H_163 := Option.some.inj (show some true = some q_143 from H_161); subst H_163
                    refine VL_nil ?_
                    exact QP_end true rfl [(11, 11)] hn (by kernel_rfl) (by kernel_rfl) rfl rfl rfl
                  · have H_162 := of_f H_159 b_69
                    obtain ⟨r_71, h_72, H_164⟩ := of_bind H_162
                    rcases Bool.eq_false_or_eq_true ((!r_71)) with b_73 | b_73
                    · have H_165 := of_t H_164 b_73
                      refine V_draw hN hn (by kernel_rfl) [(6, ⟨11, 2, [.c (.h 0), .c (.h 1)], [(0, .row kP r_25.1), (1, .row kP r_29.1)], cB r_59, [(0, .row kP r_25.1), (1, .row kP r_29.1)], [(0, 2), (1, 3)], 12⟩), (17, ⟨11, 2, [.c (.h 0), .c (.h 1)], [(0, .row kP r_33.1), (1, .row kP r_37.1)], cB r_65, [(0, .row kP r_33.1), (1, .row kP r_37.1)], [(0, 4), (1, 5)], 12⟩), (28, ⟨11, 2, [.c (.h 0), .c (.h 1)], [(0, .row kP r_41.1), (1, .row kP r_45.1)], cB r_71, [(0, .row kP r_41.1), (1, .row kP r_45.1)], [(0, 6), (1, 10)], 12⟩)] [(90, false), (96, false), (101, false), (107, false), (112, false), (118, true)] (calls_cons (palinodelaw24_same_rr_spec K r_25.1 r_29.1 r_59 h_60) (by kernel_rfl) (calls_cons (palinodelaw24_same_rr_spec K r_33.1 r_37.1 r_65 h_66) (by kernel_rfl) (calls_cons (palinodelaw24_same_rr_spec K r_41.1 r_45.1 r_71 h_72) (by kernel_rfl) calls_nil))) 12 [0, 2, 21, 22, 131] [11] ⟨[(0, .c (.imm (.slice kP) l_1)), (2, cS s_4), (21, cB r_49), (22, .c (.h 11)), (131, cB true)], [(11, .row .str r_53)], 12⟩ [(r_25.2 != r_29.2) = false, (!r_59) = false, (r_33.2 != r_37.2) = false, (!r_65) = false, (r_41.2 != r_45.2) = false, (!r_71) = true] (by kernel_rfl) rfl rfl (ap2 b_57 (ap2 b_61 (ap2 b_63 (ap2 b_67 (ap2 b_69 (ap1 b_73)))))) (by kernel_rfl) (by kernel_rfl) ?_
                      have H_167 := Option.some.inj (show some true = some q_143 from H_165); subst H_167
                      refine VL_nil ?_
                      exact QP_end true rfl [(11, 11)] hn (by kernel_rfl) (by kernel_rfl) rfl rfl rfl
                    · have H_166 := of_f H_164 b_73
                      obtain ⟨r_75, h_76, H_168⟩ := of_bind H_166
                      rcases Bool.eq_false_or_eq_true ((!(r_75 == r_49))) with b_77 | b_77
                      · have H_169 := of_t H_168 b_77
                        refine V_draw hN hn (by kernel_rfl) [(6, ⟨11, 2, [.c (.h 0), .c (.h 1)], [(0, .row kP r_25.1), (1, .row kP r_29.1)], cB r_59, [(0, .row kP r_25.1), (1, .row kP r_29.1)], [(0, 2), (1, 3)], 12⟩), (17, ⟨11, 2, [.c (.h 0), .c (.h 1)], [(0, .row kP r_33.1), (1, .row kP r_37.1)], cB r_65, [(0, .row kP r_33.1), (1, .row kP r_37.1)], [(0, 4), (1, 5)], 12⟩), (28, ⟨11, 2, [.c (.h 0), .c (.h 1)], [(0, .row kP r_41.1), (1, .row kP r_45.1)], cB r_71, [(0, .row kP r_41.1), (1, .row kP r_45.1)], [(0, 6), (1, 10)], 12⟩), (34, ⟨10, 0, [.c (.imm (.slice kP) l_1), cS s_4], [], cB r_75, [], [], 12⟩)] [(90, false), (96, false), (101, false), (107, false), (112, false), (118, false), (125, true)] (calls_cons (palinodelaw24_same_rr_spec K r_25.1 r_29.1 r_59 h_60) (by kernel_rfl) (calls_cons (palinodelaw24_same_rr_spec K r_33.1 r_37.1 r_65 h_66) (by kernel_rfl) (calls_cons (palinodelaw24_same_rr_spec K r_41.1 r_45.1 r_71 h_72) (by kernel_rfl) (calls_cons (region_Is_spec K l_1 s_4 r_75 h_76) (by kernel_rfl) calls_nil)))) 12 [0, 2, 21, 22, 131] [11] ⟨[(0, .c (.imm (.slice kP) l_1)), (2, cS s_4), (21, cB r_49), (22, .c (.h 11)), (131, cB true)], [(11, .row .str r_53)], 12⟩ [(r_25.2 != r_29.2) = false, (!r_59) = false, (r_33.2 != r_37.2) = false, (!r_65) = false, (r_41.2 != r_45.2) = false, (!r_71) = false, (!(r_75 == r_49)) = true] (by kernel_rfl) rfl rfl (ap2 b_57 (ap2 b_61 (ap2 b_63 (ap2 b_67 (ap2 b_69 (ap2 b_73 (ap1 b_77))))))) (by kernel_rfl) (by kernel_rfl) ?_
                        have H_171 := Option.some.inj (show some true = some q_143 from H_169); subst H_171
                        refine VL_nil ?_
                        exact QP_end true rfl [(11, 11)] hn (by kernel_rfl) (by kernel_rfl) rfl rfl rfl
                      · have H_170 := of_f H_168 b_77
                        obtain ⟨r_79, h_80, H_172⟩ := of_bind H_170
                        obtain ⟨r_81, h_82, H_173⟩ := of_bind H_172
                        refine V_draw hN hn (by kernel_rfl) [(6, ⟨11, 2, [.c (.h 0), .c (.h 1)], [(0, .row kP r_25.1), (1, .row kP r_29.1)], cB r_59, [(0, .row kP r_25.1), (1, .row kP r_29.1)], [(0, 2), (1, 3)], 12⟩), (17, ⟨11, 2, [.c (.h 0), .c (.h 1)], [(0, .row kP r_33.1), (1, .row kP r_37.1)], cB r_65, [(0, .row kP r_33.1), (1, .row kP r_37.1)], [(0, 4), (1, 5)], 12⟩), (28, ⟨11, 2, [.c (.h 0), .c (.h 1)], [(0, .row kP r_41.1), (1, .row kP r_45.1)], cB r_71, [(0, .row kP r_41.1), (1, .row kP r_45.1)], [(0, 6), (1, 10)], 12⟩), (34, ⟨10, 0, [.c (.imm (.slice kP) l_1), cS s_4], [], cB r_75, [], [], 12⟩), (40, ⟨21, 0, [.agg [.val (.int .i64 r_2), .val (.int .i64 r_3)]], [], .agg [.val (.int .i64 r_79.1), .val (.int .i64 r_79.2)], [], [], 12⟩), (42, ⟨12, 0, [.agg [.val (.int .i64 r_2), .val (.int .i64 r_3)]], [], .agg [.val (.int .i64 r_81.1), .val (.int .i64 r_81.2)], [], [], 12⟩)] [(90, false), (96, false), (101, false), (107, false), (112, false), (118, false), (125, false)] (calls_cons (palinodelaw24_same_rr_spec K r_25.1 r_29.1 r_59 h_60) (by kernel_rfl) (calls_cons (palinodelaw24_same_rr_spec K r_33.1 r_37.1 r_65 h_66) (by kernel_rfl) (calls_cons (palinodelaw24_same_rr_spec K r_41.1 r_45.1 r_71 h_72) (by kernel_rfl) (calls_cons (region_Is_spec K l_1 s_4 r_75 h_76) (by kernel_rfl) (calls_cons (region_Span_spec K r_2 r_3 r_79 h_80) (by kernel_rfl) (calls_cons (palinoderef24_Span_spec K r_2 r_3 r_81 h_82) (by kernel_rfl) calls_nil)))))) 12 [0, 2, 21, 22, 131] [11] ⟨[(0, .c (.imm (.slice kP) l_1)), (2, cS s_4), (21, cB r_49), (22, .c (.h 11)), (131, cB (!((r_79.1 == r_81.1) && (r_79.2 == r_81.2))))], [(11, .row .str r_53)], 12⟩ [(r_25.2 != r_29.2) = false, (!r_59) = false, (r_33.2 != r_37.2) = false, (!r_65) = false, (r_41.2 != r_45.2) = false, (!r_71) = false, (!(r_75 == r_49)) = false] (by kernel_rfl) rfl rfl (ap2 b_57 (ap2 b_61 (ap2 b_63 (ap2 b_67 (ap2 b_69 (ap2 b_73 (ap1 b_77))))))) (by kernel_rfl) (by kernel_rfl) ?_
                        have H_174 := Option.some.inj (show some (!((r_79.1 == r_81.1) && (r_79.2 == r_81.2))) = some q_143 from H_173); subst H_174
                        refine VL_nil ?_
                        exact QP_end (!((r_79.1 == r_81.1) && (r_79.2 == r_81.2))) rfl [(11, 11)] hn (by kernel_rfl) (by kernel_rfl) rfl rfl rfl
        · intro y_146 hy; subst hy
          skip
          skip
          refine VL_cond (y_146) (by kernel_rfl) ?_ ?_
          · intro b_85; have H_175 := of_t H_145 b_85
            refine V_run hN hn 2 12 [8] [] ⟨[(8, cB false)], [], 12⟩ [] (by kernel_rfl) rfl rfl ap0 ?_
            have H_177 := Option.some.inj (show some false = some r from H_175); subst H_177
            refine VL_ret ?_
            exact P_to [(8, cB false)] [] [] hn (by kernel_rfl) (by kernel_rfl) rfl rfl rfl (QF_retS (by kernel_rfl) (by kernel_rfl) rfl)
          · intro b_85; have H_176 := of_f H_145 b_85
            refine V_run hN hn 4 12 [0, 2, 22, 133] [11] ⟨[(0, .c (.imm (.slice kP) l_1)), (2, cS s_4), (22, .c (.h 11)), (133, cB (!r_49))], [(11, .row .str r_53)], 12⟩ [] (by kernel_rfl) rfl rfl ap0 ?_
            refine VL_cond ((!r_49)) (by kernel_rfl) ?_ ?_
            · intro b_88; have H_178 := of_t H_176 b_88
              refine V_run hN hn 2 12 [8] [] ⟨[(8, cB ((lnI r_53) == (0 : Int)))], [], 12⟩ [] (by kernel_rfl) rfl rfl ap0 ?_
              have H_180 := Option.some.inj (show some ((lnI r_53) == (0 : Int)) = some r from H_178); subst H_180
              refine VL_ret ?_
              exact P_to [(8, cB ((lnI r_53) == (0 : Int)))] [] [] hn (by kernel_rfl) (by kernel_rfl) rfl rfl rfl (QF_retS (by kernel_rfl) (by kernel_rfl) rfl)
            · intro b_88; have H_179 := of_f H_176 b_88
              refine V_run hN hn 4 12 [0, 2, 22, 23] [11] ⟨[(0, .c (.imm (.slice kP) l_1)), (2, cS s_4), (22, .c (.h 11)), (23, cI (0 : Int))], [(11, .row .str r_53)], 12⟩ [] (by kernel_rfl) rfl rfl ap0 ?_
              refine VL_block ?_
              refine V_to [(0, .c (.imm (.slice kP) l_1)), (2, cS s_4), (22, .c (.h 11)), (23, cI (0 : Int))] [(11, .row .str r_53)] [(11, 11)] hn (by kernel_rfl) (by kernel_rfl) rfl rfl rfl ?_
              refine VL_loop (X := Int) (fun x => [(0, .c (.imm (.slice kP) l_1)), (2, cS s_4), (22, .c (.h 11)), (23, cI x)]) (fun x => [(11, .row .str r_53)]) (fun k x => palinodelaw24_RegionTells.l0 K l_1 r_53 s_4 k x = some r) K (0 : Int) H_179 (fun _ h => no_none h) ?_
              intro k_92 k_91 H_181
              have H_182 : palinodelaw24_RegionTells.l0 K l_1 r_53 s_4 (k_92 + 1) k_91 = some r := H_181
              rw [palinodelaw24_RegionTells.l0] at H_182
              refine V_run hN hn 3 12 [0, 2, 22, 23, 140] [11] ⟨[(0, .c (.imm (.slice kP) l_1)), (2, cS s_4), (22, .c (.h 11)), (23, cI k_91), (140, cB (decide (k_91 < (lnI l_1))))], [(11, .row .str r_53)], 12⟩ [] (by kernel_rfl) rfl rfl ap0 ?_
              refine VL_cond ((decide (k_91 < (lnI l_1)))) (by kernel_rfl) ?_ ?_
              · intro b_94; have H_183 := of_t H_182 b_94
                refine V_run hN hn 2 12 [0, 2, 22, 23, 140] [11] ⟨[(0, .c (.imm (.slice kP) l_1)), (2, cS s_4), (22, .c (.h 11)), (23, cI k_91), (140, cB (decide (k_91 < (lnI l_1))))], [(11, .row .str r_53)], 12⟩ [] (by kernel_rfl) rfl rfl ap0 ?_
                refine VL_block ?_
                refine V_run hN hn 1 12 [0, 2, 22, 23, 140] [11] ⟨[(0, .c (.imm (.slice kP) l_1)), (2, cS s_4), (22, .c (.h 11)), (23, cI k_91), (140, cB (decide (k_91 < (lnI l_1))))], [(11, .row .str r_53)], 12⟩ [] (by kernel_rfl) rfl rfl ap0 ?_
                obtain ⟨r_97, h_98, H_185⟩ := of_bind H_183
                obtain ⟨c_99, H_186⟩ := of_if H_185
                refine V_reg hN hn [(4, ⟨12, 0, [.agg [.val (.int .i64 (List.getD l_1 (Int.toNat k_91) zP).1), .val (.int .i64 (List.getD l_1 (Int.toNat k_91) zP).2)]], [], .agg [.val (.int .i64 r_97.1), .val (.int .i64 r_97.2)], [], [], 12⟩)] [] (calls_cons (palinoderef24_Span_spec K (List.getD l_1 (Int.toNat k_91) zP).1 (List.getD l_1 (Int.toNat k_91) zP).2 r_97 h_98) (by kernel_rfl) calls_nil) 12 [0, 2, 22, 23, 24] [11, 12] ⟨[(0, .c (.imm (.slice kP) l_1)), (2, cS s_4), (22, .c (.h 11)), (23, cI k_91), (24, .c (.h 12))], [(11, .row .str r_53), (12, .box [.val (.int .i64 r_97.1), .val (.int .i64 r_97.2)])], 13⟩ [0 ≤ k_91, k_91 < (lnI l_1)] (by kernel_rfl) rfl rfl (ap2 c_99.1 (ap1 c_99.2)) (by kernel_rfl) (by kernel_rfl) ?_
                refine V_run hN hn 1 13 [0, 2, 22, 23, 24] [11, 12] ⟨[(0, .c (.imm (.slice kP) l_1)), (2, cS s_4), (22, .c (.h 11)), (23, cI k_91), (24, .c (.h 12))], [(11, .row .str r_53), (12, .box [.val (.int .i64 r_97.1), .val (.int .i64 r_97.2)])], 13⟩ [] (by kernel_rfl) rfl rfl ap0 ?_
                obtain ⟨q_187, H_188, H_189⟩ := of_bind H_186
                refine V_cut (Y := Bool) (R := Bool) q_187 (fun y => y) (fun y => [(0, .c (.imm (.slice kP) l_1)), (2, cS s_4), (22, .c (.h 11)), (23, cI k_91), (165, cB y)]) (fun y => [(11, .row .str r_53)]) ?_ ?_
                · skip
                  rcases Bool.eq_false_or_eq_true (((lnI r_53) != (lnI l_1))) with b_101 | b_101
                  · have H_191 := of_t H_188 b_101
                    refine V_draw hN hn (by kernel_rfl) [] [(153, true)] calls_nil 13 [0, 2, 22, 23, 165] [11] ⟨[(0, .c (.imm (.slice kP) l_1)), (2, cS s_4), (22, .c (.h 11)), (23, cI k_91), (165, cB true)], [(11, .row .str r_53)], 13⟩ [((lnI r_53) != (lnI l_1)) = true] (by kernel_rfl) rfl rfl (ap1 b_101) (by kernel_rfl) (by kernel_rfl) ?_
                    have H_193 := Option.some.inj (show some true = some q_187 from H_191); subst H_193
                    refine VL_nil ?_
                    exact QP_end true rfl [(11, 11)] hn (by kernel_rfl) (by kernel_rfl) rfl rfl rfl
                  · have H_192 := of_f H_188 b_101
                    obtain ⟨c_103, H_194⟩ := of_if H_192
                    refine V_draw hN hn (by kernel_rfl) [] [(153, false)] calls_nil 13 [0, 2, 22, 23, 165] [11] ⟨[(0, .c (.imm (.slice kP) l_1)), (2, cS s_4), (22, .c (.h 11)), (23, cI k_91), (165, cB (!(ByteArray.toList (List.getD r_53 (Int.toNat k_91) ByteArray.empty) == ByteArray.toList (ByteArray.extract s_4 (Int.toNat r_97.1) (Int.toNat r_97.2)))))], [(11, .row .str r_53)], 13⟩ [((lnI r_53) != (lnI l_1)) = false, 0 ≤ k_91, k_91 < (lnI r_53), (0 : Int) ≤ r_97.1, r_97.1 ≤ r_97.2, r_97.2 ≤ (((ByteArray.size s_4) : Nat) : Int)] (by kernel_rfl) rfl rfl (ap2 b_101 (ap2 c_99.1 (ap2 c_103.1 (ap2 c_103.2.1 (ap2 c_103.2.2.1 (ap1 c_103.2.2.2)))))) (by kernel_rfl) (by kernel_rfl) ?_
                    have H_195 := Option.some.inj (show some (!(ByteArray.toList (List.getD r_53 (Int.toNat k_91) ByteArray.empty) == ByteArray.toList (ByteArray.extract s_4 (Int.toNat r_97.1) (Int.toNat r_97.2)))) = some q_187 from H_194); subst H_195
                    refine VL_nil ?_
                    exact QP_end (!(ByteArray.toList (List.getD r_53 (Int.toNat k_91) ByteArray.empty) == ByteArray.toList (ByteArray.extract s_4 (Int.toNat r_97.1) (Int.toNat r_97.2)))) rfl [(11, 11)] hn (by kernel_rfl) (by kernel_rfl) rfl rfl rfl
                · intro y_190 hy; subst hy
                  skip
                  skip
                  refine VL_cond (y_190) (by kernel_rfl) ?_ ?_
                  · intro b_105; have H_196 := of_t H_189 b_105
                    refine V_run hN hn 2 13 [8] [] ⟨[(8, cB false)], [], 13⟩ [] (by kernel_rfl) rfl rfl ap0 ?_
                    have H_198 := Option.some.inj (show some false = some r from H_196); subst H_198
                    refine VL_ret ?_
                    refine QB_ret ?_
                    refine QL_ret ?_
                    refine QB_ret ?_
                    exact P_to [(8, cB false)] [] [] hn (by kernel_rfl) (by kernel_rfl) rfl rfl rfl (QF_retS (by kernel_rfl) (by kernel_rfl) rfl)
                  · intro b_105; have H_197 := of_f H_189 b_105
                    refine V_run hN hn 1 13 [0, 2, 22, 23, 165] [11] ⟨[(0, .c (.imm (.slice kP) l_1)), (2, cS s_4), (22, .c (.h 11)), (23, cI k_91), (165, cB y_190)], [(11, .row .str r_53)], 13⟩ [] (by kernel_rfl) rfl rfl ap0 ?_
                    refine VL_nil (QB_end ?_)
                    refine V_run hN hn 1 13 [0, 2, 22, 23] [11] ⟨[(0, .c (.imm (.slice kP) l_1)), (2, cS s_4), (22, .c (.h 11)), (23, cI (w6 (k_91 + (1 : Int))))], [(11, .row .str r_53)], 13⟩ [] (by kernel_rfl) rfl rfl ap0 ?_
                    refine VL_nil ?_
                    exact V_roundEnd (w6 (k_91 + (1 : Int))) H_197 [(11, 11)] hn (by kernel_rfl) (by kernel_rfl) rfl rfl rfl
              · intro b_94; have H_184 := of_f H_182 b_94
                refine VL_exit ?_
                refine QL_exit ?_
                refine QB_here ?_
                refine V_run hN hn 2 12 [8] [] ⟨[(8, cB true)], [], 12⟩ [] (by kernel_rfl) rfl rfl ap0 ?_
                have H_199 := Option.some.inj (show some true = some r from H_184); subst H_199
                refine VL_ret ?_
                exact P_to [(8, cB true)] [] [] hn (by kernel_rfl) (by kernel_rfl) rfl rfl rfl (QF_retS (by kernel_rfl) (by kernel_rfl) rfl)

end Go.Pal
