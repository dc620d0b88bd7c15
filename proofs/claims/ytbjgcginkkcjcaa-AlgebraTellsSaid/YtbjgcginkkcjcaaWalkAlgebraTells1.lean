/- The Go functions that AlgebraTells reaches compute what the plain functions say: part 1, printed by a program of this workplace. -/
import Derived.Test.YtbjgcginkkcjcaaChecked
import Derived.Test.YtbjgcginkkcjcaaWalkAlgebraTells0
namespace Go.Pal
open Go Go.Proofs
set_option maxRecDepth 100000
set_option linter.unusedVariables false

theorem algebra_both_ggcalgebraeach1_88c9e_spec (K : Nat) (a_1 : (Option ((List (Int × Int)) × Int))) (b_2 : (Option ((List (Int × Int)) × Int))) (r : (Int × (List (Int × Int)))) (H : algebra_both_ggcalgebraeach1_88c9e K a_1 b_2 = some r) : Spec Try.prog 47 2 [.c (.imm (.opt (.pair (.slice (.pair (.int .i64) (.int .i64))) (.int .i64))) a_1), .c (.imm (.opt (.pair (.slice (.pair (.int .i64) (.int .i64))) (.int .i64))) b_2), .c (.clo 54 [0, 1])] [(0, .box [.val (.slice none 0 0)]), (1, .box [.clo 43 []])] (.c (.val (.int .i64 r.1))) [(0, .box [.h 9]), (1, .box [.clo 43 []]), (9, .row (.pair (.int .i64) (.int .i64)) r.2)] := by
  refine Spec_mk (fn := Try.f47) (c := (Try.f47.body).get!) Try.func47 (by kernel_rfl) rfl ?_
  intro C hN hn
  replace hN : C.N = 53 := hN
  unfold algebra_both_ggcalgebraeach1_88c9e at H
  refine V_run hN hn 4 2 [0, 1, 2] [0, 1] ⟨[(0, .c (.imm (.opt (.pair (.slice (.pair (.int .i64) (.int .i64))) (.int .i64))) a_1)), (1, .c (.imm (.opt (.pair (.slice (.pair (.int .i64) (.int .i64))) (.int .i64))) b_2)), (2, .c (.clo 54 [0, 1]))], [(0, .box [.val (.slice none 0 0)]), (1, .box [.clo 43 []])], 2⟩ [] (by kernel_rfl) rfl rfl ap0 ?_
  obtain ⟨r_4, h_5, H_65⟩ := of_bind H
  obtain ⟨r_6, h_7, H_66⟩ := of_bind H_65
  refine V_reg hN hn [(1, ⟨35, 0, [.c (.imm (.opt (.pair (.slice (.pair (.int .i64) (.int .i64))) (.int .i64))) a_1)], [], .c (.val (.int .i64 r_4)), [], [], 2⟩), (3, ⟨35, 0, [.c (.imm (.opt (.pair (.slice (.pair (.int .i64) (.int .i64))) (.int .i64))) b_2)], [], .c (.val (.int .i64 r_6)), [], [], 2⟩)] [] (calls_cons (algebra_size_spec K a_1 r_4 h_5) (by kernel_rfl) (calls_cons (algebra_size_spec K b_2 r_6 h_7) (by kernel_rfl) calls_nil)) 2 [0, 1, 2, 14] [0, 1] ⟨[(0, .c (.imm (.opt (.pair (.slice (.pair (.int .i64) (.int .i64))) (.int .i64))) a_1)), (1, .c (.imm (.opt (.pair (.slice (.pair (.int .i64) (.int .i64))) (.int .i64))) b_2)), (2, .c (.clo 54 [0, 1])), (14, .c (.val (.bool (r_4 != r_6))))], [(0, .box [.val (.slice none 0 0)]), (1, .box [.clo 43 []])], 2⟩ [] (by kernel_rfl) rfl rfl ap0 (by kernel_rfl) (by kernel_rfl) ?_
  refine VL_cond ((r_4 != r_6)) (by kernel_rfl) ?_ ?_
  · intro b_9; have H_67 := of_t H_66 b_9
    refine V_run hN hn 2 2 [6] [0, 1] ⟨[(6, .c (.val (.int .i64 (80 : Int))))], [(0, .box [.val (.slice none 0 0)]), (1, .box [.clo 43 []])], 2⟩ [] (by kernel_rfl) rfl rfl ap0 ?_
    have H_69 := Option.some.inj (show some ((80 : Int), ([] : List (Int × Int))) = some r from H_67); subst H_69
    refine VL_ret ?_
    refine P_ghost [.nilCell 0 0 (.pair (.int .i64) (.int .i64))] 2 hn [6] [0, 1, 2] ⟨[(6, .c (.val (.int .i64 (80 : Int))))], [(0, .box [.h 2]), (1, .box [.clo 43 []]), (2, .row (.pair (.int .i64) (.int .i64)) ([] : List (Int × Int)))], 3⟩ (by kernel_rfl) rfl rfl ?_
    exact P_to [(6, .c (.val (.int .i64 (80 : Int))))] [(0, .box [.h 9]), (1, .box [.clo 43 []]), (9, .row (.pair (.int .i64) (.int .i64)) ([] : List (Int × Int)))] [(9, 2)] hn (by kernel_rfl) (by kernel_rfl) rfl rfl rfl (QF_retS (by kernel_rfl) (by kernel_rfl) rfl)
  · intro b_9; have H_68 := of_f H_66 b_9
    refine V_run hN hn 2 2 [0, 1, 2, 14] [0, 1] ⟨[(0, .c (.imm (.opt (.pair (.slice (.pair (.int .i64) (.int .i64))) (.int .i64))) a_1)), (1, .c (.imm (.opt (.pair (.slice (.pair (.int .i64) (.int .i64))) (.int .i64))) b_2)), (2, .c (.clo 54 [0, 1])), (14, .c (.val (.bool (r_4 != r_6))))], [(0, .box [.val (.slice none 0 0)]), (1, .box [.clo 43 []])], 2⟩ [] (by kernel_rfl) rfl rfl ap0 ?_
    obtain ⟨r_12, h_13, H_70⟩ := of_bind H_68
    obtain ⟨r_14, h_15, H_71⟩ := of_bind H_70
    refine V_reg hN hn [(1, ⟨36, 0, [.c (.imm (.opt (.pair (.slice (.pair (.int .i64) (.int .i64))) (.int .i64))) a_1)], [], .c (.h 2), [(2, .row (.pair (.int .i64) (.int .i64)) r_12)], [(2, 2)], 3⟩), (3, ⟨36, 0, [.c (.imm (.opt (.pair (.slice (.pair (.int .i64) (.int .i64))) (.int .i64))) b_2)], [], .c (.h 2), [(2, .row (.pair (.int .i64) (.int .i64)) r_14)], [(2, 3)], 4⟩)] [] (calls_cons (algebra_segs_spec K a_1 r_12 h_13) (by kernel_rfl) (calls_cons (algebra_segs_spec K b_2 r_14 h_15) (by kernel_rfl) calls_nil)) 2 [2, 7, 8] [0, 1, 2, 3] ⟨[(2, .c (.clo 54 [0, 1])), (7, .c (.h 2)), (8, .c (.h 3))], [(0, .box [.val (.slice none 0 0)]), (1, .box [.clo 43 []]), (2, .row (.pair (.int .i64) (.int .i64)) r_12), (3, .row (.pair (.int .i64) (.int .i64)) r_14)], 4⟩ [] (by kernel_rfl) rfl rfl ap0 (by kernel_rfl) (by kernel_rfl) ?_
    refine V_run hN hn 1 4 [2, 7, 8] [0, 1, 2, 3] ⟨[(2, .c (.clo 54 [0, 1])), (7, .c (.h 2)), (8, .c (.h 3))], [(0, .box [.val (.slice none 0 0)]), (1, .box [.clo 43 []]), (2, .row (.pair (.int .i64) (.int .i64)) r_12), (3, .row (.pair (.int .i64) (.int .i64)) r_14)], 4⟩ [] (by kernel_rfl) rfl rfl ap0 ?_
    refine VL_block ?_
    refine V_ghost [.nilCell 0 0 (.pair (.int .i64) (.int .i64))] 4 hn [2, 7, 8] [0, 1, 2, 3, 4] ⟨[(2, .c (.clo 54 [0, 1])), (7, .c (.h 2)), (8, .c (.h 3))], [(0, .box [.h 4]), (1, .box [.clo 43 []]), (2, .row (.pair (.int .i64) (.int .i64)) r_12), (3, .row (.pair (.int .i64) (.int .i64)) r_14), (4, .row (.pair (.int .i64) (.int .i64)) ([] : List (Int × Int)))], 5⟩ (by kernel_rfl) rfl rfl ?_
    refine V_to [(2, .c (.clo 54 [0, 1])), (7, .c (.h 7)), (8, .c (.h 8))] [(0, .box [.h 4]), (1, .box [.clo 43 []]), (4, .row (.pair (.int .i64) (.int .i64)) ([] : List (Int × Int))), (7, .row (.pair (.int .i64) (.int .i64)) r_12), (8, .row (.pair (.int .i64) (.int .i64)) r_14)] [(4, 4), (7, 2), (8, 3)] hn (by kernel_rfl) (by kernel_rfl) rfl rfl rfl ?_
    refine VL_loop (X := ((List (Int × Int)) × (List (Int × Int)) × (List (Int × Int)))) (fun x => [(2, .c (.clo 54 [0, 1])), (7, .c (.h 7)), (8, .c (.h 8))]) (fun x => [(0, .box [.h 4]), (1, .box [.clo 43 []]), (4, .row (.pair (.int .i64) (.int .i64)) x.1), (7, .row (.pair (.int .i64) (.int .i64)) x.2.1), (8, .row (.pair (.int .i64) (.int .i64)) x.2.2)]) (fun k x => algebra_both_ggcalgebraeach1_88c9e.l0 K k x.1 x.2.1 x.2.2 = some r) K (([] : List (Int × Int)), r_12, r_14) H_71 (fun _ h => no_none h) ?_
    intro k_41 x_41 H_72
    obtain ⟨x_38, p_39, q_40⟩ := x_41
    have H_73 : algebra_both_ggcalgebraeach1_88c9e.l0 K (k_41 + 1) x_38 p_39 q_40 = some r := H_72
    rw [algebra_both_ggcalgebraeach1_88c9e.l0] at H_73
    refine V_run hN hn 2 9 [2, 7, 8] [0, 1, 4, 7, 8] ⟨[(2, .c (.clo 54 [0, 1])), (7, .c (.h 7)), (8, .c (.h 8))], [(0, .box [.h 4]), (1, .box [.clo 43 []]), (4, .row (.pair (.int .i64) (.int .i64)) x_38), (7, .row (.pair (.int .i64) (.int .i64)) p_39), (8, .row (.pair (.int .i64) (.int .i64)) q_40)], 9⟩ [] (by kernel_rfl) rfl rfl ap0 ?_
    obtain ⟨q_74, H_75, H_76⟩ := of_bind H_73
    refine V_cut (Y := Bool) (R := Bool) q_74 (fun y => y) (fun y => [(2, .c (.clo 54 [0, 1])), (7, .c (.h 7)), (8, .c (.h 8)), (26, .c (.val (.bool y)))]) (fun y => [(0, .box [.h 4]), (1, .box [.clo 43 []]), (4, .row (.pair (.int .i64) (.int .i64)) x_38), (7, .row (.pair (.int .i64) (.int .i64)) p_39), (8, .row (.pair (.int .i64) (.int .i64)) q_40)]) ?_ ?_
    · skip
      rcases Bool.eq_false_or_eq_true ((decide ((((List.length p_39) : Nat) : Int) > (0 : Int)))) with b_43 | b_43
      · have H_78 := of_t H_75 b_43
        refine V_reg hN hn [] [(22, true)] calls_nil 9 [2, 7, 8, 26] [0, 1, 4, 7, 8] ⟨[(2, .c (.clo 54 [0, 1])), (7, .c (.h 7)), (8, .c (.h 8)), (26, .c (.val (.bool (decide ((((List.length q_40) : Nat) : Int) > (0 : Int))))))], [(0, .box [.h 4]), (1, .box [.clo 43 []]), (4, .row (.pair (.int .i64) (.int .i64)) x_38), (7, .row (.pair (.int .i64) (.int .i64)) p_39), (8, .row (.pair (.int .i64) (.int .i64)) q_40)], 9⟩ [(decide ((((List.length p_39) : Nat) : Int) > (0 : Int))) = true] (by kernel_rfl) rfl rfl (ap1 b_43) (by kernel_rfl) (by kernel_rfl) ?_
        have H_80 := Option.some.inj (show some (decide ((((List.length q_40) : Nat) : Int) > (0 : Int))) = some q_74 from H_78); subst H_80
        refine VL_nil ?_
        exact QP_end (decide ((((List.length q_40) : Nat) : Int) > (0 : Int))) rfl [(4, 4), (7, 7), (8, 8)] hn (by kernel_rfl) (by kernel_rfl) rfl rfl rfl
      · have H_79 := of_f H_75 b_43
        refine V_reg hN hn [] [(22, false)] calls_nil 9 [2, 7, 8, 26] [0, 1, 4, 7, 8] ⟨[(2, .c (.clo 54 [0, 1])), (7, .c (.h 7)), (8, .c (.h 8)), (26, .c (.val (.bool false)))], [(0, .box [.h 4]), (1, .box [.clo 43 []]), (4, .row (.pair (.int .i64) (.int .i64)) x_38), (7, .row (.pair (.int .i64) (.int .i64)) p_39), (8, .row (.pair (.int .i64) (.int .i64)) q_40)], 9⟩ [(decide ((((List.length p_39) : Nat) : Int) > (0 : Int))) = false] (by kernel_rfl) rfl rfl (ap1 b_43) (by kernel_rfl) (by kernel_rfl) ?_
        have H_81 := Option.some.inj (show some false = some q_74 from H_79); subst H_81
        refine VL_nil ?_
        exact QP_end false rfl [(4, 4), (7, 7), (8, 8)] hn (by kernel_rfl) (by kernel_rfl) rfl rfl rfl
    · intro y_77 hy; subst hy
      skip
      skip
      refine VL_cond (y_77) (by kernel_rfl) ?_ ?_
      · intro b_47; have H_82 := of_t H_76 b_47
        refine V_run hN hn 1 9 [2, 7, 8, 26] [0, 1, 4, 7, 8] ⟨[(2, .c (.clo 54 [0, 1])), (7, .c (.h 7)), (8, .c (.h 8)), (26, .c (.val (.bool y_77)))], [(0, .box [.h 4]), (1, .box [.clo 43 []]), (4, .row (.pair (.int .i64) (.int .i64)) x_38), (7, .row (.pair (.int .i64) (.int .i64)) p_39), (8, .row (.pair (.int .i64) (.int .i64)) q_40)], 9⟩ [] (by kernel_rfl) rfl rfl ap0 ?_
        refine VL_block ?_
        refine V_run hN hn 1 9 [2, 7, 8, 26] [0, 1, 4, 7, 8] ⟨[(2, .c (.clo 54 [0, 1])), (7, .c (.h 7)), (8, .c (.h 8)), (26, .c (.val (.bool y_77)))], [(0, .box [.h 4]), (1, .box [.clo 43 []]), (4, .row (.pair (.int .i64) (.int .i64)) x_38), (7, .row (.pair (.int .i64) (.int .i64)) p_39), (8, .row (.pair (.int .i64) (.int .i64)) q_40)], 9⟩ [] (by kernel_rfl) rfl rfl ap0 ?_
        obtain ⟨c_50, H_84⟩ := of_if H_82
        refine V_draw hN hn (by kernel_rfl) [] [] calls_nil 9 [2, 7, 8, 9] [0, 1, 4, 7, 8] ⟨[(2, .c (.clo 54 [0, 1])), (7, .c (.h 7)), (8, .c (.h 8)), (9, .c (.val (.int .i64 (mn2 (List.getD p_39 0 ((0 : Int), (0 : Int))).1 (List.getD q_40 0 ((0 : Int), (0 : Int))).1))))], [(0, .box [.h 4]), (1, .box [.clo 43 []]), (4, .row (.pair (.int .i64) (.int .i64)) x_38), (7, .row (.pair (.int .i64) (.int .i64)) p_39), (8, .row (.pair (.int .i64) (.int .i64)) q_40)], 9⟩ [(0 : Int) ≤ (0 : Int), (0 : Int) < (((List.length p_39) : Nat) : Int), (0 : Int) ≤ (0 : Int), (0 : Int) < (((List.length q_40) : Nat) : Int)] (by kernel_rfl) rfl rfl (ap2 (by decide) (ap2 c_50.1 (ap2 (by decide) (ap1 c_50.2)))) (by kernel_rfl) (by kernel_rfl) ?_
        refine V_run hN hn 1 9 [2, 7, 8, 9] [0, 1, 4, 7, 8] ⟨[(2, .c (.clo 54 [0, 1])), (7, .c (.h 7)), (8, .c (.h 8)), (9, .c (.val (.int .i64 (mn2 (List.getD p_39 0 ((0 : Int), (0 : Int))).1 (List.getD q_40 0 ((0 : Int), (0 : Int))).1))))], [(0, .box [.h 4]), (1, .box [.clo 43 []]), (4, .row (.pair (.int .i64) (.int .i64)) x_38), (7, .row (.pair (.int .i64) (.int .i64)) p_39), (8, .row (.pair (.int .i64) (.int .i64)) q_40)], 9⟩ [] (by kernel_rfl) rfl rfl ap0 ?_
        obtain ⟨r_52, h_53, H_85⟩ := of_bind H_84
        refine V_draw hN hn (by kernel_rfl) [(10, ⟨54, 3, [.c (.val (.int .i64 (mn2 (List.getD p_39 0 ((0 : Int), (0 : Int))).1 (List.getD q_40 0 ((0 : Int), (0 : Int))).1))), .c (.val (.int .i64 (List.getD p_39 0 ((0 : Int), (0 : Int))).2)), .c (.val (.int .i64 (List.getD q_40 0 ((0 : Int), (0 : Int))).2)), .c (.h 0), .c (.h 2)], [(0, .box [.h 1]), (1, .row (.pair (.int .i64) (.int .i64)) x_38), (2, .box [.clo 43 []])], .tup [], [(0, .box [.h 4]), (2, .box [.clo 43 []]), (4, .row (.pair (.int .i64) (.int .i64)) r_52)], [(0, 0), (1, 4), (2, 1), (4, 9)], 10⟩)] [] (calls_cons (algebra_each_1_gggbb_b4492_spec K (mn2 (List.getD p_39 0 ((0 : Int), (0 : Int))).1 (List.getD q_40 0 ((0 : Int), (0 : Int))).1) (List.getD p_39 0 ((0 : Int), (0 : Int))).2 (List.getD q_40 0 ((0 : Int), (0 : Int))).2 x_38 r_52 h_53) (by kernel_rfl) calls_nil) 9 [2, 7, 8, 9] [0, 1, 7, 8, 9] ⟨[(2, .c (.clo 54 [0, 1])), (7, .c (.h 7)), (8, .c (.h 8)), (9, .c (.val (.int .i64 (mn2 (List.getD p_39 0 ((0 : Int), (0 : Int))).1 (List.getD q_40 0 ((0 : Int), (0 : Int))).1))))], [(0, .box [.h 9]), (1, .box [.clo 43 []]), (7, .row (.pair (.int .i64) (.int .i64)) p_39), (8, .row (.pair (.int .i64) (.int .i64)) q_40), (9, .row (.pair (.int .i64) (.int .i64)) r_52)], 10⟩ [(0 : Int) ≤ (0 : Int), (0 : Int) < (((List.length p_39) : Nat) : Int), (0 : Int) ≤ (0 : Int), (0 : Int) < (((List.length q_40) : Nat) : Int)] (by kernel_rfl) rfl rfl (ap2 (by decide) (ap2 c_50.1 (ap2 (by decide) (ap1 c_50.2)))) (by kernel_rfl) (by kernel_rfl) ?_
        obtain ⟨r_55, h_56, H_86⟩ := of_bind H_85
        obtain ⟨r_57, h_58, H_87⟩ := of_bind H_86
        refine V_reg hN hn [(2, ⟨45, 1, [.c (.h 0), .c (.val (.int .i64 (mn2 (List.getD p_39 0 ((0 : Int), (0 : Int))).1 (List.getD q_40 0 ((0 : Int), (0 : Int))).1)))], [(0, .row (.pair (.int .i64) (.int .i64)) p_39)], .c (.h 2), [(2, .row (.pair (.int .i64) (.int .i64)) r_55)], [(0, 7), (2, 10)], 11⟩), (5, ⟨45, 1, [.c (.h 0), .c (.val (.int .i64 (mn2 (List.getD p_39 0 ((0 : Int), (0 : Int))).1 (List.getD q_40 0 ((0 : Int), (0 : Int))).1)))], [(0, .row (.pair (.int .i64) (.int .i64)) q_40)], .c (.h 2), [(2, .row (.pair (.int .i64) (.int .i64)) r_57)], [(0, 8), (2, 11)], 12⟩)] [] (calls_cons (algebra_less_rg_spec K p_39 (mn2 (List.getD p_39 0 ((0 : Int), (0 : Int))).1 (List.getD q_40 0 ((0 : Int), (0 : Int))).1) r_55 h_56) (by kernel_rfl) (calls_cons (algebra_less_rg_spec K q_40 (mn2 (List.getD p_39 0 ((0 : Int), (0 : Int))).1 (List.getD q_40 0 ((0 : Int), (0 : Int))).1) r_57 h_58) (by kernel_rfl) calls_nil)) 10 [2, 7, 8] [0, 1, 9, 10, 11] ⟨[(2, .c (.clo 54 [0, 1])), (7, .c (.h 10)), (8, .c (.h 11))], [(0, .box [.h 9]), (1, .box [.clo 43 []]), (9, .row (.pair (.int .i64) (.int .i64)) r_52), (10, .row (.pair (.int .i64) (.int .i64)) r_55), (11, .row (.pair (.int .i64) (.int .i64)) r_57)], 12⟩ [] (by kernel_rfl) rfl rfl ap0 (by kernel_rfl) (by kernel_rfl) ?_
        refine VL_nil (QB_end ?_)
        refine VL_nil ?_
        exact V_roundEnd (r_52, r_55, r_57) H_87 [(4, 9), (7, 10), (8, 11)] hn (by kernel_rfl) (by kernel_rfl) rfl rfl rfl
      · intro b_47; have H_83 := of_f H_76 b_47
        refine VL_exit ?_
        refine QL_exit ?_
        refine QB_here ?_
        refine V_run hN hn 2 9 [6] [0, 1, 4] ⟨[(6, .c (.val (.int .i64 (0 : Int))))], [(0, .box [.h 4]), (1, .box [.clo 43 []]), (4, .row (.pair (.int .i64) (.int .i64)) x_38)], 9⟩ [] (by kernel_rfl) rfl rfl ap0 ?_
        have H_88 := Option.some.inj (show some ((0 : Int), x_38) = some r from H_83); subst H_88
        refine VL_ret ?_
        exact P_to [(6, .c (.val (.int .i64 (0 : Int))))] [(0, .box [.h 9]), (1, .box [.clo 43 []]), (9, .row (.pair (.int .i64) (.int .i64)) x_38)] [(9, 4)] hn (by kernel_rfl) (by kernel_rfl) rfl rfl rfl (QF_retS (by kernel_rfl) (by kernel_rfl) rfl)

theorem algebra_each_ggcalgebraXor1_spec (K : Nat) (a_1 : (Option ((List (Int × Int)) × Int))) (b_2 : (Option ((List (Int × Int)) × Int))) (r : ((Option ((List (Int × Int)) × Int)) × Int)) (H : algebra_each_ggcalgebraXor1 K a_1 b_2 = some r) : Spec Try.prog 37 0 [.c (.imm (.opt (.pair (.slice (.pair (.int .i64) (.int .i64))) (.int .i64))) a_1), .c (.imm (.opt (.pair (.slice (.pair (.int .i64) (.int .i64))) (.int .i64))) b_2), .c (.clo 43 [])] [] (.tup [(false, [.imm (.opt (.pair (.slice (.pair (.int .i64) (.int .i64))) (.int .i64))) r.1]), (false, [.val (.int .i64 r.2)])]) [] := by
  refine Spec_mk (fn := Try.f37) (c := (Try.f37.body).get!) Try.func37 (by kernel_rfl) rfl ?_
  intro C hN hn
  replace hN : C.N = 21 := hN
  unfold algebra_each_ggcalgebraXor1 at H
  refine V_run hN hn 6 0 [0, 1, 5, 8] [0, 1] ⟨[(0, .c (.imm (.opt (.pair (.slice (.pair (.int .i64) (.int .i64))) (.int .i64))) a_1)), (1, .c (.imm (.opt (.pair (.slice (.pair (.int .i64) (.int .i64))) (.int .i64))) b_2)), (5, .c (.h 0)), (8, .c (.h 1))], [(0, .box [.clo 43 []]), (1, .box [.val (.slice none 0 0)])], 2⟩ [] (by kernel_rfl) rfl rfl ap0 ?_
  obtain ⟨r_4, h_5, H_16⟩ := of_bind H
  refine V_reg hN hn [(3, ⟨47, 2, [.c (.imm (.opt (.pair (.slice (.pair (.int .i64) (.int .i64))) (.int .i64))) a_1), .c (.imm (.opt (.pair (.slice (.pair (.int .i64) (.int .i64))) (.int .i64))) b_2), .c (.clo 54 [0, 1])], [(0, .box [.val (.slice none 0 0)]), (1, .box [.clo 43 []])], .c (.val (.int .i64 r_4.1)), [(0, .box [.h 9]), (1, .box [.clo 43 []]), (9, .row (.pair (.int .i64) (.int .i64)) r_4.2)], [(0, 1), (1, 0), (9, 2)], 3⟩)] [] (calls_cons (algebra_both_ggcalgebraeach1_88c9e_spec K a_1 b_2 r_4 h_5) (by kernel_rfl) calls_nil) 2 [8, 9] [1, 2] ⟨[(8, .c (.h 1)), (9, .c (.val (.int .i64 r_4.1)))], [(1, .box [.h 2]), (2, .row (.pair (.int .i64) (.int .i64)) r_4.2)], 3⟩ [] (by kernel_rfl) rfl rfl ap0 (by kernel_rfl) (by kernel_rfl) ?_
  refine V_run hN hn 2 3 [8, 9, 15] [1, 2] ⟨[(8, .c (.h 1)), (9, .c (.val (.int .i64 r_4.1))), (15, .c (.val (.bool (r_4.1 != (0 : Int)))))], [(1, .box [.h 2]), (2, .row (.pair (.int .i64) (.int .i64)) r_4.2)], 3⟩ [] (by kernel_rfl) rfl rfl ap0 ?_
  refine VL_cond ((r_4.1 != (0 : Int))) (by kernel_rfl) ?_ ?_
  · intro b_8; have H_17 := of_t H_16 b_8
    refine V_run hN hn 2 3 [6, 7] [] ⟨[(6, .c (.val (.pointer none))), (7, .c (.val (.int .i64 r_4.1)))], [], 3⟩ [] (by kernel_rfl) rfl rfl ap0 ?_
    have H_19 := Option.some.inj (show some ((none : (Option ((List (Int × Int)) × Int))), r_4.1) = some r from H_17); subst H_19
    refine VL_ret ?_
    refine P_ghost [.read 6 (.opt (.pair (.slice (.pair (.int .i64) (.int .i64))) (.int .i64)))] 3 hn [6, 7] [] ⟨[(6, .c (.imm (.opt (.pair (.slice (.pair (.int .i64) (.int .i64))) (.int .i64))) (none : (Option ((List (Int × Int)) × Int))))), (7, .c (.val (.int .i64 r_4.1)))], [], 3⟩ (by kernel_rfl) rfl rfl ?_
    exact P_to [(6, .c (.imm (.opt (.pair (.slice (.pair (.int .i64) (.int .i64))) (.int .i64))) (none : (Option ((List (Int × Int)) × Int))))), (7, .c (.val (.int .i64 r_4.1)))] [] [] hn (by kernel_rfl) (by kernel_rfl) rfl rfl rfl (QF_retS (by kernel_rfl) (by kernel_rfl) rfl)
  · intro b_8; have H_18 := of_f H_16 b_8
    refine V_run hN hn 2 3 [8, 9, 15] [1, 2] ⟨[(8, .c (.h 1)), (9, .c (.val (.int .i64 r_4.1))), (15, .c (.val (.bool (r_4.1 != (0 : Int)))))], [(1, .box [.h 2]), (2, .row (.pair (.int .i64) (.int .i64)) r_4.2)], 3⟩ [] (by kernel_rfl) rfl rfl ap0 ?_
    obtain ⟨r_11, h_12, H_20⟩ := of_bind H_18
    refine V_reg hN hn [(1, ⟨46, 1, [.c (.h 0)], [(0, .row (.pair (.int .i64) (.int .i64)) r_4.2)], .tup [(false, [.imm (.opt (.pair (.slice (.pair (.int .i64) (.int .i64))) (.int .i64))) r_11.1]), (false, [.val (.int .i64 r_11.2)])], [(0, .row (.pair (.int .i64) (.int .i64)) r_4.2)], [(0, 2)], 3⟩)] [] (calls_cons (subset_Pack_r_spec K r_4.2 r_11 h_12) (by kernel_rfl) calls_nil) 3 [6, 7] [] ⟨[(6, .c (.imm (.opt (.pair (.slice (.pair (.int .i64) (.int .i64))) (.int .i64))) r_11.1)), (7, .c (.val (.int .i64 r_11.2)))], [], 3⟩ [] (by kernel_rfl) rfl rfl ap0 (by kernel_rfl) (by kernel_rfl) ?_
    have H_21 := Option.some.inj (show some (r_11.1, r_11.2) = some r from H_20); subst H_21
    refine VL_ret ?_
    exact P_to [(6, .c (.imm (.opt (.pair (.slice (.pair (.int .i64) (.int .i64))) (.int .i64))) r_11.1)), (7, .c (.val (.int .i64 r_11.2)))] [] [] hn (by kernel_rfl) (by kernel_rfl) rfl rfl rfl (QF_retS (by kernel_rfl) (by kernel_rfl) rfl)

theorem algebra_Xor_spec (K : Nat) (a_1 : (Option ((List (Int × Int)) × Int))) (b_2 : (Option ((List (Int × Int)) × Int))) (r : ((Option ((List (Int × Int)) × Int)) × Int)) (H : algebra_Xor K a_1 b_2 = some r) : Spec Try.prog 20 0 [.c (.imm (.opt (.pair (.slice (.pair (.int .i64) (.int .i64))) (.int .i64))) a_1), .c (.imm (.opt (.pair (.slice (.pair (.int .i64) (.int .i64))) (.int .i64))) b_2)] [] (.tup [(false, [.imm (.opt (.pair (.slice (.pair (.int .i64) (.int .i64))) (.int .i64))) r.1]), (false, [.val (.int .i64 r.2)])]) [] := by
  refine Spec_mk (fn := Try.f20) (c := (Try.f20.body).get!) Try.func20 (by kernel_rfl) rfl ?_
  intro C hN hn
  replace hN : C.N = 11 := hN
  unfold algebra_Xor at H
  refine V_run hN hn 3 0 [0, 1] [] ⟨[(0, .c (.imm (.opt (.pair (.slice (.pair (.int .i64) (.int .i64))) (.int .i64))) a_1)), (1, .c (.imm (.opt (.pair (.slice (.pair (.int .i64) (.int .i64))) (.int .i64))) b_2))], [], 0⟩ [] (by kernel_rfl) rfl rfl ap0 ?_
  obtain ⟨r_4, h_5, H_9⟩ := of_bind H
  refine V_reg hN hn [(2, ⟨37, 0, [.c (.imm (.opt (.pair (.slice (.pair (.int .i64) (.int .i64))) (.int .i64))) a_1), .c (.imm (.opt (.pair (.slice (.pair (.int .i64) (.int .i64))) (.int .i64))) b_2), .c (.clo 43 [])], [], .tup [(false, [.imm (.opt (.pair (.slice (.pair (.int .i64) (.int .i64))) (.int .i64))) r_4.1]), (false, [.val (.int .i64 r_4.2)])], [], [], 0⟩)] [] (calls_cons (algebra_each_ggcalgebraXor1_spec K a_1 b_2 r_4 h_5) (by kernel_rfl) calls_nil) 0 [4, 5] [] ⟨[(4, .c (.imm (.opt (.pair (.slice (.pair (.int .i64) (.int .i64))) (.int .i64))) r_4.1)), (5, .c (.val (.int .i64 r_4.2)))], [], 0⟩ [] (by kernel_rfl) rfl rfl ap0 (by kernel_rfl) (by kernel_rfl) ?_
  have H_10 := Option.some.inj (show some (r_4.1, r_4.2) = some r from H_9); subst H_10
  refine VL_ret ?_
  exact P_to [(4, .c (.imm (.opt (.pair (.slice (.pair (.int .i64) (.int .i64))) (.int .i64))) r_4.1)), (5, .c (.val (.int .i64 r_4.2)))] [] [] hn (by kernel_rfl) (by kernel_rfl) rfl rfl rfl (QF_retS (by kernel_rfl) (by kernel_rfl) rfl)

theorem palinoderef7_Expand_rr_spec (K : Nat) (a_1 : (List Int)) (b_2 : (List Int)) (r : ((List Int) × Int)) (H : palinoderef7_Expand_rr K a_1 b_2 = some r) : Spec Try.prog 22 2 [.c (.h 0), .c (.h 1)] [(0, .row (.int .i64) a_1), (1, .row (.int .i64) b_2)] (.tup [(false, [.imm (.slice (.int .i64)) r.1]), (false, [.val (.int .i64 r.2)])]) [(0, .row (.int .i64) a_1), (1, .row (.int .i64) b_2)] := by
  refine Spec_mk (fn := Try.f22) (c := (Try.f22.body).get!) Try.func22 (by kernel_rfl) rfl ?_
  intro C hN hn
  replace hN : C.N = 55 := hN
  unfold palinoderef7_Expand_rr at H
  refine V_run hN hn 7 2 [0, 1, 6, 7] [0, 1] ⟨[(0, .c (.h 0)), (1, .c (.h 1)), (6, .c (.val (.int .i64 (0 : Int)))), (7, .c (.val (.int .i64 (0 : Int))))], [(0, .row (.int .i64) a_1), (1, .row (.int .i64) b_2)], 2⟩ [] (by kernel_rfl) rfl rfl ap0 ?_
  obtain ⟨q_53, H_54, H_55⟩ := of_bind H
  refine V_cut (Y := Int) (R := Int) q_53 (fun y => y) (fun y => [(0, .c (.h 0)), (1, .c (.h 1)), (6, .c (.val (.int .i64 y)))]) (fun y => [(0, .row (.int .i64) a_1), (1, .row (.int .i64) b_2)]) ?_ ?_
  · skip
    refine VL_block ?_
    refine V_to [(0, .c (.h 0)), (1, .c (.h 1)), (6, .c (.val (.int .i64 (0 : Int)))), (7, .c (.val (.int .i64 (0 : Int))))] [(0, .row (.int .i64) a_1), (1, .row (.int .i64) b_2)] [] hn (by kernel_rfl) (by kernel_rfl) rfl rfl rfl ?_
    refine VL_loop (X := (Int × Int)) (fun x => [(0, .c (.h 0)), (1, .c (.h 1)), (6, .c (.val (.int .i64 x.1))), (7, .c (.val (.int .i64 x.2)))]) (fun x => [(0, .row (.int .i64) a_1), (1, .row (.int .i64) b_2)]) (fun k x => palinoderef7_Expand_rr.l0 K b_2 k x.1 x.2 = some q_53) K ((0 : Int), (0 : Int)) H_54 (fun _ h => no_none h) ?_
    intro k_6 x_6 H_57
    obtain ⟨n_4, i_5⟩ := x_6
    have H_58 : palinoderef7_Expand_rr.l0 K b_2 (k_6 + 1) n_4 i_5 = some q_53 := H_57
    rw [palinoderef7_Expand_rr.l0] at H_58
    refine V_run hN hn 3 2 [0, 1, 6, 7, 14] [0, 1] ⟨[(0, .c (.h 0)), (1, .c (.h 1)), (6, .c (.val (.int .i64 n_4))), (7, .c (.val (.int .i64 i_5))), (14, .c (.val (.bool (decide (i_5 < (((List.length b_2) : Nat) : Int))))))], [(0, .row (.int .i64) a_1), (1, .row (.int .i64) b_2)], 2⟩ [] (by kernel_rfl) rfl rfl ap0 ?_
    refine VL_cond ((decide (i_5 < (((List.length b_2) : Nat) : Int)))) (by kernel_rfl) ?_ ?_
    · intro b_8; have H_59 := of_t H_58 b_8
      refine V_run hN hn 2 2 [0, 1, 6, 7, 14] [0, 1] ⟨[(0, .c (.h 0)), (1, .c (.h 1)), (6, .c (.val (.int .i64 n_4))), (7, .c (.val (.int .i64 i_5))), (14, .c (.val (.bool (decide (i_5 < (((List.length b_2) : Nat) : Int))))))], [(0, .row (.int .i64) a_1), (1, .row (.int .i64) b_2)], 2⟩ [] (by kernel_rfl) rfl rfl ap0 ?_
      refine VL_block ?_
      obtain ⟨c_10, H_61⟩ := of_if H_59
      refine V_run hN hn 2 2 [0, 1, 6, 7, 21] [0, 1] ⟨[(0, .c (.h 0)), (1, .c (.h 1)), (6, .c (.val (.int .i64 n_4))), (7, .c (.val (.int .i64 i_5))), (21, .c (.val (.bool ((List.getD b_2 (Int.toNat i_5) (0 : Int)) == (0 : Int)))))], [(0, .row (.int .i64) a_1), (1, .row (.int .i64) b_2)], 2⟩ [0 ≤ i_5, i_5 < (((List.length b_2) : Nat) : Int)] (by kernel_rfl) rfl rfl (ap2 c_10.1 (ap1 c_10.2)) ?_
      refine VL_cond (((List.getD b_2 (Int.toNat i_5) (0 : Int)) == (0 : Int))) (by kernel_rfl) ?_ ?_
      · intro b_11; have H_62 := of_t H_61 b_11
        refine V_run hN hn 1 2 [0, 1, 6, 7] [0, 1] ⟨[(0, .c (.h 0)), (1, .c (.h 1)), (6, .c (.val (.int .i64 (IntKind.wrap .i64 (n_4 + (1 : Int)))))), (7, .c (.val (.int .i64 i_5)))], [(0, .row (.int .i64) a_1), (1, .row (.int .i64) b_2)], 2⟩ [] (by kernel_rfl) rfl rfl ap0 ?_
        refine VL_nil (QB_end ?_)
        refine V_run hN hn 1 2 [0, 1, 6, 7] [0, 1] ⟨[(0, .c (.h 0)), (1, .c (.h 1)), (6, .c (.val (.int .i64 (IntKind.wrap .i64 (n_4 + (1 : Int)))))), (7, .c (.val (.int .i64 (IntKind.wrap .i64 (i_5 + (1 : Int))))))], [(0, .row (.int .i64) a_1), (1, .row (.int .i64) b_2)], 2⟩ [] (by kernel_rfl) rfl rfl ap0 ?_
        refine VL_nil ?_
        exact V_roundEnd ((IntKind.wrap .i64 (n_4 + (1 : Int))), (IntKind.wrap .i64 (i_5 + (1 : Int)))) H_62 [] hn (by kernel_rfl) (by kernel_rfl) rfl rfl rfl
      · intro b_11; have H_63 := of_f H_61 b_11
        refine V_run hN hn 1 2 [0, 1, 6, 7, 21] [0, 1] ⟨[(0, .c (.h 0)), (1, .c (.h 1)), (6, .c (.val (.int .i64 n_4))), (7, .c (.val (.int .i64 i_5))), (21, .c (.val (.bool ((List.getD b_2 (Int.toNat i_5) (0 : Int)) == (0 : Int)))))], [(0, .row (.int .i64) a_1), (1, .row (.int .i64) b_2)], 2⟩ [] (by kernel_rfl) rfl rfl ap0 ?_
        refine VL_nil (QB_end ?_)
        refine V_run hN hn 1 2 [0, 1, 6, 7] [0, 1] ⟨[(0, .c (.h 0)), (1, .c (.h 1)), (6, .c (.val (.int .i64 n_4))), (7, .c (.val (.int .i64 (IntKind.wrap .i64 (i_5 + (1 : Int))))))], [(0, .row (.int .i64) a_1), (1, .row (.int .i64) b_2)], 2⟩ [] (by kernel_rfl) rfl rfl ap0 ?_
        refine VL_nil ?_
        exact V_roundEnd (n_4, (IntKind.wrap .i64 (i_5 + (1 : Int)))) H_63 [] hn (by kernel_rfl) (by kernel_rfl) rfl rfl rfl
    · intro b_8; have H_60 := of_f H_58 b_8
      refine VL_exit ?_
      refine QL_exit ?_
      refine QB_here ?_
      have H_64 := Option.some.inj (show some n_4 = some q_53 from H_60); subst H_64
      refine VL_nil ?_
      exact QP_end n_4 rfl [] hn (by kernel_rfl) (by kernel_rfl) rfl rfl rfl
  · intro y_56 hy; subst hy
    skip
    skip
    refine V_run hN hn 3 2 [0, 1, 27] [0, 1] ⟨[(0, .c (.h 0)), (1, .c (.h 1)), (27, .c (.val (.bool (y_56 != (((List.length a_1) : Nat) : Int)))))], [(0, .row (.int .i64) a_1), (1, .row (.int .i64) b_2)], 2⟩ [] (by kernel_rfl) rfl rfl ap0 ?_
    refine VL_cond ((y_56 != (((List.length a_1) : Nat) : Int))) (by kernel_rfl) ?_ ?_
    · intro b_18; have H_65 := of_t H_55 b_18
      refine V_run hN hn 2 2 [4, 5] [0, 1] ⟨[(4, .c (.val (.slice none 0 0))), (5, .c (.val (.int .i64 (80 : Int))))], [(0, .row (.int .i64) a_1), (1, .row (.int .i64) b_2)], 2⟩ [] (by kernel_rfl) rfl rfl ap0 ?_
      have H_67 := Option.some.inj (show some (([] : List Int), (80 : Int)) = some r from H_65); subst H_67
      refine VL_ret ?_
      refine P_ghost [.read 4 (.slice (.int .i64))] 2 hn [4, 5] [0, 1] ⟨[(4, .c (.imm (.slice (.int .i64)) ([] : List Int))), (5, .c (.val (.int .i64 (80 : Int))))], [(0, .row (.int .i64) a_1), (1, .row (.int .i64) b_2)], 2⟩ (by kernel_rfl) rfl rfl ?_
      exact P_to [(4, .c (.imm (.slice (.int .i64)) ([] : List Int))), (5, .c (.val (.int .i64 (80 : Int))))] [(0, .row (.int .i64) a_1), (1, .row (.int .i64) b_2)] [] hn (by kernel_rfl) (by kernel_rfl) rfl rfl rfl (QF_retS (by kernel_rfl) (by kernel_rfl) rfl)
    · intro b_18; have H_66 := of_f H_55 b_18
      obtain ⟨c_20, H_68⟩ := of_if H_66
      refine V_run hN hn 8 2 [0, 1, 8, 9, 10] [0, 1, 2] ⟨[(0, .c (.h 0)), (1, .c (.h 1)), (8, .c (.h 2)), (9, .c (.val (.int .i64 (0 : Int)))), (10, .c (.val (.int .i64 (0 : Int))))], [(0, .row (.int .i64) a_1), (1, .row (.int .i64) b_2), (2, .row (.int .i64) (List.replicate (Int.toNat (((List.length b_2) : Nat) : Int)) (0 : Int)))], 3⟩ [(0 : Int) ≤ (((List.length b_2) : Nat) : Int), (((List.length b_2) : Nat) : Int) ≤ (((List.length b_2) : Nat) : Int), (((List.length b_2) : Nat) : Int) * 8 ≤ (140737488355328 : Int), (((List.length b_2) : Nat) : Int) ≤ (9223372036854775807 : Int)] (by kernel_rfl) rfl rfl (ap2 c_20.1 (ap2 c_20.2.1 (ap2 c_20.2.2.1 (ap1 c_20.2.2.2)))) ?_
      obtain ⟨q_69, H_70, H_71⟩ := of_bind H_68
      refine V_cut (Y := (List Int)) (R := (List Int)) q_69 (fun y => y) (fun y => [(8, .c (.h 2))]) (fun y => [(0, .row (.int .i64) a_1), (1, .row (.int .i64) b_2), (2, .row (.int .i64) y)]) ?_ ?_
      · skip
        refine VL_block ?_
        refine V_to [(0, .c (.h 0)), (1, .c (.h 1)), (8, .c (.h 2)), (9, .c (.val (.int .i64 (0 : Int)))), (10, .c (.val (.int .i64 (0 : Int))))] [(0, .row (.int .i64) a_1), (1, .row (.int .i64) b_2), (2, .row (.int .i64) (List.replicate (Int.toNat (((List.length b_2) : Nat) : Int)) (0 : Int)))] [(2, 2)] hn (by kernel_rfl) (by kernel_rfl) rfl rfl rfl ?_
        refine VL_loop (X := ((List Int) × Int × Int)) (fun x => [(0, .c (.h 0)), (1, .c (.h 1)), (8, .c (.h 2)), (9, .c (.val (.int .i64 x.2.1))), (10, .c (.val (.int .i64 x.2.2)))]) (fun x => [(0, .row (.int .i64) a_1), (1, .row (.int .i64) b_2), (2, .row (.int .i64) x.1)]) (fun k x => palinoderef7_Expand_rr.l1 K b_2 a_1 k x.1 x.2.1 x.2.2 = some q_69) K ((List.replicate (Int.toNat (((List.length b_2) : Nat) : Int)) (0 : Int)), (0 : Int), (0 : Int)) H_70 (fun _ h => no_none h) ?_
        intro k_34 x_34 H_73
        obtain ⟨out_33, k_21, i_22⟩ := x_34
        have H_74 : palinoderef7_Expand_rr.l1 K b_2 a_1 (k_34 + 1) out_33 k_21 i_22 = some q_69 := H_73
        rw [palinoderef7_Expand_rr.l1] at H_74
        refine V_run hN hn 3 3 [0, 1, 8, 9, 10, 34] [0, 1, 2] ⟨[(0, .c (.h 0)), (1, .c (.h 1)), (8, .c (.h 2)), (9, .c (.val (.int .i64 k_21))), (10, .c (.val (.int .i64 i_22))), (34, .c (.val (.bool (decide (i_22 < (((List.length b_2) : Nat) : Int))))))], [(0, .row (.int .i64) a_1), (1, .row (.int .i64) b_2), (2, .row (.int .i64) out_33)], 3⟩ [] (by kernel_rfl) rfl rfl ap0 ?_
        refine VL_cond ((decide (i_22 < (((List.length b_2) : Nat) : Int)))) (by kernel_rfl) ?_ ?_
        · intro b_36; have H_75 := of_t H_74 b_36
          refine V_run hN hn 2 3 [0, 1, 8, 9, 10, 34] [0, 1, 2] ⟨[(0, .c (.h 0)), (1, .c (.h 1)), (8, .c (.h 2)), (9, .c (.val (.int .i64 k_21))), (10, .c (.val (.int .i64 i_22))), (34, .c (.val (.bool (decide (i_22 < (((List.length b_2) : Nat) : Int))))))], [(0, .row (.int .i64) a_1), (1, .row (.int .i64) b_2), (2, .row (.int .i64) out_33)], 3⟩ [] (by kernel_rfl) rfl rfl ap0 ?_
          refine VL_block ?_
          obtain ⟨c_38, H_77⟩ := of_if H_75
          refine V_run hN hn 2 3 [0, 1, 8, 9, 10, 41] [0, 1, 2] ⟨[(0, .c (.h 0)), (1, .c (.h 1)), (8, .c (.h 2)), (9, .c (.val (.int .i64 k_21))), (10, .c (.val (.int .i64 i_22))), (41, .c (.val (.bool ((List.getD b_2 (Int.toNat i_22) (0 : Int)) == (0 : Int)))))], [(0, .row (.int .i64) a_1), (1, .row (.int .i64) b_2), (2, .row (.int .i64) out_33)], 3⟩ [0 ≤ i_22, i_22 < (((List.length b_2) : Nat) : Int)] (by kernel_rfl) rfl rfl (ap2 c_38.1 (ap1 c_38.2)) ?_
          refine VL_cond (((List.getD b_2 (Int.toNat i_22) (0 : Int)) == (0 : Int))) (by kernel_rfl) ?_ ?_
          · intro b_39; have H_78 := of_t H_77 b_39
            obtain ⟨c_40, H_80⟩ := of_if H_78
            refine V_run hN hn 3 3 [0, 1, 8, 9, 10] [0, 1, 2] ⟨[(0, .c (.h 0)), (1, .c (.h 1)), (8, .c (.h 2)), (9, .c (.val (.int .i64 (IntKind.wrap .i64 (k_21 + (1 : Int)))))), (10, .c (.val (.int .i64 i_22)))], [(0, .row (.int .i64) a_1), (1, .row (.int .i64) b_2), (2, .row (.int .i64) (List.set out_33 (Int.toNat i_22) (List.getD a_1 (Int.toNat k_21) (0 : Int))))], 3⟩ [0 ≤ k_21, k_21 < (((List.length a_1) : Nat) : Int), 0 ≤ i_22, i_22 < (((List.length out_33) : Nat) : Int)] (by kernel_rfl) rfl rfl (ap2 c_40.1 (ap2 c_40.2.1 (ap2 c_38.1 (ap1 c_40.2.2)))) ?_
            refine VL_nil (QB_end ?_)
            refine V_run hN hn 1 3 [0, 1, 8, 9, 10] [0, 1, 2] ⟨[(0, .c (.h 0)), (1, .c (.h 1)), (8, .c (.h 2)), (9, .c (.val (.int .i64 (IntKind.wrap .i64 (k_21 + (1 : Int)))))), (10, .c (.val (.int .i64 (IntKind.wrap .i64 (i_22 + (1 : Int))))))], [(0, .row (.int .i64) a_1), (1, .row (.int .i64) b_2), (2, .row (.int .i64) (List.set out_33 (Int.toNat i_22) (List.getD a_1 (Int.toNat k_21) (0 : Int))))], 3⟩ [] (by kernel_rfl) rfl rfl ap0 ?_
            refine VL_nil ?_
            exact V_roundEnd ((List.set out_33 (Int.toNat i_22) (List.getD a_1 (Int.toNat k_21) (0 : Int))), (IntKind.wrap .i64 (k_21 + (1 : Int))), (IntKind.wrap .i64 (i_22 + (1 : Int)))) H_80 [(2, 2)] hn (by kernel_rfl) (by kernel_rfl) rfl rfl rfl
          · intro b_39; have H_79 := of_f H_77 b_39
            refine V_run hN hn 1 3 [0, 1, 8, 9, 10, 41] [0, 1, 2] ⟨[(0, .c (.h 0)), (1, .c (.h 1)), (8, .c (.h 2)), (9, .c (.val (.int .i64 k_21))), (10, .c (.val (.int .i64 i_22))), (41, .c (.val (.bool ((List.getD b_2 (Int.toNat i_22) (0 : Int)) == (0 : Int)))))], [(0, .row (.int .i64) a_1), (1, .row (.int .i64) b_2), (2, .row (.int .i64) out_33)], 3⟩ [] (by kernel_rfl) rfl rfl ap0 ?_
            refine VL_nil (QB_end ?_)
            refine V_run hN hn 1 3 [0, 1, 8, 9, 10] [0, 1, 2] ⟨[(0, .c (.h 0)), (1, .c (.h 1)), (8, .c (.h 2)), (9, .c (.val (.int .i64 k_21))), (10, .c (.val (.int .i64 (IntKind.wrap .i64 (i_22 + (1 : Int))))))], [(0, .row (.int .i64) a_1), (1, .row (.int .i64) b_2), (2, .row (.int .i64) out_33)], 3⟩ [] (by kernel_rfl) rfl rfl ap0 ?_
            refine VL_nil ?_
            exact V_roundEnd (out_33, k_21, (IntKind.wrap .i64 (i_22 + (1 : Int)))) H_79 [(2, 2)] hn (by kernel_rfl) (by kernel_rfl) rfl rfl rfl
        · intro b_36; have H_76 := of_f H_74 b_36
          refine VL_exit ?_
          refine QL_exit ?_
          refine QB_here ?_
          have H_81 := Option.some.inj (show some out_33 = some q_69 from H_76); subst H_81
          refine VL_nil ?_
          exact QP_end out_33 rfl [(2, 2)] hn (by kernel_rfl) (by kernel_rfl) rfl rfl rfl
      · intro y_72 hy; subst hy
        skip
        skip
        refine V_run hN hn 1 3 [8] [0, 1, 2] ⟨[(8, .c (.h 2))], [(0, .row (.int .i64) a_1), (1, .row (.int .i64) b_2), (2, .row (.int .i64) y_72)], 3⟩ [] (by kernel_rfl) rfl rfl ap0 ?_
        refine V_ghost [.shut 2] 3 hn [8] [0, 1] ⟨[(8, .c (.imm (.slice (.int .i64)) y_72))], [(0, .row (.int .i64) a_1), (1, .row (.int .i64) b_2)], 3⟩ (by kernel_rfl) rfl rfl ?_
        obtain ⟨r_46, h_47, H_82⟩ := of_bind H_71
        refine V_reg hN hn [(1, ⟨41, 0, [.c (.imm (.slice (.int .i64)) y_72)], [], .tup [(false, [.imm (.slice (.int .i64)) r_46.1]), (false, [.val (.int .i64 r_46.2)])], [], [], 3⟩)] [] (calls_cons (palinoderef7_Told_spec K y_72 r_46 h_47) (by kernel_rfl) calls_nil) 3 [4, 5] [0, 1] ⟨[(4, .c (.imm (.slice (.int .i64)) r_46.1)), (5, .c (.val (.int .i64 r_46.2)))], [(0, .row (.int .i64) a_1), (1, .row (.int .i64) b_2)], 3⟩ [] (by kernel_rfl) rfl rfl ap0 (by kernel_rfl) (by kernel_rfl) ?_
        have H_83 := Option.some.inj (show some (r_46.1, r_46.2) = some r from H_82); subst H_83
        refine VL_ret ?_
        exact P_to [(4, .c (.imm (.slice (.int .i64)) r_46.1)), (5, .c (.val (.int .i64 r_46.2)))] [(0, .row (.int .i64) a_1), (1, .row (.int .i64) b_2)] [] hn (by kernel_rfl) (by kernel_rfl) rfl rfl rfl (QF_retS (by kernel_rfl) (by kernel_rfl) rfl)

theorem algebra_Shrink_1_gggb_de246_spec (K : Nat) (n_1 : Int) (x_2 : Int) (y_3 : Int) (r : (List (Int × Int))) (H : algebra_Shrink_1_gggb_de246 K n_1 x_2 y_3 = some r) : Spec Try.prog 48 1 [.c (.val (.int .i64 n_1)), .c (.val (.int .i64 x_2)), .c (.val (.int .i64 y_3)), .c (.h 0)] [(0, .box [.val (.slice none 0 0)])] (.tup []) [(0, .box [.h 3]), (3, .row (.pair (.int .i64) (.int .i64)) r)] := by
  refine Spec_mk (fn := Try.f48) (c := (Try.f48.body).get!) Try.func48 (by kernel_rfl) rfl ?_
  intro C hN hn
  replace hN : C.N = 15 := hN
  unfold algebra_Shrink_1_gggb_de246 at H
  refine V_run hN hn 2 1 [0, 1, 3, 8] [0] ⟨[(0, .c (.val (.int .i64 n_1))), (1, .c (.val (.int .i64 x_2))), (3, .c (.h 0)), (8, .c (.val (.bool (y_3 == (0 : Int)))))], [(0, .box [.val (.slice none 0 0)])], 1⟩ [] (by kernel_rfl) rfl rfl ap0 ?_
  refine VL_cond ((y_3 == (0 : Int))) (by kernel_rfl) ?_ ?_
  · intro b_5; have H_9 := of_t H b_5
    obtain ⟨c_6, H_11⟩ := of_if H_9
    refine V_run hN hn 1 1 [] [0, 2] ⟨[], [(0, .box [.h 2]), (2, .row (.pair (.int .i64) (.int .i64)) ([(n_1, x_2)] : List (Int × Int)))], 3⟩ [List.length ([(n_1, x_2)] : List (Int × Int)) * 16 ≤ 140737488355328] (by kernel_rfl) rfl rfl (ap1 c_6) ?_
    have H_12 := Option.some.inj (show some ([(n_1, x_2)] : List (Int × Int)) = some r from H_11); subst H_12
    refine VL_nil ?_
    exact P_to [] [(0, .box [.h 3]), (3, .row (.pair (.int .i64) (.int .i64)) ([(n_1, x_2)] : List (Int × Int)))] [(3, 2)] hn (by kernel_rfl) (by kernel_rfl) rfl rfl rfl (QF_endS (by kernel_rfl) (by kernel_rfl) rfl)
  · intro b_5; have H_10 := of_f H b_5
    refine V_run hN hn 1 1 [0, 1, 3, 8] [0] ⟨[(0, .c (.val (.int .i64 n_1))), (1, .c (.val (.int .i64 x_2))), (3, .c (.h 0)), (8, .c (.val (.bool (y_3 == (0 : Int)))))], [(0, .box [.val (.slice none 0 0)])], 1⟩ [] (by kernel_rfl) rfl rfl ap0 ?_
    have H_13 := Option.some.inj (show some ([] : List (Int × Int)) = some r from H_10); subst H_13
    refine VL_nil ?_
    refine P_ghost [.nilCell 0 0 (.pair (.int .i64) (.int .i64))] 1 hn [] [0, 1] ⟨[], [(0, .box [.h 1]), (1, .row (.pair (.int .i64) (.int .i64)) ([] : List (Int × Int)))], 2⟩ (by kernel_rfl) rfl rfl ?_
    exact P_to [] [(0, .box [.h 3]), (3, .row (.pair (.int .i64) (.int .i64)) ([] : List (Int × Int)))] [(3, 1)] hn (by kernel_rfl) (by kernel_rfl) rfl rfl rfl (QF_endS (by kernel_rfl) (by kernel_rfl) rfl)

theorem algebra_Shrink_1_gggb_41c60_spec (K : Nat) (n_1 : Int) (x_2 : Int) (y_3 : Int) (p_4 : (List (Int × Int))) (r : (List (Int × Int))) (H : algebra_Shrink_1_gggb_41c60 K n_1 x_2 y_3 p_4 = some r) : Spec Try.prog 48 2 [.c (.val (.int .i64 n_1)), .c (.val (.int .i64 x_2)), .c (.val (.int .i64 y_3)), .c (.h 0)] [(0, .box [.h 1]), (1, .row (.pair (.int .i64) (.int .i64)) p_4)] (.tup []) [(0, .box [.h 4]), (4, .row (.pair (.int .i64) (.int .i64)) r)] := by
  refine Spec_mk (fn := Try.f48) (c := (Try.f48.body).get!) Try.func48 (by kernel_rfl) rfl ?_
  intro C hN hn
  replace hN : C.N = 15 := hN
  unfold algebra_Shrink_1_gggb_41c60 at H
  refine V_run hN hn 2 2 [0, 1, 3, 8] [0, 1] ⟨[(0, .c (.val (.int .i64 n_1))), (1, .c (.val (.int .i64 x_2))), (3, .c (.h 0)), (8, .c (.val (.bool (y_3 == (0 : Int)))))], [(0, .box [.h 1]), (1, .row (.pair (.int .i64) (.int .i64)) p_4)], 2⟩ [] (by kernel_rfl) rfl rfl ap0 ?_
  refine VL_cond ((y_3 == (0 : Int))) (by kernel_rfl) ?_ ?_
  · intro b_6; have H_10 := of_t H b_6
    obtain ⟨c_7, H_12⟩ := of_if H_10
    refine V_run hN hn 1 2 [] [0, 3] ⟨[], [(0, .box [.h 3]), (3, .row (.pair (.int .i64) (.int .i64)) (p_4 ++ ([(n_1, x_2)] : List (Int × Int))))], 4⟩ [(List.length p_4 + List.length ([(n_1, x_2)] : List (Int × Int))) * 16 ≤ 140737488355328] (by kernel_rfl) rfl rfl (ap1 c_7) ?_
    have H_13 := Option.some.inj (show some (p_4 ++ ([(n_1, x_2)] : List (Int × Int))) = some r from H_12); subst H_13
    refine VL_nil ?_
    exact P_to [] [(0, .box [.h 4]), (4, .row (.pair (.int .i64) (.int .i64)) (p_4 ++ ([(n_1, x_2)] : List (Int × Int))))] [(4, 3)] hn (by kernel_rfl) (by kernel_rfl) rfl rfl rfl (QF_endS (by kernel_rfl) (by kernel_rfl) rfl)
  · intro b_6; have H_11 := of_f H b_6
    refine V_run hN hn 1 2 [0, 1, 3, 8] [0, 1] ⟨[(0, .c (.val (.int .i64 n_1))), (1, .c (.val (.int .i64 x_2))), (3, .c (.h 0)), (8, .c (.val (.bool (y_3 == (0 : Int)))))], [(0, .box [.h 1]), (1, .row (.pair (.int .i64) (.int .i64)) p_4)], 2⟩ [] (by kernel_rfl) rfl rfl ap0 ?_
    have H_14 := Option.some.inj (show some p_4 = some r from H_11); subst H_14
    refine VL_nil ?_
    exact P_to [] [(0, .box [.h 4]), (4, .row (.pair (.int .i64) (.int .i64)) p_4)] [(4, 1)] hn (by kernel_rfl) (by kernel_rfl) rfl rfl rfl (QF_endS (by kernel_rfl) (by kernel_rfl) rfl)

theorem algebra_both_ggcalgebraShrink1_1c107_spec (K : Nat) (a_1 : (Option ((List (Int × Int)) × Int))) (b_2 : (Option ((List (Int × Int)) × Int))) (r : (Int × (List (Int × Int)))) (H : algebra_both_ggcalgebraShrink1_1c107 K a_1 b_2 = some r) : Spec Try.prog 47 1 [.c (.imm (.opt (.pair (.slice (.pair (.int .i64) (.int .i64))) (.int .i64))) a_1), .c (.imm (.opt (.pair (.slice (.pair (.int .i64) (.int .i64))) (.int .i64))) b_2), .c (.clo 48 [0])] [(0, .box [.val (.slice none 0 0)])] (.c (.val (.int .i64 r.1))) [(0, .box [.h 8]), (8, .row (.pair (.int .i64) (.int .i64)) r.2)] := by
  refine Spec_mk (fn := Try.f47) (c := (Try.f47.body).get!) Try.func47 (by kernel_rfl) rfl ?_
  intro C hN hn
  replace hN : C.N = 53 := hN
  unfold algebra_both_ggcalgebraShrink1_1c107 at H
  refine V_run hN hn 4 1 [0, 1, 2] [0] ⟨[(0, .c (.imm (.opt (.pair (.slice (.pair (.int .i64) (.int .i64))) (.int .i64))) a_1)), (1, .c (.imm (.opt (.pair (.slice (.pair (.int .i64) (.int .i64))) (.int .i64))) b_2)), (2, .c (.clo 48 [0]))], [(0, .box [.val (.slice none 0 0)])], 1⟩ [] (by kernel_rfl) rfl rfl ap0 ?_
  obtain ⟨r_4, h_5, H_65⟩ := of_bind H
  obtain ⟨r_6, h_7, H_66⟩ := of_bind H_65
  refine V_reg hN hn [(1, ⟨35, 0, [.c (.imm (.opt (.pair (.slice (.pair (.int .i64) (.int .i64))) (.int .i64))) a_1)], [], .c (.val (.int .i64 r_4)), [], [], 1⟩), (3, ⟨35, 0, [.c (.imm (.opt (.pair (.slice (.pair (.int .i64) (.int .i64))) (.int .i64))) b_2)], [], .c (.val (.int .i64 r_6)), [], [], 1⟩)] [] (calls_cons (algebra_size_spec K a_1 r_4 h_5) (by kernel_rfl) (calls_cons (algebra_size_spec K b_2 r_6 h_7) (by kernel_rfl) calls_nil)) 1 [0, 1, 2, 14] [0] ⟨[(0, .c (.imm (.opt (.pair (.slice (.pair (.int .i64) (.int .i64))) (.int .i64))) a_1)), (1, .c (.imm (.opt (.pair (.slice (.pair (.int .i64) (.int .i64))) (.int .i64))) b_2)), (2, .c (.clo 48 [0])), (14, .c (.val (.bool (r_4 != r_6))))], [(0, .box [.val (.slice none 0 0)])], 1⟩ [] (by kernel_rfl) rfl rfl ap0 (by kernel_rfl) (by kernel_rfl) ?_
  refine VL_cond ((r_4 != r_6)) (by kernel_rfl) ?_ ?_
  · intro b_9; have H_67 := of_t H_66 b_9
    refine V_run hN hn 2 1 [6] [0] ⟨[(6, .c (.val (.int .i64 (80 : Int))))], [(0, .box [.val (.slice none 0 0)])], 1⟩ [] (by kernel_rfl) rfl rfl ap0 ?_
    have H_69 := Option.some.inj (show some ((80 : Int), ([] : List (Int × Int))) = some r from H_67); subst H_69
    refine VL_ret ?_
    refine P_ghost [.nilCell 0 0 (.pair (.int .i64) (.int .i64))] 1 hn [6] [0, 1] ⟨[(6, .c (.val (.int .i64 (80 : Int))))], [(0, .box [.h 1]), (1, .row (.pair (.int .i64) (.int .i64)) ([] : List (Int × Int)))], 2⟩ (by kernel_rfl) rfl rfl ?_
    exact P_to [(6, .c (.val (.int .i64 (80 : Int))))] [(0, .box [.h 8]), (8, .row (.pair (.int .i64) (.int .i64)) ([] : List (Int × Int)))] [(8, 1)] hn (by kernel_rfl) (by kernel_rfl) rfl rfl rfl (QF_retS (by kernel_rfl) (by kernel_rfl) rfl)
  · intro b_9; have H_68 := of_f H_66 b_9
    refine V_run hN hn 2 1 [0, 1, 2, 14] [0] ⟨[(0, .c (.imm (.opt (.pair (.slice (.pair (.int .i64) (.int .i64))) (.int .i64))) a_1)), (1, .c (.imm (.opt (.pair (.slice (.pair (.int .i64) (.int .i64))) (.int .i64))) b_2)), (2, .c (.clo 48 [0])), (14, .c (.val (.bool (r_4 != r_6))))], [(0, .box [.val (.slice none 0 0)])], 1⟩ [] (by kernel_rfl) rfl rfl ap0 ?_
    obtain ⟨r_12, h_13, H_70⟩ := of_bind H_68
    obtain ⟨r_14, h_15, H_71⟩ := of_bind H_70
    refine V_reg hN hn [(1, ⟨36, 0, [.c (.imm (.opt (.pair (.slice (.pair (.int .i64) (.int .i64))) (.int .i64))) a_1)], [], .c (.h 2), [(2, .row (.pair (.int .i64) (.int .i64)) r_12)], [(2, 1)], 2⟩), (3, ⟨36, 0, [.c (.imm (.opt (.pair (.slice (.pair (.int .i64) (.int .i64))) (.int .i64))) b_2)], [], .c (.h 2), [(2, .row (.pair (.int .i64) (.int .i64)) r_14)], [(2, 2)], 3⟩)] [] (calls_cons (algebra_segs_spec K a_1 r_12 h_13) (by kernel_rfl) (calls_cons (algebra_segs_spec K b_2 r_14 h_15) (by kernel_rfl) calls_nil)) 1 [2, 7, 8] [0, 1, 2] ⟨[(2, .c (.clo 48 [0])), (7, .c (.h 1)), (8, .c (.h 2))], [(0, .box [.val (.slice none 0 0)]), (1, .row (.pair (.int .i64) (.int .i64)) r_12), (2, .row (.pair (.int .i64) (.int .i64)) r_14)], 3⟩ [] (by kernel_rfl) rfl rfl ap0 (by kernel_rfl) (by kernel_rfl) ?_
    refine V_run hN hn 1 3 [2, 7, 8] [0, 1, 2] ⟨[(2, .c (.clo 48 [0])), (7, .c (.h 1)), (8, .c (.h 2))], [(0, .box [.val (.slice none 0 0)]), (1, .row (.pair (.int .i64) (.int .i64)) r_12), (2, .row (.pair (.int .i64) (.int .i64)) r_14)], 3⟩ [] (by kernel_rfl) rfl rfl ap0 ?_
    refine VL_block ?_
    refine V_ghost [.nilCell 0 0 (.pair (.int .i64) (.int .i64))] 3 hn [2, 7, 8] [0, 1, 2, 3] ⟨[(2, .c (.clo 48 [0])), (7, .c (.h 1)), (8, .c (.h 2))], [(0, .box [.h 3]), (1, .row (.pair (.int .i64) (.int .i64)) r_12), (2, .row (.pair (.int .i64) (.int .i64)) r_14), (3, .row (.pair (.int .i64) (.int .i64)) ([] : List (Int × Int)))], 4⟩ (by kernel_rfl) rfl rfl ?_
    refine V_to [(2, .c (.clo 48 [0])), (7, .c (.h 6)), (8, .c (.h 7))] [(0, .box [.h 3]), (3, .row (.pair (.int .i64) (.int .i64)) ([] : List (Int × Int))), (6, .row (.pair (.int .i64) (.int .i64)) r_12), (7, .row (.pair (.int .i64) (.int .i64)) r_14)] [(3, 3), (6, 1), (7, 2)] hn (by kernel_rfl) (by kernel_rfl) rfl rfl rfl ?_
    refine VL_loop (X := ((List (Int × Int)) × (List (Int × Int)) × (List (Int × Int)))) (fun x => [(2, .c (.clo 48 [0])), (7, .c (.h 6)), (8, .c (.h 7))]) (fun x => [(0, .box [.h 3]), (3, .row (.pair (.int .i64) (.int .i64)) x.1), (6, .row (.pair (.int .i64) (.int .i64)) x.2.1), (7, .row (.pair (.int .i64) (.int .i64)) x.2.2)]) (fun k x => algebra_both_ggcalgebraShrink1_1c107.l0 K k x.1 x.2.1 x.2.2 = some r) K (([] : List (Int × Int)), r_12, r_14) H_71 (fun _ h => no_none h) ?_
    intro k_41 x_41 H_72
    obtain ⟨x_38, p_39, q_40⟩ := x_41
    have H_73 : algebra_both_ggcalgebraShrink1_1c107.l0 K (k_41 + 1) x_38 p_39 q_40 = some r := H_72
    rw [algebra_both_ggcalgebraShrink1_1c107.l0] at H_73
    refine V_run hN hn 2 8 [2, 7, 8] [0, 3, 6, 7] ⟨[(2, .c (.clo 48 [0])), (7, .c (.h 6)), (8, .c (.h 7))], [(0, .box [.h 3]), (3, .row (.pair (.int .i64) (.int .i64)) x_38), (6, .row (.pair (.int .i64) (.int .i64)) p_39), (7, .row (.pair (.int .i64) (.int .i64)) q_40)], 8⟩ [] (by kernel_rfl) rfl rfl ap0 ?_
    obtain ⟨q_74, H_75, H_76⟩ := of_bind H_73
    refine V_cut (Y := Bool) (R := Bool) q_74 (fun y => y) (fun y => [(2, .c (.clo 48 [0])), (7, .c (.h 6)), (8, .c (.h 7)), (26, .c (.val (.bool y)))]) (fun y => [(0, .box [.h 3]), (3, .row (.pair (.int .i64) (.int .i64)) x_38), (6, .row (.pair (.int .i64) (.int .i64)) p_39), (7, .row (.pair (.int .i64) (.int .i64)) q_40)]) ?_ ?_
    · skip
      rcases Bool.eq_false_or_eq_true ((decide ((((List.length p_39) : Nat) : Int) > (0 : Int)))) with b_43 | b_43
      · have H_78 := of_t H_75 b_43
        refine V_reg hN hn [] [(22, true)] calls_nil 8 [2, 7, 8, 26] [0, 3, 6, 7] ⟨[(2, .c (.clo 48 [0])), (7, .c (.h 6)), (8, .c (.h 7)), (26, .c (.val (.bool (decide ((((List.length q_40) : Nat) : Int) > (0 : Int))))))], [(0, .box [.h 3]), (3, .row (.pair (.int .i64) (.int .i64)) x_38), (6, .row (.pair (.int .i64) (.int .i64)) p_39), (7, .row (.pair (.int .i64) (.int .i64)) q_40)], 8⟩ [(decide ((((List.length p_39) : Nat) : Int) > (0 : Int))) = true] (by kernel_rfl) rfl rfl (ap1 b_43) (by kernel_rfl) (by kernel_rfl) ?_
        have H_80 := Option.some.inj (show some (decide ((((List.length q_40) : Nat) : Int) > (0 : Int))) = some q_74 from H_78); subst H_80
        refine VL_nil ?_
        exact QP_end (decide ((((List.length q_40) : Nat) : Int) > (0 : Int))) rfl [(3, 3), (6, 6), (7, 7)] hn (by kernel_rfl) (by kernel_rfl) rfl rfl rfl
      · have H_79 := of_f H_75 b_43
        refine V_reg hN hn [] [(22, false)] calls_nil 8 [2, 7, 8, 26] [0, 3, 6, 7] ⟨[(2, .c (.clo 48 [0])), (7, .c (.h 6)), (8, .c (.h 7)), (26, .c (.val (.bool false)))], [(0, .box [.h 3]), (3, .row (.pair (.int .i64) (.int .i64)) x_38), (6, .row (.pair (.int .i64) (.int .i64)) p_39), (7, .row (.pair (.int .i64) (.int .i64)) q_40)], 8⟩ [(decide ((((List.length p_39) : Nat) : Int) > (0 : Int))) = false] (by kernel_rfl) rfl rfl (ap1 b_43) (by kernel_rfl) (by kernel_rfl) ?_
        have H_81 := Option.some.inj (show some false = some q_74 from H_79); subst H_81
        refine VL_nil ?_
        exact QP_end false rfl [(3, 3), (6, 6), (7, 7)] hn (by kernel_rfl) (by kernel_rfl) rfl rfl rfl
    · intro y_77 hy; subst hy
      skip
      skip
      refine VL_cond (y_77) (by kernel_rfl) ?_ ?_
      · intro b_47; have H_82 := of_t H_76 b_47
        refine V_run hN hn 1 8 [2, 7, 8, 26] [0, 3, 6, 7] ⟨[(2, .c (.clo 48 [0])), (7, .c (.h 6)), (8, .c (.h 7)), (26, .c (.val (.bool y_77)))], [(0, .box [.h 3]), (3, .row (.pair (.int .i64) (.int .i64)) x_38), (6, .row (.pair (.int .i64) (.int .i64)) p_39), (7, .row (.pair (.int .i64) (.int .i64)) q_40)], 8⟩ [] (by kernel_rfl) rfl rfl ap0 ?_
        refine VL_block ?_
        refine V_run hN hn 1 8 [2, 7, 8, 26] [0, 3, 6, 7] ⟨[(2, .c (.clo 48 [0])), (7, .c (.h 6)), (8, .c (.h 7)), (26, .c (.val (.bool y_77)))], [(0, .box [.h 3]), (3, .row (.pair (.int .i64) (.int .i64)) x_38), (6, .row (.pair (.int .i64) (.int .i64)) p_39), (7, .row (.pair (.int .i64) (.int .i64)) q_40)], 8⟩ [] (by kernel_rfl) rfl rfl ap0 ?_
        obtain ⟨c_50, H_84⟩ := of_if H_82
        refine V_draw hN hn (by kernel_rfl) [] [] calls_nil 8 [2, 7, 8, 9] [0, 3, 6, 7] ⟨[(2, .c (.clo 48 [0])), (7, .c (.h 6)), (8, .c (.h 7)), (9, .c (.val (.int .i64 (mn2 (List.getD p_39 0 ((0 : Int), (0 : Int))).1 (List.getD q_40 0 ((0 : Int), (0 : Int))).1))))], [(0, .box [.h 3]), (3, .row (.pair (.int .i64) (.int .i64)) x_38), (6, .row (.pair (.int .i64) (.int .i64)) p_39), (7, .row (.pair (.int .i64) (.int .i64)) q_40)], 8⟩ [(0 : Int) ≤ (0 : Int), (0 : Int) < (((List.length p_39) : Nat) : Int), (0 : Int) ≤ (0 : Int), (0 : Int) < (((List.length q_40) : Nat) : Int)] (by kernel_rfl) rfl rfl (ap2 (by decide) (ap2 c_50.1 (ap2 (by decide) (ap1 c_50.2)))) (by kernel_rfl) (by kernel_rfl) ?_
        refine V_run hN hn 1 8 [2, 7, 8, 9] [0, 3, 6, 7] ⟨[(2, .c (.clo 48 [0])), (7, .c (.h 6)), (8, .c (.h 7)), (9, .c (.val (.int .i64 (mn2 (List.getD p_39 0 ((0 : Int), (0 : Int))).1 (List.getD q_40 0 ((0 : Int), (0 : Int))).1))))], [(0, .box [.h 3]), (3, .row (.pair (.int .i64) (.int .i64)) x_38), (6, .row (.pair (.int .i64) (.int .i64)) p_39), (7, .row (.pair (.int .i64) (.int .i64)) q_40)], 8⟩ [] (by kernel_rfl) rfl rfl ap0 ?_
        obtain ⟨r_52, h_53, H_85⟩ := of_bind H_84
        refine V_draw hN hn (by kernel_rfl) [(10, ⟨48, 2, [.c (.val (.int .i64 (mn2 (List.getD p_39 0 ((0 : Int), (0 : Int))).1 (List.getD q_40 0 ((0 : Int), (0 : Int))).1))), .c (.val (.int .i64 (List.getD p_39 0 ((0 : Int), (0 : Int))).2)), .c (.val (.int .i64 (List.getD q_40 0 ((0 : Int), (0 : Int))).2)), .c (.h 0)], [(0, .box [.h 1]), (1, .row (.pair (.int .i64) (.int .i64)) x_38)], .tup [], [(0, .box [.h 4]), (4, .row (.pair (.int .i64) (.int .i64)) r_52)], [(0, 0), (1, 3), (4, 8)], 9⟩)] [] (calls_cons (algebra_Shrink_1_gggb_41c60_spec K (mn2 (List.getD p_39 0 ((0 : Int), (0 : Int))).1 (List.getD q_40 0 ((0 : Int), (0 : Int))).1) (List.getD p_39 0 ((0 : Int), (0 : Int))).2 (List.getD q_40 0 ((0 : Int), (0 : Int))).2 x_38 r_52 h_53) (by kernel_rfl) calls_nil) 8 [2, 7, 8, 9] [0, 6, 7, 8] ⟨[(2, .c (.clo 48 [0])), (7, .c (.h 6)), (8, .c (.h 7)), (9, .c (.val (.int .i64 (mn2 (List.getD p_39 0 ((0 : Int), (0 : Int))).1 (List.getD q_40 0 ((0 : Int), (0 : Int))).1))))], [(0, .box [.h 8]), (6, .row (.pair (.int .i64) (.int .i64)) p_39), (7, .row (.pair (.int .i64) (.int .i64)) q_40), (8, .row (.pair (.int .i64) (.int .i64)) r_52)], 9⟩ [(0 : Int) ≤ (0 : Int), (0 : Int) < (((List.length p_39) : Nat) : Int), (0 : Int) ≤ (0 : Int), (0 : Int) < (((List.length q_40) : Nat) : Int)] (by kernel_rfl) rfl rfl (ap2 (by decide) (ap2 c_50.1 (ap2 (by decide) (ap1 c_50.2)))) (by kernel_rfl) (by kernel_rfl) ?_
        obtain ⟨r_55, h_56, H_86⟩ := of_bind H_85
        obtain ⟨r_57, h_58, H_87⟩ := of_bind H_86
        refine V_reg hN hn [(2, ⟨45, 1, [.c (.h 0), .c (.val (.int .i64 (mn2 (List.getD p_39 0 ((0 : Int), (0 : Int))).1 (List.getD q_40 0 ((0 : Int), (0 : Int))).1)))], [(0, .row (.pair (.int .i64) (.int .i64)) p_39)], .c (.h 2), [(2, .row (.pair (.int .i64) (.int .i64)) r_55)], [(0, 6), (2, 9)], 10⟩), (5, ⟨45, 1, [.c (.h 0), .c (.val (.int .i64 (mn2 (List.getD p_39 0 ((0 : Int), (0 : Int))).1 (List.getD q_40 0 ((0 : Int), (0 : Int))).1)))], [(0, .row (.pair (.int .i64) (.int .i64)) q_40)], .c (.h 2), [(2, .row (.pair (.int .i64) (.int .i64)) r_57)], [(0, 7), (2, 10)], 11⟩)] [] (calls_cons (algebra_less_rg_spec K p_39 (mn2 (List.getD p_39 0 ((0 : Int), (0 : Int))).1 (List.getD q_40 0 ((0 : Int), (0 : Int))).1) r_55 h_56) (by kernel_rfl) (calls_cons (algebra_less_rg_spec K q_40 (mn2 (List.getD p_39 0 ((0 : Int), (0 : Int))).1 (List.getD q_40 0 ((0 : Int), (0 : Int))).1) r_57 h_58) (by kernel_rfl) calls_nil)) 9 [2, 7, 8] [0, 8, 9, 10] ⟨[(2, .c (.clo 48 [0])), (7, .c (.h 9)), (8, .c (.h 10))], [(0, .box [.h 8]), (8, .row (.pair (.int .i64) (.int .i64)) r_52), (9, .row (.pair (.int .i64) (.int .i64)) r_55), (10, .row (.pair (.int .i64) (.int .i64)) r_57)], 11⟩ [] (by kernel_rfl) rfl rfl ap0 (by kernel_rfl) (by kernel_rfl) ?_
        refine VL_nil (QB_end ?_)
        refine VL_nil ?_
        exact V_roundEnd (r_52, r_55, r_57) H_87 [(3, 8), (6, 9), (7, 10)] hn (by kernel_rfl) (by kernel_rfl) rfl rfl rfl
      · intro b_47; have H_83 := of_f H_76 b_47
        refine VL_exit ?_
        refine QL_exit ?_
        refine QB_here ?_
        refine V_run hN hn 2 8 [6] [0, 3] ⟨[(6, .c (.val (.int .i64 (0 : Int))))], [(0, .box [.h 3]), (3, .row (.pair (.int .i64) (.int .i64)) x_38)], 8⟩ [] (by kernel_rfl) rfl rfl ap0 ?_
        have H_88 := Option.some.inj (show some ((0 : Int), x_38) = some r from H_83); subst H_88
        refine VL_ret ?_
        exact P_to [(6, .c (.val (.int .i64 (0 : Int))))] [(0, .box [.h 8]), (8, .row (.pair (.int .i64) (.int .i64)) x_38)] [(8, 3)] hn (by kernel_rfl) (by kernel_rfl) rfl rfl rfl (QF_retS (by kernel_rfl) (by kernel_rfl) rfl)

theorem algebra_Shrink_spec (K : Nat) (a_1 : (Option ((List (Int × Int)) × Int))) (b_2 : (Option ((List (Int × Int)) × Int))) (r : ((Option ((List (Int × Int)) × Int)) × Int)) (H : algebra_Shrink K a_1 b_2 = some r) : Spec Try.prog 23 0 [.c (.imm (.opt (.pair (.slice (.pair (.int .i64) (.int .i64))) (.int .i64))) a_1), .c (.imm (.opt (.pair (.slice (.pair (.int .i64) (.int .i64))) (.int .i64))) b_2)] [] (.tup [(false, [.imm (.opt (.pair (.slice (.pair (.int .i64) (.int .i64))) (.int .i64))) r.1]), (false, [.val (.int .i64 r.2)])]) [] := by
  refine Spec_mk (fn := Try.f23) (c := (Try.f23.body).get!) Try.func23 (by kernel_rfl) rfl ?_
  intro C hN hn
  replace hN : C.N = 19 := hN
  unfold algebra_Shrink at H
  refine V_run hN hn 5 0 [0, 1, 6] [0] ⟨[(0, .c (.imm (.opt (.pair (.slice (.pair (.int .i64) (.int .i64))) (.int .i64))) a_1)), (1, .c (.imm (.opt (.pair (.slice (.pair (.int .i64) (.int .i64))) (.int .i64))) b_2)), (6, .c (.h 0))], [(0, .box [.val (.slice none 0 0)])], 1⟩ [] (by kernel_rfl) rfl rfl ap0 ?_
  obtain ⟨r_4, h_5, H_16⟩ := of_bind H
  refine V_reg hN hn [(3, ⟨47, 1, [.c (.imm (.opt (.pair (.slice (.pair (.int .i64) (.int .i64))) (.int .i64))) a_1), .c (.imm (.opt (.pair (.slice (.pair (.int .i64) (.int .i64))) (.int .i64))) b_2), .c (.clo 48 [0])], [(0, .box [.val (.slice none 0 0)])], .c (.val (.int .i64 r_4.1)), [(0, .box [.h 8]), (8, .row (.pair (.int .i64) (.int .i64)) r_4.2)], [(0, 0), (8, 1)], 2⟩)] [] (calls_cons (algebra_both_ggcalgebraShrink1_1c107_spec K a_1 b_2 r_4 h_5) (by kernel_rfl) calls_nil) 1 [6, 7] [0, 1] ⟨[(6, .c (.h 0)), (7, .c (.val (.int .i64 r_4.1)))], [(0, .box [.h 1]), (1, .row (.pair (.int .i64) (.int .i64)) r_4.2)], 2⟩ [] (by kernel_rfl) rfl rfl ap0 (by kernel_rfl) (by kernel_rfl) ?_
  refine V_run hN hn 3 2 [6, 7, 13] [0, 1] ⟨[(6, .c (.h 0)), (7, .c (.val (.int .i64 r_4.1))), (13, .c (.val (.bool (r_4.1 != (0 : Int)))))], [(0, .box [.h 1]), (1, .row (.pair (.int .i64) (.int .i64)) r_4.2)], 2⟩ [] (by kernel_rfl) rfl rfl ap0 ?_
  refine VL_cond ((r_4.1 != (0 : Int))) (by kernel_rfl) ?_ ?_
  · intro b_8; have H_17 := of_t H_16 b_8
    refine V_run hN hn 2 2 [4, 5] [] ⟨[(4, .c (.val (.pointer none))), (5, .c (.val (.int .i64 r_4.1)))], [], 2⟩ [] (by kernel_rfl) rfl rfl ap0 ?_
    have H_19 := Option.some.inj (show some ((none : (Option ((List (Int × Int)) × Int))), r_4.1) = some r from H_17); subst H_19
    refine VL_ret ?_
    refine P_ghost [.read 4 (.opt (.pair (.slice (.pair (.int .i64) (.int .i64))) (.int .i64)))] 2 hn [4, 5] [] ⟨[(4, .c (.imm (.opt (.pair (.slice (.pair (.int .i64) (.int .i64))) (.int .i64))) (none : (Option ((List (Int × Int)) × Int))))), (5, .c (.val (.int .i64 r_4.1)))], [], 2⟩ (by kernel_rfl) rfl rfl ?_
    exact P_to [(4, .c (.imm (.opt (.pair (.slice (.pair (.int .i64) (.int .i64))) (.int .i64))) (none : (Option ((List (Int × Int)) × Int))))), (5, .c (.val (.int .i64 r_4.1)))] [] [] hn (by kernel_rfl) (by kernel_rfl) rfl rfl rfl (QF_retS (by kernel_rfl) (by kernel_rfl) rfl)
  · intro b_8; have H_18 := of_f H_16 b_8
    refine V_run hN hn 2 2 [6, 7, 13] [0, 1] ⟨[(6, .c (.h 0)), (7, .c (.val (.int .i64 r_4.1))), (13, .c (.val (.bool (r_4.1 != (0 : Int)))))], [(0, .box [.h 1]), (1, .row (.pair (.int .i64) (.int .i64)) r_4.2)], 2⟩ [] (by kernel_rfl) rfl rfl ap0 ?_
    obtain ⟨r_11, h_12, H_20⟩ := of_bind H_18
    refine V_reg hN hn [(1, ⟨46, 1, [.c (.h 0)], [(0, .row (.pair (.int .i64) (.int .i64)) r_4.2)], .tup [(false, [.imm (.opt (.pair (.slice (.pair (.int .i64) (.int .i64))) (.int .i64))) r_11.1]), (false, [.val (.int .i64 r_11.2)])], [(0, .row (.pair (.int .i64) (.int .i64)) r_4.2)], [(0, 1)], 2⟩)] [] (calls_cons (subset_Pack_r_spec K r_4.2 r_11 h_12) (by kernel_rfl) calls_nil) 2 [4, 5] [] ⟨[(4, .c (.imm (.opt (.pair (.slice (.pair (.int .i64) (.int .i64))) (.int .i64))) r_11.1)), (5, .c (.val (.int .i64 r_11.2)))], [], 2⟩ [] (by kernel_rfl) rfl rfl ap0 (by kernel_rfl) (by kernel_rfl) ?_
    have H_21 := Option.some.inj (show some (r_11.1, r_11.2) = some r from H_20); subst H_21
    refine VL_ret ?_
    exact P_to [(4, .c (.imm (.opt (.pair (.slice (.pair (.int .i64) (.int .i64))) (.int .i64))) r_11.1)), (5, .c (.val (.int .i64 r_11.2)))] [] [] hn (by kernel_rfl) (by kernel_rfl) rfl rfl rfl (QF_retS (by kernel_rfl) (by kernel_rfl) rfl)

theorem palinoderef7_Shrink_rr_spec (K : Nat) (a_1 : (List Int)) (b_2 : (List Int)) (r : ((List Int) × Int)) (H : palinoderef7_Shrink_rr K a_1 b_2 = some r) : Spec Try.prog 24 2 [.c (.h 0), .c (.h 1)] [(0, .row (.int .i64) a_1), (1, .row (.int .i64) b_2)] (.tup [(false, [.imm (.slice (.int .i64)) r.1]), (false, [.val (.int .i64 r.2)])]) [(0, .row (.int .i64) a_1), (1, .row (.int .i64) b_2)] := by
  refine Spec_mk (fn := Try.f24) (c := (Try.f24.body).get!) Try.func24 (by kernel_rfl) rfl ?_
  intro C hN hn
  replace hN : C.N = 35 := hN
  unfold palinoderef7_Shrink_rr at H
  refine V_run hN hn 5 2 [0, 1, 12] [0, 1] ⟨[(0, .c (.h 0)), (1, .c (.h 1)), (12, .c (.val (.bool ((((List.length a_1) : Nat) : Int) != (((List.length b_2) : Nat) : Int)))))], [(0, .row (.int .i64) a_1), (1, .row (.int .i64) b_2)], 2⟩ [] (by kernel_rfl) rfl rfl ap0 ?_
  refine VL_cond (((((List.length a_1) : Nat) : Int) != (((List.length b_2) : Nat) : Int))) (by kernel_rfl) ?_ ?_
  · intro b_4; have H_37 := of_t H b_4
    refine V_run hN hn 2 2 [4, 5] [0, 1] ⟨[(4, .c (.val (.slice none 0 0))), (5, .c (.val (.int .i64 (80 : Int))))], [(0, .row (.int .i64) a_1), (1, .row (.int .i64) b_2)], 2⟩ [] (by kernel_rfl) rfl rfl ap0 ?_
    have H_39 := Option.some.inj (show some (([] : List Int), (80 : Int)) = some r from H_37); subst H_39
    refine VL_ret ?_
    refine P_ghost [.read 4 (.slice (.int .i64))] 2 hn [4, 5] [0, 1] ⟨[(4, .c (.imm (.slice (.int .i64)) ([] : List Int))), (5, .c (.val (.int .i64 (80 : Int))))], [(0, .row (.int .i64) a_1), (1, .row (.int .i64) b_2)], 2⟩ (by kernel_rfl) rfl rfl ?_
    exact P_to [(4, .c (.imm (.slice (.int .i64)) ([] : List Int))), (5, .c (.val (.int .i64 (80 : Int))))] [(0, .row (.int .i64) a_1), (1, .row (.int .i64) b_2)] [] hn (by kernel_rfl) (by kernel_rfl) rfl rfl rfl (QF_retS (by kernel_rfl) (by kernel_rfl) rfl)
  · intro b_4; have H_38 := of_f H b_4
    refine V_run hN hn 6 2 [0, 1, 6, 7] [0, 1] ⟨[(0, .c (.h 0)), (1, .c (.h 1)), (6, .c (.val (.slice none 0 0))), (7, .c (.val (.int .i64 (0 : Int))))], [(0, .row (.int .i64) a_1), (1, .row (.int .i64) b_2)], 2⟩ [] (by kernel_rfl) rfl rfl ap0 ?_
    obtain ⟨q_40, H_41, H_42⟩ := of_bind H_38
    refine V_cut (Y := (List Int)) (R := (List Int)) q_40 (fun y => y) (fun y => [(6, .c (.h 5))]) (fun y => [(0, .row (.int .i64) a_1), (1, .row (.int .i64) b_2), (5, .row (.int .i64) y)]) ?_ ?_
    · skip
      refine VL_block ?_
      refine V_ghost [.nilSlot 6 (.int .i64)] 2 hn [0, 1, 6, 7] [0, 1, 2] ⟨[(0, .c (.h 0)), (1, .c (.h 1)), (6, .c (.h 2)), (7, .c (.val (.int .i64 (0 : Int))))], [(0, .row (.int .i64) a_1), (1, .row (.int .i64) b_2), (2, .row (.int .i64) ([] : List Int))], 3⟩ (by kernel_rfl) rfl rfl ?_
      refine V_to [(0, .c (.h 0)), (1, .c (.h 1)), (6, .c (.h 5)), (7, .c (.val (.int .i64 (0 : Int))))] [(0, .row (.int .i64) a_1), (1, .row (.int .i64) b_2), (5, .row (.int .i64) ([] : List Int))] [(5, 2)] hn (by kernel_rfl) (by kernel_rfl) rfl rfl rfl ?_
      refine VL_loop (X := ((List Int) × Int)) (fun x => [(0, .c (.h 0)), (1, .c (.h 1)), (6, .c (.h 5)), (7, .c (.val (.int .i64 x.2)))]) (fun x => [(0, .row (.int .i64) a_1), (1, .row (.int .i64) b_2), (5, .row (.int .i64) x.1)]) (fun k x => palinoderef7_Shrink_rr.l0 K a_1 b_2 k x.1 x.2 = some q_40) K (([] : List Int), (0 : Int)) H_41 (fun _ h => no_none h) ?_
      intro k_19 x_19 H_44
      obtain ⟨out_18, i_7⟩ := x_19
      have H_45 : palinoderef7_Shrink_rr.l0 K a_1 b_2 (k_19 + 1) out_18 i_7 = some q_40 := H_44
      rw [palinoderef7_Shrink_rr.l0] at H_45
      refine V_run hN hn 3 6 [0, 1, 6, 7, 16] [0, 1, 5] ⟨[(0, .c (.h 0)), (1, .c (.h 1)), (6, .c (.h 5)), (7, .c (.val (.int .i64 i_7))), (16, .c (.val (.bool (decide (i_7 < (((List.length a_1) : Nat) : Int))))))], [(0, .row (.int .i64) a_1), (1, .row (.int .i64) b_2), (5, .row (.int .i64) out_18)], 6⟩ [] (by kernel_rfl) rfl rfl ap0 ?_
      refine VL_cond ((decide (i_7 < (((List.length a_1) : Nat) : Int)))) (by kernel_rfl) ?_ ?_
      · intro b_21; have H_46 := of_t H_45 b_21
        refine V_run hN hn 2 6 [0, 1, 6, 7, 16] [0, 1, 5] ⟨[(0, .c (.h 0)), (1, .c (.h 1)), (6, .c (.h 5)), (7, .c (.val (.int .i64 i_7))), (16, .c (.val (.bool (decide (i_7 < (((List.length a_1) : Nat) : Int))))))], [(0, .row (.int .i64) a_1), (1, .row (.int .i64) b_2), (5, .row (.int .i64) out_18)], 6⟩ [] (by kernel_rfl) rfl rfl ap0 ?_
        refine VL_block ?_
        obtain ⟨c_23, H_48⟩ := of_if H_46
        refine V_run hN hn 2 6 [0, 1, 6, 7, 23] [0, 1, 5] ⟨[(0, .c (.h 0)), (1, .c (.h 1)), (6, .c (.h 5)), (7, .c (.val (.int .i64 i_7))), (23, .c (.val (.bool ((List.getD b_2 (Int.toNat i_7) (0 : Int)) == (0 : Int)))))], [(0, .row (.int .i64) a_1), (1, .row (.int .i64) b_2), (5, .row (.int .i64) out_18)], 6⟩ [0 ≤ i_7, i_7 < (((List.length b_2) : Nat) : Int)] (by kernel_rfl) rfl rfl (ap2 c_23.1 (ap1 c_23.2)) ?_
        refine VL_cond (((List.getD b_2 (Int.toNat i_7) (0 : Int)) == (0 : Int))) (by kernel_rfl) ?_ ?_
        · intro b_24; have H_49 := of_t H_48 b_24
          obtain ⟨c_25, H_51⟩ := of_if H_49
          refine V_run hN hn 1 6 [0, 1, 6, 7] [0, 1, 7] ⟨[(0, .c (.h 0)), (1, .c (.h 1)), (6, .c (.h 7)), (7, .c (.val (.int .i64 i_7)))], [(0, .row (.int .i64) a_1), (1, .row (.int .i64) b_2), (7, .row (.int .i64) (out_18 ++ ([(List.getD a_1 (Int.toNat i_7) (0 : Int))] : List Int)))], 8⟩ [0 ≤ i_7, i_7 < (((List.length a_1) : Nat) : Int), (List.length out_18 + List.length ([(List.getD a_1 (Int.toNat i_7) (0 : Int))] : List Int)) * 8 ≤ 140737488355328] (by kernel_rfl) rfl rfl (ap2 c_23.1 (ap2 c_25.1 (ap1 c_25.2))) ?_
          refine VL_nil (QB_end ?_)
          refine V_run hN hn 1 8 [0, 1, 6, 7] [0, 1, 7] ⟨[(0, .c (.h 0)), (1, .c (.h 1)), (6, .c (.h 7)), (7, .c (.val (.int .i64 (IntKind.wrap .i64 (i_7 + (1 : Int))))))], [(0, .row (.int .i64) a_1), (1, .row (.int .i64) b_2), (7, .row (.int .i64) (out_18 ++ ([(List.getD a_1 (Int.toNat i_7) (0 : Int))] : List Int)))], 8⟩ [] (by kernel_rfl) rfl rfl ap0 ?_
          refine VL_nil ?_
          exact V_roundEnd ((out_18 ++ ([(List.getD a_1 (Int.toNat i_7) (0 : Int))] : List Int)), (IntKind.wrap .i64 (i_7 + (1 : Int)))) H_51 [(5, 7)] hn (by kernel_rfl) (by kernel_rfl) rfl rfl rfl
        · intro b_24; have H_50 := of_f H_48 b_24
          refine V_run hN hn 1 6 [0, 1, 6, 7, 23] [0, 1, 5] ⟨[(0, .c (.h 0)), (1, .c (.h 1)), (6, .c (.h 5)), (7, .c (.val (.int .i64 i_7))), (23, .c (.val (.bool ((List.getD b_2 (Int.toNat i_7) (0 : Int)) == (0 : Int)))))], [(0, .row (.int .i64) a_1), (1, .row (.int .i64) b_2), (5, .row (.int .i64) out_18)], 6⟩ [] (by kernel_rfl) rfl rfl ap0 ?_
          refine VL_nil (QB_end ?_)
          refine V_run hN hn 1 6 [0, 1, 6, 7] [0, 1, 5] ⟨[(0, .c (.h 0)), (1, .c (.h 1)), (6, .c (.h 5)), (7, .c (.val (.int .i64 (IntKind.wrap .i64 (i_7 + (1 : Int))))))], [(0, .row (.int .i64) a_1), (1, .row (.int .i64) b_2), (5, .row (.int .i64) out_18)], 6⟩ [] (by kernel_rfl) rfl rfl ap0 ?_
          refine VL_nil ?_
          exact V_roundEnd (out_18, (IntKind.wrap .i64 (i_7 + (1 : Int)))) H_50 [(5, 5)] hn (by kernel_rfl) (by kernel_rfl) rfl rfl rfl
      · intro b_21; have H_47 := of_f H_45 b_21
        refine VL_exit ?_
        refine QL_exit ?_
        refine QB_here ?_
        have H_52 := Option.some.inj (show some out_18 = some q_40 from H_47); subst H_52
        refine VL_nil ?_
        exact QP_end out_18 rfl [(5, 5)] hn (by kernel_rfl) (by kernel_rfl) rfl rfl rfl
    · intro y_43 hy; subst hy
      skip
      skip
      refine V_run hN hn 1 6 [6] [0, 1, 5] ⟨[(6, .c (.h 5))], [(0, .row (.int .i64) a_1), (1, .row (.int .i64) b_2), (5, .row (.int .i64) y_43)], 6⟩ [] (by kernel_rfl) rfl rfl ap0 ?_
      refine V_ghost [.shut 5] 6 hn [6] [0, 1] ⟨[(6, .c (.imm (.slice (.int .i64)) y_43))], [(0, .row (.int .i64) a_1), (1, .row (.int .i64) b_2)], 6⟩ (by kernel_rfl) rfl rfl ?_
      obtain ⟨r_31, h_32, H_53⟩ := of_bind H_42
      refine V_reg hN hn [(1, ⟨41, 0, [.c (.imm (.slice (.int .i64)) y_43)], [], .tup [(false, [.imm (.slice (.int .i64)) r_31.1]), (false, [.val (.int .i64 r_31.2)])], [], [], 6⟩)] [] (calls_cons (palinoderef7_Told_spec K y_43 r_31 h_32) (by kernel_rfl) calls_nil) 6 [4, 5] [0, 1] ⟨[(4, .c (.imm (.slice (.int .i64)) r_31.1)), (5, .c (.val (.int .i64 r_31.2)))], [(0, .row (.int .i64) a_1), (1, .row (.int .i64) b_2)], 6⟩ [] (by kernel_rfl) rfl rfl ap0 (by kernel_rfl) (by kernel_rfl) ?_
      have H_54 := Option.some.inj (show some (r_31.1, r_31.2) = some r from H_53); subst H_54
      refine VL_ret ?_
      exact P_to [(4, .c (.imm (.slice (.int .i64)) r_31.1)), (5, .c (.val (.int .i64 r_31.2)))] [(0, .row (.int .i64) a_1), (1, .row (.int .i64) b_2)] [] hn (by kernel_rfl) (by kernel_rfl) rfl rfl rfl (QF_retS (by kernel_rfl) (by kernel_rfl) rfl)

theorem palinoderef7_Delete_rg_spec (K : Nat) (a_1 : (List Int)) (s_2 : ByteArray) (r : (ByteArray × Bool)) (H : palinoderef7_Delete_rg K a_1 s_2 = some r) : Spec Try.prog 25 1 [.c (.h 0), .c (.val (.string s_2))] [(0, .row (.int .i64) a_1)] (.tup [(false, [.val (.string r.1)]), (false, [.val (.bool r.2)])]) [(0, .row (.int .i64) a_1)] := by
  refine Spec_mk (fn := Try.f25) (c := (Try.f25.body).get!) Try.func25 (by kernel_rfl) rfl ?_
  intro C hN hn
  replace hN : C.N = 32 := hN
  unfold palinoderef7_Delete_rg at H
  refine V_run hN hn 5 1 [0, 1, 12] [0] ⟨[(0, .c (.h 0)), (1, .c (.val (.string s_2))), (12, .c (.val (.bool ((((List.length a_1) : Nat) : Int) != (((ByteArray.size s_2) : Nat) : Int)))))], [(0, .row (.int .i64) a_1)], 1⟩ [] (by kernel_rfl) rfl rfl ap0 ?_
  refine VL_cond (((((List.length a_1) : Nat) : Int) != (((ByteArray.size s_2) : Nat) : Int))) (by kernel_rfl) ?_ ?_
  · intro b_4; have H_33 := of_t H b_4
    refine V_run hN hn 2 1 [4, 5] [0] ⟨[(4, .c (.val (.string (ByteArray.mk #[])))), (5, .c (.val (.bool false)))], [(0, .row (.int .i64) a_1)], 1⟩ [] (by kernel_rfl) rfl rfl ap0 ?_
    have H_35 := Option.some.inj (show some ((ByteArray.mk #[]), false) = some r from H_33); subst H_35
    refine VL_ret ?_
    exact P_to [(4, .c (.val (.string (ByteArray.mk #[])))), (5, .c (.val (.bool false)))] [(0, .row (.int .i64) a_1)] [] hn (by kernel_rfl) (by kernel_rfl) rfl rfl rfl (QF_retS (by kernel_rfl) (by kernel_rfl) rfl)
  · intro b_4; have H_34 := of_f H b_4
    refine V_run hN hn 6 1 [0, 1, 6, 7] [0] ⟨[(0, .c (.h 0)), (1, .c (.val (.string s_2))), (6, .c (.val (.slice none 0 0))), (7, .c (.val (.int .i64 (0 : Int))))], [(0, .row (.int .i64) a_1)], 1⟩ [] (by kernel_rfl) rfl rfl ap0 ?_
    refine VL_block ?_
    refine V_ghost [.nilSlot 6 (.int .u8)] 1 hn [0, 1, 6, 7] [0, 1] ⟨[(0, .c (.h 0)), (1, .c (.val (.string s_2))), (6, .c (.h 1)), (7, .c (.val (.int .i64 (0 : Int))))], [(0, .row (.int .i64) a_1), (1, .row (.int .u8) ([] : List Int))], 2⟩ (by kernel_rfl) rfl rfl ?_
    refine V_to [(0, .c (.h 0)), (1, .c (.val (.string s_2))), (6, .c (.h 4)), (7, .c (.val (.int .i64 (0 : Int))))] [(0, .row (.int .i64) a_1), (4, .row (.int .u8) ([] : List Int))] [(4, 1)] hn (by kernel_rfl) (by kernel_rfl) rfl rfl rfl ?_
    refine VL_loop (X := ((List Int) × Int)) (fun x => [(0, .c (.h 0)), (1, .c (.val (.string s_2))), (6, .c (.h 4)), (7, .c (.val (.int .i64 x.2)))]) (fun x => [(0, .row (.int .i64) a_1), (4, .row (.int .u8) x.1)]) (fun k x => palinoderef7_Delete_rg.l0 K a_1 s_2 k x.1 x.2 = some r) K (([] : List Int), (0 : Int)) H_34 (fun _ h => no_none h) ?_
    intro k_20 x_20 H_36
    obtain ⟨b_19, i_7⟩ := x_20
    have H_37 : palinoderef7_Delete_rg.l0 K a_1 s_2 (k_20 + 1) b_19 i_7 = some r := H_36
    rw [palinoderef7_Delete_rg.l0] at H_37
    refine V_run hN hn 3 5 [0, 1, 6, 7, 16] [0, 4] ⟨[(0, .c (.h 0)), (1, .c (.val (.string s_2))), (6, .c (.h 4)), (7, .c (.val (.int .i64 i_7))), (16, .c (.val (.bool (decide (i_7 < (((List.length a_1) : Nat) : Int))))))], [(0, .row (.int .i64) a_1), (4, .row (.int .u8) b_19)], 5⟩ [] (by kernel_rfl) rfl rfl ap0 ?_
    refine VL_cond ((decide (i_7 < (((List.length a_1) : Nat) : Int)))) (by kernel_rfl) ?_ ?_
    · intro b_22; have H_38 := of_t H_37 b_22
      refine V_run hN hn 2 5 [0, 1, 6, 7, 16] [0, 4] ⟨[(0, .c (.h 0)), (1, .c (.val (.string s_2))), (6, .c (.h 4)), (7, .c (.val (.int .i64 i_7))), (16, .c (.val (.bool (decide (i_7 < (((List.length a_1) : Nat) : Int))))))], [(0, .row (.int .i64) a_1), (4, .row (.int .u8) b_19)], 5⟩ [] (by kernel_rfl) rfl rfl ap0 ?_
      refine VL_block ?_
      obtain ⟨c_24, H_40⟩ := of_if H_38
      refine V_run hN hn 2 5 [0, 1, 6, 7, 23] [0, 4] ⟨[(0, .c (.h 0)), (1, .c (.val (.string s_2))), (6, .c (.h 4)), (7, .c (.val (.int .i64 i_7))), (23, .c (.val (.bool ((List.getD a_1 (Int.toNat i_7) (0 : Int)) == (0 : Int)))))], [(0, .row (.int .i64) a_1), (4, .row (.int .u8) b_19)], 5⟩ [0 ≤ i_7, i_7 < (((List.length a_1) : Nat) : Int)] (by kernel_rfl) rfl rfl (ap2 c_24.1 (ap1 c_24.2)) ?_
      refine VL_cond (((List.getD a_1 (Int.toNat i_7) (0 : Int)) == (0 : Int))) (by kernel_rfl) ?_ ?_
      · intro b_25; have H_41 := of_t H_40 b_25
        obtain ⟨c_26, H_43⟩ := of_if H_41
        refine V_run hN hn 1 5 [0, 1, 6, 7] [0, 6] ⟨[(0, .c (.h 0)), (1, .c (.val (.string s_2))), (6, .c (.h 6)), (7, .c (.val (.int .i64 i_7)))], [(0, .row (.int .i64) a_1), (6, .row (.int .u8) (b_19 ++ ([(bt s_2 i_7)] : List Int)))], 7⟩ [0 ≤ i_7, i_7 < (((ByteArray.size s_2) : Nat) : Int), (List.length b_19 + List.length ([(bt s_2 i_7)] : List Int)) * 1 ≤ 140737488355328] (by kernel_rfl) rfl rfl (ap2 c_24.1 (ap2 c_26.1 (ap1 c_26.2))) ?_
        refine VL_nil (QB_end ?_)
        refine V_run hN hn 1 7 [0, 1, 6, 7] [0, 6] ⟨[(0, .c (.h 0)), (1, .c (.val (.string s_2))), (6, .c (.h 6)), (7, .c (.val (.int .i64 (IntKind.wrap .i64 (i_7 + (1 : Int))))))], [(0, .row (.int .i64) a_1), (6, .row (.int .u8) (b_19 ++ ([(bt s_2 i_7)] : List Int)))], 7⟩ [] (by kernel_rfl) rfl rfl ap0 ?_
        refine VL_nil ?_
        exact V_roundEnd ((b_19 ++ ([(bt s_2 i_7)] : List Int)), (IntKind.wrap .i64 (i_7 + (1 : Int)))) H_43 [(4, 6)] hn (by kernel_rfl) (by kernel_rfl) rfl rfl rfl
      · intro b_25; have H_42 := of_f H_40 b_25
        refine V_run hN hn 1 5 [0, 1, 6, 7, 23] [0, 4] ⟨[(0, .c (.h 0)), (1, .c (.val (.string s_2))), (6, .c (.h 4)), (7, .c (.val (.int .i64 i_7))), (23, .c (.val (.bool ((List.getD a_1 (Int.toNat i_7) (0 : Int)) == (0 : Int)))))], [(0, .row (.int .i64) a_1), (4, .row (.int .u8) b_19)], 5⟩ [] (by kernel_rfl) rfl rfl ap0 ?_
        refine VL_nil (QB_end ?_)
        refine V_run hN hn 1 5 [0, 1, 6, 7] [0, 4] ⟨[(0, .c (.h 0)), (1, .c (.val (.string s_2))), (6, .c (.h 4)), (7, .c (.val (.int .i64 (IntKind.wrap .i64 (i_7 + (1 : Int))))))], [(0, .row (.int .i64) a_1), (4, .row (.int .u8) b_19)], 5⟩ [] (by kernel_rfl) rfl rfl ap0 ?_
        refine VL_nil ?_
        exact V_roundEnd (b_19, (IntKind.wrap .i64 (i_7 + (1 : Int)))) H_42 [(4, 4)] hn (by kernel_rfl) (by kernel_rfl) rfl rfl rfl
    · intro b_22; have H_39 := of_f H_37 b_22
      refine VL_exit ?_
      refine QL_exit ?_
      refine QB_here ?_
      refine V_run hN hn 2 5 [4, 5] [0] ⟨[(4, .c (.val (.string (ofBytes b_19)))), (5, .c (.val (.bool true)))], [(0, .row (.int .i64) a_1)], 5⟩ [] (by kernel_rfl) rfl rfl ap0 ?_
      have H_44 := Option.some.inj (show some ((ofBytes b_19), true) = some r from H_39); subst H_44
      refine VL_ret ?_
      exact P_to [(4, .c (.val (.string (ofBytes b_19)))), (5, .c (.val (.bool true)))] [(0, .row (.int .i64) a_1)] [] hn (by kernel_rfl) (by kernel_rfl) rfl rfl rfl (QF_retS (by kernel_rfl) (by kernel_rfl) rfl)

theorem palinoderef7_Not_r_spec (K : Nat) (a_1 : (List Int)) (r : (List Int)) (H : palinoderef7_Not_r K a_1 = some r) : Spec Try.prog 27 1 [.c (.h 0)] [(0, .row (.int .i64) a_1)] (.c (.h 1)) [(0, .row (.int .i64) a_1), (1, .row (.int .i64) r)] := by
  refine Spec_mk (fn := Try.f27) (c := (Try.f27.body).get!) Try.func27 (by kernel_rfl) rfl ?_
  intro C hN hn
  replace hN : C.N = 23 := hN
  unfold palinoderef7_Not_r at H
  obtain ⟨c_2, H_28⟩ := of_if H
  refine V_run hN hn 7 1 [0, 3, 4] [0, 1] ⟨[(0, .c (.h 0)), (3, .c (.h 1)), (4, .c (.val (.int .i64 (0 : Int))))], [(0, .row (.int .i64) a_1), (1, .row (.int .i64) (List.replicate (Int.toNat (((List.length a_1) : Nat) : Int)) (0 : Int)))], 2⟩ [(0 : Int) ≤ (((List.length a_1) : Nat) : Int), (((List.length a_1) : Nat) : Int) ≤ (((List.length a_1) : Nat) : Int), (((List.length a_1) : Nat) : Int) * 8 ≤ (140737488355328 : Int), (((List.length a_1) : Nat) : Int) ≤ (9223372036854775807 : Int)] (by kernel_rfl) rfl rfl (ap2 c_2.1 (ap2 c_2.2.1 (ap2 c_2.2.2.1 (ap1 c_2.2.2.2)))) ?_
  refine VL_block ?_
  refine V_to [(0, .c (.h 0)), (3, .c (.h 1)), (4, .c (.val (.int .i64 (0 : Int))))] [(0, .row (.int .i64) a_1), (1, .row (.int .i64) (List.replicate (Int.toNat (((List.length a_1) : Nat) : Int)) (0 : Int)))] [(1, 1)] hn (by kernel_rfl) (by kernel_rfl) rfl rfl rfl ?_
  refine VL_loop (X := ((List Int) × Int)) (fun x => [(0, .c (.h 0)), (3, .c (.h 1)), (4, .c (.val (.int .i64 x.2)))]) (fun x => [(0, .row (.int .i64) a_1), (1, .row (.int .i64) x.1)]) (fun k x => palinoderef7_Not_r.l0 K a_1 k x.1 x.2 = some r) K ((List.replicate (Int.toNat (((List.length a_1) : Nat) : Int)) (0 : Int)), (0 : Int)) H_28 (fun _ h => no_none h) ?_
  intro k_16 x_16 H_29
  obtain ⟨out_15, i_3⟩ := x_16
  have H_30 : palinoderef7_Not_r.l0 K a_1 (k_16 + 1) out_15 i_3 = some r := H_29
  rw [palinoderef7_Not_r.l0] at H_30
  refine V_run hN hn 3 2 [0, 3, 4, 11] [0, 1] ⟨[(0, .c (.h 0)), (3, .c (.h 1)), (4, .c (.val (.int .i64 i_3))), (11, .c (.val (.bool (decide (i_3 < (((List.length a_1) : Nat) : Int))))))], [(0, .row (.int .i64) a_1), (1, .row (.int .i64) out_15)], 2⟩ [] (by kernel_rfl) rfl rfl ap0 ?_
  refine VL_cond ((decide (i_3 < (((List.length a_1) : Nat) : Int)))) (by kernel_rfl) ?_ ?_
  · intro b_18; have H_31 := of_t H_30 b_18
    refine V_run hN hn 2 2 [0, 3, 4, 11] [0, 1] ⟨[(0, .c (.h 0)), (3, .c (.h 1)), (4, .c (.val (.int .i64 i_3))), (11, .c (.val (.bool (decide (i_3 < (((List.length a_1) : Nat) : Int))))))], [(0, .row (.int .i64) a_1), (1, .row (.int .i64) out_15)], 2⟩ [] (by kernel_rfl) rfl rfl ap0 ?_
    refine VL_block ?_
    obtain ⟨c_20, H_33⟩ := of_if H_31
    refine V_run hN hn 2 2 [0, 3, 4, 18] [0, 1] ⟨[(0, .c (.h 0)), (3, .c (.h 1)), (4, .c (.val (.int .i64 i_3))), (18, .c (.val (.bool ((List.getD a_1 (Int.toNat i_3) (0 : Int)) == (0 : Int)))))], [(0, .row (.int .i64) a_1), (1, .row (.int .i64) out_15)], 2⟩ [0 ≤ i_3, i_3 < (((List.length a_1) : Nat) : Int)] (by kernel_rfl) rfl rfl (ap2 c_20.1 (ap1 c_20.2)) ?_
    refine VL_cond (((List.getD a_1 (Int.toNat i_3) (0 : Int)) == (0 : Int))) (by kernel_rfl) ?_ ?_
    · intro b_21; have H_34 := of_t H_33 b_21
      obtain ⟨c_22, H_36⟩ := of_if H_34
      refine V_run hN hn 1 2 [0, 3, 4] [0, 1] ⟨[(0, .c (.h 0)), (3, .c (.h 1)), (4, .c (.val (.int .i64 i_3)))], [(0, .row (.int .i64) a_1), (1, .row (.int .i64) (List.set out_15 (Int.toNat i_3) (1 : Int)))], 2⟩ [0 ≤ i_3, i_3 < (((List.length out_15) : Nat) : Int)] (by kernel_rfl) rfl rfl (ap2 c_20.1 (ap1 c_22)) ?_
      refine VL_nil (QB_end ?_)
      refine V_run hN hn 1 2 [0, 3, 4] [0, 1] ⟨[(0, .c (.h 0)), (3, .c (.h 1)), (4, .c (.val (.int .i64 (IntKind.wrap .i64 (i_3 + (1 : Int))))))], [(0, .row (.int .i64) a_1), (1, .row (.int .i64) (List.set out_15 (Int.toNat i_3) (1 : Int)))], 2⟩ [] (by kernel_rfl) rfl rfl ap0 ?_
      refine VL_nil ?_
      exact V_roundEnd ((List.set out_15 (Int.toNat i_3) (1 : Int)), (IntKind.wrap .i64 (i_3 + (1 : Int)))) H_36 [(1, 1)] hn (by kernel_rfl) (by kernel_rfl) rfl rfl rfl
    · intro b_21; have H_35 := of_f H_33 b_21
      refine V_run hN hn 1 2 [0, 3, 4, 18] [0, 1] ⟨[(0, .c (.h 0)), (3, .c (.h 1)), (4, .c (.val (.int .i64 i_3))), (18, .c (.val (.bool ((List.getD a_1 (Int.toNat i_3) (0 : Int)) == (0 : Int)))))], [(0, .row (.int .i64) a_1), (1, .row (.int .i64) out_15)], 2⟩ [] (by kernel_rfl) rfl rfl ap0 ?_
      refine VL_nil (QB_end ?_)
      refine V_run hN hn 1 2 [0, 3, 4] [0, 1] ⟨[(0, .c (.h 0)), (3, .c (.h 1)), (4, .c (.val (.int .i64 (IntKind.wrap .i64 (i_3 + (1 : Int))))))], [(0, .row (.int .i64) a_1), (1, .row (.int .i64) out_15)], 2⟩ [] (by kernel_rfl) rfl rfl ap0 ?_
      refine VL_nil ?_
      exact V_roundEnd (out_15, (IntKind.wrap .i64 (i_3 + (1 : Int)))) H_35 [(1, 1)] hn (by kernel_rfl) (by kernel_rfl) rfl rfl rfl
  · intro b_18; have H_32 := of_f H_30 b_18
    refine VL_exit ?_
    refine QL_exit ?_
    refine QB_here ?_
    refine V_run hN hn 2 2 [2] [0, 1] ⟨[(2, .c (.h 1))], [(0, .row (.int .i64) a_1), (1, .row (.int .i64) out_15)], 2⟩ [] (by kernel_rfl) rfl rfl ap0 ?_
    have H_37 := Option.some.inj (show some out_15 = some r from H_32); subst H_37
    refine VL_ret ?_
    exact P_to [(2, .c (.h 1))] [(0, .row (.int .i64) a_1), (1, .row (.int .i64) out_15)] [(1, 1)] hn (by kernel_rfl) (by kernel_rfl) rfl rfl rfl (QF_retS (by kernel_rfl) (by kernel_rfl) rfl)

theorem palinodelaw8_AlgebraTells_spec (K : Nat) (a_1 : (List Int)) (b_2 : (List Int)) (s_3 : ByteArray) (r : Bool) (H : palinodelaw8_AlgebraTells K a_1 b_2 s_3 = some r) : Spec Try.prog 4 0 [.c (.imm (.slice (.int .u8)) a_1), .c (.imm (.slice (.int .u8)) b_2), .c (.val (.string s_3))] [] (.c (.val (.bool r))) [] := by
  refine Spec_mk (fn := Try.f4) (c := (Try.f4.body).get!) Try.func4 (by kernel_rfl) rfl ?_
  intro C hN hn
  replace hN : C.N = 183 := hN
  unfold palinodelaw8_AlgebraTells at H
  refine V_run hN hn 4 0 [0, 1, 2] [] ⟨[(0, .c (.imm (.slice (.int .u8)) a_1)), (1, .c (.imm (.slice (.int .u8)) b_2)), (2, .c (.val (.string s_3)))], [], 0⟩ [] (by kernel_rfl) rfl rfl ap0 ?_
  obtain ⟨r_5, h_6, H_142⟩ := of_bind H
  refine V_reg hN hn [(0, ⟨10, 0, [], [], .c (.val (.bool r_5)), [], [], 0⟩)] [] (calls_cons (palinodelaw8_known_spec K  r_5 h_6) (by kernel_rfl) calls_nil) 0 [0, 1, 2, 20] [] ⟨[(0, .c (.imm (.slice (.int .u8)) a_1)), (1, .c (.imm (.slice (.int .u8)) b_2)), (2, .c (.val (.string s_3))), (20, .c (.val (.bool (!r_5))))], [], 0⟩ [] (by kernel_rfl) rfl rfl ap0 (by kernel_rfl) (by kernel_rfl) ?_
  refine VL_cond ((!r_5)) (by kernel_rfl) ?_ ?_
  · intro b_8; have H_143 := of_t H_142 b_8
    refine V_run hN hn 2 0 [6] [] ⟨[(6, .c (.val (.bool false)))], [], 0⟩ [] (by kernel_rfl) rfl rfl ap0 ?_
    have H_145 := Option.some.inj (show some false = some r from H_143); subst H_145
    refine VL_ret ?_
    exact P_to [(6, .c (.val (.bool false)))] [] [] hn (by kernel_rfl) (by kernel_rfl) rfl rfl rfl (QF_retS (by kernel_rfl) (by kernel_rfl) rfl)
  · intro b_8; have H_144 := of_f H_142 b_8
    refine V_run hN hn 3 0 [0, 1, 2, 20] [] ⟨[(0, .c (.imm (.slice (.int .u8)) a_1)), (1, .c (.imm (.slice (.int .u8)) b_2)), (2, .c (.val (.string s_3))), (20, .c (.val (.bool (!r_5))))], [], 0⟩ [] (by kernel_rfl) rfl rfl ap0 ?_
    obtain ⟨q_146, H_147, H_148⟩ := of_bind H_144
    refine V_cut (Y := Bool) (R := Bool) q_146 (fun y => y) (fun y => [(0, .c (.imm (.slice (.int .u8)) a_1)), (1, .c (.imm (.slice (.int .u8)) b_2)), (2, .c (.val (.string s_3))), (33, .c (.val (.bool y)))]) (fun y => []) ?_ ?_
    · skip
      rcases Bool.eq_false_or_eq_true ((decide ((((List.length a_1) : Nat) : Int) > (300 : Int)))) with b_11 | b_11
      · have H_150 := of_t H_147 b_11
        refine V_reg hN hn [] [(24, true)] calls_nil 0 [0, 1, 2, 33] [] ⟨[(0, .c (.imm (.slice (.int .u8)) a_1)), (1, .c (.imm (.slice (.int .u8)) b_2)), (2, .c (.val (.string s_3))), (33, .c (.val (.bool true)))], [], 0⟩ [(decide ((((List.length a_1) : Nat) : Int) > (300 : Int))) = true] (by kernel_rfl) rfl rfl (ap1 b_11) (by kernel_rfl) (by kernel_rfl) ?_
        have H_152 := Option.some.inj (show some true = some q_146 from H_150); subst H_152
        refine VL_nil ?_
        exact QP_end true rfl [] hn (by kernel_rfl) (by kernel_rfl) rfl rfl rfl
      · have H_151 := of_f H_147 b_11
        rcases Bool.eq_false_or_eq_true ((decide ((((List.length b_2) : Nat) : Int) > (300 : Int)))) with b_13 | b_13
        · have H_153 := of_t H_151 b_13
          refine V_reg hN hn [] [(24, false), (29, true)] calls_nil 0 [0, 1, 2, 33] [] ⟨[(0, .c (.imm (.slice (.int .u8)) a_1)), (1, .c (.imm (.slice (.int .u8)) b_2)), (2, .c (.val (.string s_3))), (33, .c (.val (.bool true)))], [], 0⟩ [(decide ((((List.length a_1) : Nat) : Int) > (300 : Int))) = false, (decide ((((List.length b_2) : Nat) : Int) > (300 : Int))) = true] (by kernel_rfl) rfl rfl (ap2 b_11 (ap1 b_13)) (by kernel_rfl) (by kernel_rfl) ?_
          have H_155 := Option.some.inj (show some true = some q_146 from H_153); subst H_155
          refine VL_nil ?_
          exact QP_end true rfl [] hn (by kernel_rfl) (by kernel_rfl) rfl rfl rfl
        · have H_154 := of_f H_151 b_13
          refine V_reg hN hn [] [(24, false), (29, false)] calls_nil 0 [0, 1, 2, 33] [] ⟨[(0, .c (.imm (.slice (.int .u8)) a_1)), (1, .c (.imm (.slice (.int .u8)) b_2)), (2, .c (.val (.string s_3))), (33, .c (.val (.bool (decide ((((ByteArray.size s_3) : Nat) : Int) > (300 : Int))))))], [], 0⟩ [(decide ((((List.length a_1) : Nat) : Int) > (300 : Int))) = false, (decide ((((List.length b_2) : Nat) : Int) > (300 : Int))) = false] (by kernel_rfl) rfl rfl (ap2 b_11 (ap1 b_13)) (by kernel_rfl) (by kernel_rfl) ?_
          have H_156 := Option.some.inj (show some (decide ((((ByteArray.size s_3) : Nat) : Int) > (300 : Int))) = some q_146 from H_154); subst H_156
          refine VL_nil ?_
          exact QP_end (decide ((((ByteArray.size s_3) : Nat) : Int) > (300 : Int))) rfl [] hn (by kernel_rfl) (by kernel_rfl) rfl rfl rfl
    · intro y_149 hy; subst hy
      skip
      skip
      refine VL_cond (y_149) (by kernel_rfl) ?_ ?_
      · intro b_17; have H_157 := of_t H_148 b_17
        refine V_run hN hn 2 0 [6] [] ⟨[(6, .c (.val (.bool true)))], [], 0⟩ [] (by kernel_rfl) rfl rfl ap0 ?_
        have H_159 := Option.some.inj (show some true = some r from H_157); subst H_159
        refine VL_ret ?_
        exact P_to [(6, .c (.val (.bool true)))] [] [] hn (by kernel_rfl) (by kernel_rfl) rfl rfl rfl (QF_retS (by kernel_rfl) (by kernel_rfl) rfl)
      · intro b_17; have H_158 := of_f H_148 b_17
        refine V_run hN hn 2 0 [0, 1, 2, 33] [] ⟨[(0, .c (.imm (.slice (.int .u8)) a_1)), (1, .c (.imm (.slice (.int .u8)) b_2)), (2, .c (.val (.string s_3))), (33, .c (.val (.bool y_149)))], [], 0⟩ [] (by kernel_rfl) rfl rfl ap0 ?_
        obtain ⟨r_20, h_21, H_160⟩ := of_bind H_158
        obtain ⟨r_22, h_23, H_161⟩ := of_bind H_160
        refine V_reg hN hn [(1, ⟨14, 0, [.c (.imm (.slice (.int .u8)) a_1)], [], .c (.h 3), [(3, .row (.int .i64) r_20)], [(3, 0)], 1⟩), (3, ⟨14, 0, [.c (.imm (.slice (.int .u8)) b_2)], [], .c (.h 3), [(3, .row (.int .i64) r_22)], [(3, 1)], 2⟩)] [] (calls_cons (palinodelaw8_row_spec K a_1 r_20 h_21) (by kernel_rfl) (calls_cons (palinodelaw8_row_spec K b_2 r_22 h_23) (by kernel_rfl) calls_nil)) 0 [2, 7, 8] [0, 1] ⟨[(2, .c (.val (.string s_3))), (7, .c (.h 0)), (8, .c (.h 1))], [(0, .row (.int .i64) r_20), (1, .row (.int .i64) r_22)], 2⟩ [] (by kernel_rfl) rfl rfl ap0 (by kernel_rfl) (by kernel_rfl) ?_
        refine V_run hN hn 1 2 [2, 7, 8] [0, 1] ⟨[(2, .c (.val (.string s_3))), (7, .c (.h 0)), (8, .c (.h 1))], [(0, .row (.int .i64) r_20), (1, .row (.int .i64) r_22)], 2⟩ [] (by kernel_rfl) rfl rfl ap0 ?_
        obtain ⟨r_26, h_27, H_162⟩ := of_bind H_161
        obtain ⟨r_28, h_29, H_163⟩ := of_bind H_162
        refine V_reg hN hn [(1, ⟨11, 1, [.c (.h 0)], [(0, .row (.int .i64) r_20)], .c (.imm (.opt (.pair (.slice (.pair (.int .i64) (.int .i64))) (.int .i64))) r_26), [(0, .row (.int .i64) r_20)], [(0, 0)], 2⟩), (3, ⟨11, 1, [.c (.h 0)], [(0, .row (.int .i64) r_22)], .c (.imm (.opt (.pair (.slice (.pair (.int .i64) (.int .i64))) (.int .i64))) r_28), [(0, .row (.int .i64) r_22)], [(0, 1)], 2⟩)] [] (calls_cons (palinodelaw8_made_r_spec K r_20 r_26 h_27) (by kernel_rfl) (calls_cons (palinodelaw8_made_r_spec K r_22 r_28 h_29) (by kernel_rfl) calls_nil)) 2 [2, 7, 8, 9, 10] [0, 1] ⟨[(2, .c (.val (.string s_3))), (7, .c (.h 0)), (8, .c (.h 1)), (9, .c (.imm (.opt (.pair (.slice (.pair (.int .i64) (.int .i64))) (.int .i64))) r_26)), (10, .c (.imm (.opt (.pair (.slice (.pair (.int .i64) (.int .i64))) (.int .i64))) r_28))], [(0, .row (.int .i64) r_20), (1, .row (.int .i64) r_22)], 2⟩ [] (by kernel_rfl) rfl rfl ap0 (by kernel_rfl) (by kernel_rfl) ?_
        refine V_run hN hn 2 2 [2, 7, 8, 9, 10] [0, 1] ⟨[(2, .c (.val (.string s_3))), (7, .c (.h 0)), (8, .c (.h 1)), (9, .c (.imm (.opt (.pair (.slice (.pair (.int .i64) (.int .i64))) (.int .i64))) r_26)), (10, .c (.imm (.opt (.pair (.slice (.pair (.int .i64) (.int .i64))) (.int .i64))) r_28))], [(0, .row (.int .i64) r_20), (1, .row (.int .i64) r_22)], 2⟩ [] (by kernel_rfl) rfl rfl ap0 ?_
        obtain ⟨q_164, H_165, H_166⟩ := of_bind H_163
        refine V_cut (Y := Bool) (R := Bool) q_164 (fun y => y) (fun y => [(2, .c (.val (.string s_3))), (7, .c (.h 0)), (8, .c (.h 1)), (9, .c (.imm (.opt (.pair (.slice (.pair (.int .i64) (.int .i64))) (.int .i64))) r_26)), (10, .c (.imm (.opt (.pair (.slice (.pair (.int .i64) (.int .i64))) (.int .i64))) r_28)), (47, .c (.val (.bool y)))]) (fun y => [(0, .row (.int .i64) r_20), (1, .row (.int .i64) r_22)]) ?_ ?_
        · skip
          rcases Bool.eq_false_or_eq_true ((Option.isNone r_26)) with b_32 | b_32
          · have H_168 := of_t H_165 b_32
            refine V_reg hN hn [] [(44, true)] calls_nil 2 [2, 7, 8, 9, 10, 47] [0, 1] ⟨[(2, .c (.val (.string s_3))), (7, .c (.h 0)), (8, .c (.h 1)), (9, .c (.imm (.opt (.pair (.slice (.pair (.int .i64) (.int .i64))) (.int .i64))) r_26)), (10, .c (.imm (.opt (.pair (.slice (.pair (.int .i64) (.int .i64))) (.int .i64))) r_28)), (47, .c (.val (.bool true)))], [(0, .row (.int .i64) r_20), (1, .row (.int .i64) r_22)], 2⟩ [(Option.isNone r_26) = true] (by kernel_rfl) rfl rfl (ap1 b_32) (by kernel_rfl) (by kernel_rfl) ?_
            have H_170 := Option.some.inj (show some true = some q_164 from H_168); subst H_170
            refine VL_nil ?_
            exact QP_end true rfl [(0, 0), (1, 1)] hn (by kernel_rfl) (by kernel_rfl) rfl rfl rfl
          · have H_169 := of_f H_165 b_32
            refine V_reg hN hn [] [(44, false)] calls_nil 2 [2, 7, 8, 9, 10, 47] [0, 1] ⟨[(2, .c (.val (.string s_3))), (7, .c (.h 0)), (8, .c (.h 1)), (9, .c (.imm (.opt (.pair (.slice (.pair (.int .i64) (.int .i64))) (.int .i64))) r_26)), (10, .c (.imm (.opt (.pair (.slice (.pair (.int .i64) (.int .i64))) (.int .i64))) r_28)), (47, .c (.val (.bool (Option.isNone r_28))))], [(0, .row (.int .i64) r_20), (1, .row (.int .i64) r_22)], 2⟩ [(Option.isNone r_26) = false] (by kernel_rfl) rfl rfl (ap1 b_32) (by kernel_rfl) (by kernel_rfl) ?_
            have H_171 := Option.some.inj (show some (Option.isNone r_28) = some q_164 from H_169); subst H_171
            refine VL_nil ?_
            exact QP_end (Option.isNone r_28) rfl [(0, 0), (1, 1)] hn (by kernel_rfl) (by kernel_rfl) rfl rfl rfl
        · intro y_167 hy; subst hy
          skip
          skip
          refine VL_cond (y_167) (by kernel_rfl) ?_ ?_
          · intro b_36; have H_172 := of_t H_166 b_36
            refine V_run hN hn 1 2 [2, 7, 8, 9, 10, 47] [0, 1] ⟨[(2, .c (.val (.string s_3))), (7, .c (.h 0)), (8, .c (.h 1)), (9, .c (.imm (.opt (.pair (.slice (.pair (.int .i64) (.int .i64))) (.int .i64))) r_26)), (10, .c (.imm (.opt (.pair (.slice (.pair (.int .i64) (.int .i64))) (.int .i64))) r_28)), (47, .c (.val (.bool y_167)))], [(0, .row (.int .i64) r_20), (1, .row (.int .i64) r_22)], 2⟩ [] (by kernel_rfl) rfl rfl ap0 ?_
            obtain ⟨r_38, h_39, H_174⟩ := of_bind H_172
            rcases Bool.eq_false_or_eq_true ((decide ((((List.length r_38) : Nat) : Int) > (200 : Int)))) with b_40 | b_40
            · have H_175 := of_t H_174 b_40
              refine V_reg hN hn [(1, ⟨15, 1, [.c (.h 0)], [(0, .row (.int .i64) r_20)], .c (.h 4), [(0, .row (.int .i64) r_20), (4, .row (.pair (.int .i64) (.int .i64)) r_38)], [(0, 0), (4, 2)], 3⟩)] [(52, true)] (calls_cons (palinoderef7_Segs_r_spec K r_20 r_38 h_39) (by kernel_rfl) calls_nil) 2 [6] [] ⟨[(6, .c (.val (.bool true)))], [], 3⟩ [(decide ((((List.length r_38) : Nat) : Int) > (200 : Int))) = true] (by kernel_rfl) rfl rfl (ap1 b_40) (by kernel_rfl) (by kernel_rfl) ?_
              have H_177 := Option.some.inj (show some true = some r from H_175); subst H_177
              refine VL_ret ?_
              exact P_to [(6, .c (.val (.bool true)))] [] [] hn (by kernel_rfl) (by kernel_rfl) rfl rfl rfl (QF_retS (by kernel_rfl) (by kernel_rfl) rfl)
            · have H_176 := of_f H_174 b_40
              obtain ⟨r_42, h_43, H_178⟩ := of_bind H_176
              refine V_reg hN hn [(1, ⟨15, 1, [.c (.h 0)], [(0, .row (.int .i64) r_20)], .c (.h 4), [(0, .row (.int .i64) r_20), (4, .row (.pair (.int .i64) (.int .i64)) r_38)], [(0, 0), (4, 2)], 3⟩), (6, ⟨15, 1, [.c (.h 0)], [(0, .row (.int .i64) r_22)], .c (.h 4), [(0, .row (.int .i64) r_22), (4, .row (.pair (.int .i64) (.int .i64)) r_42)], [(0, 1), (4, 3)], 4⟩)] [(52, false)] (calls_cons (palinoderef7_Segs_r_spec K r_20 r_38 h_39) (by kernel_rfl) (calls_cons (palinoderef7_Segs_r_spec K r_22 r_42 h_43) (by kernel_rfl) calls_nil)) 2 [6] [] ⟨[(6, .c (.val (.bool (decide ((((List.length r_42) : Nat) : Int) > (200 : Int))))))], [], 4⟩ [(decide ((((List.length r_38) : Nat) : Int) > (200 : Int))) = false] (by kernel_rfl) rfl rfl (ap1 b_40) (by kernel_rfl) (by kernel_rfl) ?_
              have H_179 := Option.some.inj (show some (decide ((((List.length r_42) : Nat) : Int) > (200 : Int))) = some r from H_178); subst H_179
              refine VL_ret ?_
              exact P_to [(6, .c (.val (.bool (decide ((((List.length r_42) : Nat) : Int) > (200 : Int))))))] [] [] hn (by kernel_rfl) (by kernel_rfl) rfl rfl rfl (QF_retS (by kernel_rfl) (by kernel_rfl) rfl)
          · intro b_36; have H_173 := of_f H_166 b_36
            refine V_run hN hn 2 2 [2, 7, 8, 9, 10, 47] [0, 1] ⟨[(2, .c (.val (.string s_3))), (7, .c (.h 0)), (8, .c (.h 1)), (9, .c (.imm (.opt (.pair (.slice (.pair (.int .i64) (.int .i64))) (.int .i64))) r_26)), (10, .c (.imm (.opt (.pair (.slice (.pair (.int .i64) (.int .i64))) (.int .i64))) r_28)), (47, .c (.val (.bool y_167)))], [(0, .row (.int .i64) r_20), (1, .row (.int .i64) r_22)], 2⟩ [] (by kernel_rfl) rfl rfl ap0 ?_
            obtain ⟨r_46, h_47, H_180⟩ := of_bind H_173
            refine V_reg hN hn [(2, ⟨16, 0, [.c (.imm (.opt (.pair (.slice (.pair (.int .i64) (.int .i64))) (.int .i64))) r_26), .c (.imm (.opt (.pair (.slice (.pair (.int .i64) (.int .i64))) (.int .i64))) r_28)], [], .tup [(false, [.imm (.opt (.pair (.slice (.pair (.int .i64) (.int .i64))) (.int .i64))) r_46.1]), (false, [.val (.int .i64 r_46.2)])], [], [], 2⟩)] [] (calls_cons (algebra_Union_spec K r_26 r_28 r_46 h_47) (by kernel_rfl) calls_nil) 2 [2, 7, 8, 9, 10, 11, 12] [0, 1] ⟨[(2, .c (.val (.string s_3))), (7, .c (.h 0)), (8, .c (.h 1)), (9, .c (.imm (.opt (.pair (.slice (.pair (.int .i64) (.int .i64))) (.int .i64))) r_26)), (10, .c (.imm (.opt (.pair (.slice (.pair (.int .i64) (.int .i64))) (.int .i64))) r_28)), (11, .c (.imm (.opt (.pair (.slice (.pair (.int .i64) (.int .i64))) (.int .i64))) r_46.1)), (12, .c (.val (.int .i64 r_46.2)))], [(0, .row (.int .i64) r_20), (1, .row (.int .i64) r_22)], 2⟩ [] (by kernel_rfl) rfl rfl ap0 (by kernel_rfl) (by kernel_rfl) ?_
            refine V_run hN hn 1 2 [2, 7, 8, 9, 10, 11, 12] [0, 1] ⟨[(2, .c (.val (.string s_3))), (7, .c (.h 0)), (8, .c (.h 1)), (9, .c (.imm (.opt (.pair (.slice (.pair (.int .i64) (.int .i64))) (.int .i64))) r_26)), (10, .c (.imm (.opt (.pair (.slice (.pair (.int .i64) (.int .i64))) (.int .i64))) r_28)), (11, .c (.imm (.opt (.pair (.slice (.pair (.int .i64) (.int .i64))) (.int .i64))) r_46.1)), (12, .c (.val (.int .i64 r_46.2)))], [(0, .row (.int .i64) r_20), (1, .row (.int .i64) r_22)], 2⟩ [] (by kernel_rfl) rfl rfl ap0 ?_
            obtain ⟨r_50, h_51, H_181⟩ := of_bind H_180
            refine V_reg hN hn [(2, ⟨17, 2, [.c (.val (.int .i64 (0 : Int))), .c (.h 0), .c (.h 1)], [(0, .row (.int .i64) r_20), (1, .row (.int .i64) r_22)], .tup [(false, [.imm (.slice (.int .i64)) r_50.1]), (false, [.val (.int .i64 r_50.2)])], [(0, .row (.int .i64) r_20), (1, .row (.int .i64) r_22)], [(0, 0), (1, 1)], 2⟩)] [] (calls_cons (palinoderef7_Two_grr_spec K (0 : Int) r_20 r_22 r_50 h_51) (by kernel_rfl) calls_nil) 2 [2, 7, 8, 9, 10, 11, 12, 13, 14] [0, 1] ⟨[(2, .c (.val (.string s_3))), (7, .c (.h 0)), (8, .c (.h 1)), (9, .c (.imm (.opt (.pair (.slice (.pair (.int .i64) (.int .i64))) (.int .i64))) r_26)), (10, .c (.imm (.opt (.pair (.slice (.pair (.int .i64) (.int .i64))) (.int .i64))) r_28)), (11, .c (.imm (.opt (.pair (.slice (.pair (.int .i64) (.int .i64))) (.int .i64))) r_46.1)), (12, .c (.val (.int .i64 r_46.2))), (13, .c (.imm (.slice (.int .i64)) r_50.1)), (14, .c (.val (.int .i64 r_50.2)))], [(0, .row (.int .i64) r_20), (1, .row (.int .i64) r_22)], 2⟩ [] (by kernel_rfl) rfl rfl ap0 (by kernel_rfl) (by kernel_rfl) ?_
            refine V_run hN hn 2 2 [2, 7, 8, 9, 10, 11, 12, 13, 14] [0, 1] ⟨[(2, .c (.val (.string s_3))), (7, .c (.h 0)), (8, .c (.h 1)), (9, .c (.imm (.opt (.pair (.slice (.pair (.int .i64) (.int .i64))) (.int .i64))) r_26)), (10, .c (.imm (.opt (.pair (.slice (.pair (.int .i64) (.int .i64))) (.int .i64))) r_28)), (11, .c (.imm (.opt (.pair (.slice (.pair (.int .i64) (.int .i64))) (.int .i64))) r_46.1)), (12, .c (.val (.int .i64 r_46.2))), (13, .c (.imm (.slice (.int .i64)) r_50.1)), (14, .c (.val (.int .i64 r_50.2)))], [(0, .row (.int .i64) r_20), (1, .row (.int .i64) r_22)], 2⟩ [] (by kernel_rfl) rfl rfl ap0 ?_
            obtain ⟨r_54, h_55, H_182⟩ := of_bind H_181
            refine V_reg hN hn [(4, ⟨18, 0, [.c (.imm (.opt (.pair (.slice (.pair (.int .i64) (.int .i64))) (.int .i64))) r_46.1), .c (.val (.int .i64 r_46.2)), .c (.imm (.slice (.int .i64)) r_50.1), .c (.val (.int .i64 r_50.2))], [], .c (.val (.bool r_54)), [], [], 2⟩)] [] (calls_cons (palinodelaw8_told_spec K r_46.1 r_46.2 r_50.1 r_50.2 r_54 h_55) (by kernel_rfl) calls_nil) 2 [2, 7, 8, 9, 10, 75] [0, 1] ⟨[(2, .c (.val (.string s_3))), (7, .c (.h 0)), (8, .c (.h 1)), (9, .c (.imm (.opt (.pair (.slice (.pair (.int .i64) (.int .i64))) (.int .i64))) r_26)), (10, .c (.imm (.opt (.pair (.slice (.pair (.int .i64) (.int .i64))) (.int .i64))) r_28)), (75, .c (.val (.bool (!r_54))))], [(0, .row (.int .i64) r_20), (1, .row (.int .i64) r_22)], 2⟩ [] (by kernel_rfl) rfl rfl ap0 (by kernel_rfl) (by kernel_rfl) ?_
            refine VL_cond ((!r_54)) (by kernel_rfl) ?_ ?_
            · intro b_57; have H_183 := of_t H_182 b_57
              refine V_run hN hn 2 2 [6] [] ⟨[(6, .c (.val (.bool false)))], [], 2⟩ [] (by kernel_rfl) rfl rfl ap0 ?_
              have H_185 := Option.some.inj (show some false = some r from H_183); subst H_185
              refine VL_ret ?_
              exact P_to [(6, .c (.val (.bool false)))] [] [] hn (by kernel_rfl) (by kernel_rfl) rfl rfl rfl (QF_retS (by kernel_rfl) (by kernel_rfl) rfl)
            · intro b_57; have H_184 := of_f H_182 b_57
              refine V_run hN hn 2 2 [2, 7, 8, 9, 10, 75] [0, 1] ⟨[(2, .c (.val (.string s_3))), (7, .c (.h 0)), (8, .c (.h 1)), (9, .c (.imm (.opt (.pair (.slice (.pair (.int .i64) (.int .i64))) (.int .i64))) r_26)), (10, .c (.imm (.opt (.pair (.slice (.pair (.int .i64) (.int .i64))) (.int .i64))) r_28)), (75, .c (.val (.bool (!r_54))))], [(0, .row (.int .i64) r_20), (1, .row (.int .i64) r_22)], 2⟩ [] (by kernel_rfl) rfl rfl ap0 ?_
              obtain ⟨r_60, h_61, H_186⟩ := of_bind H_184
              refine V_reg hN hn [(2, ⟨19, 0, [.c (.imm (.opt (.pair (.slice (.pair (.int .i64) (.int .i64))) (.int .i64))) r_26), .c (.imm (.opt (.pair (.slice (.pair (.int .i64) (.int .i64))) (.int .i64))) r_28)], [], .tup [(false, [.imm (.opt (.pair (.slice (.pair (.int .i64) (.int .i64))) (.int .i64))) r_60.1]), (false, [.val (.int .i64 r_60.2)])], [], [], 2⟩)] [] (calls_cons (algebra_Minus_spec K r_26 r_28 r_60 h_61) (by kernel_rfl) calls_nil) 2 [2, 7, 8, 9, 10, 11, 12] [0, 1] ⟨[(2, .c (.val (.string s_3))), (7, .c (.h 0)), (8, .c (.h 1)), (9, .c (.imm (.opt (.pair (.slice (.pair (.int .i64) (.int .i64))) (.int .i64))) r_26)), (10, .c (.imm (.opt (.pair (.slice (.pair (.int .i64) (.int .i64))) (.int .i64))) r_28)), (11, .c (.imm (.opt (.pair (.slice (.pair (.int .i64) (.int .i64))) (.int .i64))) r_60.1)), (12, .c (.val (.int .i64 r_60.2)))], [(0, .row (.int .i64) r_20), (1, .row (.int .i64) r_22)], 2⟩ [] (by kernel_rfl) rfl rfl ap0 (by kernel_rfl) (by kernel_rfl) ?_
              refine V_run hN hn 1 2 [2, 7, 8, 9, 10, 11, 12] [0, 1] ⟨[(2, .c (.val (.string s_3))), (7, .c (.h 0)), (8, .c (.h 1)), (9, .c (.imm (.opt (.pair (.slice (.pair (.int .i64) (.int .i64))) (.int .i64))) r_26)), (10, .c (.imm (.opt (.pair (.slice (.pair (.int .i64) (.int .i64))) (.int .i64))) r_28)), (11, .c (.imm (.opt (.pair (.slice (.pair (.int .i64) (.int .i64))) (.int .i64))) r_60.1)), (12, .c (.val (.int .i64 r_60.2)))], [(0, .row (.int .i64) r_20), (1, .row (.int .i64) r_22)], 2⟩ [] (by kernel_rfl) rfl rfl ap0 ?_
              obtain ⟨r_64, h_65, H_187⟩ := of_bind H_186
              refine V_reg hN hn [(2, ⟨17, 2, [.c (.val (.int .i64 (1 : Int))), .c (.h 0), .c (.h 1)], [(0, .row (.int .i64) r_20), (1, .row (.int .i64) r_22)], .tup [(false, [.imm (.slice (.int .i64)) r_64.1]), (false, [.val (.int .i64 r_64.2)])], [(0, .row (.int .i64) r_20), (1, .row (.int .i64) r_22)], [(0, 0), (1, 1)], 2⟩)] [] (calls_cons (palinoderef7_Two_grr_spec K (1 : Int) r_20 r_22 r_64 h_65) (by kernel_rfl) calls_nil) 2 [2, 7, 8, 9, 10, 11, 12, 13, 14] [0, 1] ⟨[(2, .c (.val (.string s_3))), (7, .c (.h 0)), (8, .c (.h 1)), (9, .c (.imm (.opt (.pair (.slice (.pair (.int .i64) (.int .i64))) (.int .i64))) r_26)), (10, .c (.imm (.opt (.pair (.slice (.pair (.int .i64) (.int .i64))) (.int .i64))) r_28)), (11, .c (.imm (.opt (.pair (.slice (.pair (.int .i64) (.int .i64))) (.int .i64))) r_60.1)), (12, .c (.val (.int .i64 r_60.2))), (13, .c (.imm (.slice (.int .i64)) r_64.1)), (14, .c (.val (.int .i64 r_64.2)))], [(0, .row (.int .i64) r_20), (1, .row (.int .i64) r_22)], 2⟩ [] (by kernel_rfl) rfl rfl ap0 (by kernel_rfl) (by kernel_rfl) ?_
              refine V_run hN hn 2 2 [2, 7, 8, 9, 10, 11, 12, 13, 14] [0, 1] ⟨[(2, .c (.val (.string s_3))), (7, .c (.h 0)), (8, .c (.h 1)), (9, .c (.imm (.opt (.pair (.slice (.pair (.int .i64) (.int .i64))) (.int .i64))) r_26)), (10, .c (.imm (.opt (.pair (.slice (.pair (.int .i64) (.int .i64))) (.int .i64))) r_28)), (11, .c (.imm (.opt (.pair (.slice (.pair (.int .i64) (.int .i64))) (.int .i64))) r_60.1)), (12, .c (.val (.int .i64 r_60.2))), (13, .c (.imm (.slice (.int .i64)) r_64.1)), (14, .c (.val (.int .i64 r_64.2)))], [(0, .row (.int .i64) r_20), (1, .row (.int .i64) r_22)], 2⟩ [] (by kernel_rfl) rfl rfl ap0 ?_
              obtain ⟨r_68, h_69, H_188⟩ := of_bind H_187
              refine V_reg hN hn [(4, ⟨18, 0, [.c (.imm (.opt (.pair (.slice (.pair (.int .i64) (.int .i64))) (.int .i64))) r_60.1), .c (.val (.int .i64 r_60.2)), .c (.imm (.slice (.int .i64)) r_64.1), .c (.val (.int .i64 r_64.2))], [], .c (.val (.bool r_68)), [], [], 2⟩)] [] (calls_cons (palinodelaw8_told_spec K r_60.1 r_60.2 r_64.1 r_64.2 r_68 h_69) (by kernel_rfl) calls_nil) 2 [2, 7, 8, 9, 10, 93] [0, 1] ⟨[(2, .c (.val (.string s_3))), (7, .c (.h 0)), (8, .c (.h 1)), (9, .c (.imm (.opt (.pair (.slice (.pair (.int .i64) (.int .i64))) (.int .i64))) r_26)), (10, .c (.imm (.opt (.pair (.slice (.pair (.int .i64) (.int .i64))) (.int .i64))) r_28)), (93, .c (.val (.bool (!r_68))))], [(0, .row (.int .i64) r_20), (1, .row (.int .i64) r_22)], 2⟩ [] (by kernel_rfl) rfl rfl ap0 (by kernel_rfl) (by kernel_rfl) ?_
              refine VL_cond ((!r_68)) (by kernel_rfl) ?_ ?_
              · intro b_71; have H_189 := of_t H_188 b_71
                refine V_run hN hn 2 2 [6] [] ⟨[(6, .c (.val (.bool false)))], [], 2⟩ [] (by kernel_rfl) rfl rfl ap0 ?_
                have H_191 := Option.some.inj (show some false = some r from H_189); subst H_191
                refine VL_ret ?_
                exact P_to [(6, .c (.val (.bool false)))] [] [] hn (by kernel_rfl) (by kernel_rfl) rfl rfl rfl (QF_retS (by kernel_rfl) (by kernel_rfl) rfl)
              · intro b_71; have H_190 := of_f H_188 b_71
                refine V_run hN hn 2 2 [2, 7, 8, 9, 10, 93] [0, 1] ⟨[(2, .c (.val (.string s_3))), (7, .c (.h 0)), (8, .c (.h 1)), (9, .c (.imm (.opt (.pair (.slice (.pair (.int .i64) (.int .i64))) (.int .i64))) r_26)), (10, .c (.imm (.opt (.pair (.slice (.pair (.int .i64) (.int .i64))) (.int .i64))) r_28)), (93, .c (.val (.bool (!r_68))))], [(0, .row (.int .i64) r_20), (1, .row (.int .i64) r_22)], 2⟩ [] (by kernel_rfl) rfl rfl ap0 ?_
                obtain ⟨r_74, h_75, H_192⟩ := of_bind H_190
                refine V_reg hN hn [(2, ⟨20, 0, [.c (.imm (.opt (.pair (.slice (.pair (.int .i64) (.int .i64))) (.int .i64))) r_26), .c (.imm (.opt (.pair (.slice (.pair (.int .i64) (.int .i64))) (.int .i64))) r_28)], [], .tup [(false, [.imm (.opt (.pair (.slice (.pair (.int .i64) (.int .i64))) (.int .i64))) r_74.1]), (false, [.val (.int .i64 r_74.2)])], [], [], 2⟩)] [] (calls_cons (algebra_Xor_spec K r_26 r_28 r_74 h_75) (by kernel_rfl) calls_nil) 2 [2, 7, 8, 9, 10, 11, 12] [0, 1] ⟨[(2, .c (.val (.string s_3))), (7, .c (.h 0)), (8, .c (.h 1)), (9, .c (.imm (.opt (.pair (.slice (.pair (.int .i64) (.int .i64))) (.int .i64))) r_26)), (10, .c (.imm (.opt (.pair (.slice (.pair (.int .i64) (.int .i64))) (.int .i64))) r_28)), (11, .c (.imm (.opt (.pair (.slice (.pair (.int .i64) (.int .i64))) (.int .i64))) r_74.1)), (12, .c (.val (.int .i64 r_74.2)))], [(0, .row (.int .i64) r_20), (1, .row (.int .i64) r_22)], 2⟩ [] (by kernel_rfl) rfl rfl ap0 (by kernel_rfl) (by kernel_rfl) ?_
                refine V_run hN hn 1 2 [2, 7, 8, 9, 10, 11, 12] [0, 1] ⟨[(2, .c (.val (.string s_3))), (7, .c (.h 0)), (8, .c (.h 1)), (9, .c (.imm (.opt (.pair (.slice (.pair (.int .i64) (.int .i64))) (.int .i64))) r_26)), (10, .c (.imm (.opt (.pair (.slice (.pair (.int .i64) (.int .i64))) (.int .i64))) r_28)), (11, .c (.imm (.opt (.pair (.slice (.pair (.int .i64) (.int .i64))) (.int .i64))) r_74.1)), (12, .c (.val (.int .i64 r_74.2)))], [(0, .row (.int .i64) r_20), (1, .row (.int .i64) r_22)], 2⟩ [] (by kernel_rfl) rfl rfl ap0 ?_
                obtain ⟨r_78, h_79, H_193⟩ := of_bind H_192
                refine V_reg hN hn [(2, ⟨17, 2, [.c (.val (.int .i64 (2 : Int))), .c (.h 0), .c (.h 1)], [(0, .row (.int .i64) r_20), (1, .row (.int .i64) r_22)], .tup [(false, [.imm (.slice (.int .i64)) r_78.1]), (false, [.val (.int .i64 r_78.2)])], [(0, .row (.int .i64) r_20), (1, .row (.int .i64) r_22)], [(0, 0), (1, 1)], 2⟩)] [] (calls_cons (palinoderef7_Two_grr_spec K (2 : Int) r_20 r_22 r_78 h_79) (by kernel_rfl) calls_nil) 2 [2, 7, 8, 9, 10, 11, 12, 13, 14] [0, 1] ⟨[(2, .c (.val (.string s_3))), (7, .c (.h 0)), (8, .c (.h 1)), (9, .c (.imm (.opt (.pair (.slice (.pair (.int .i64) (.int .i64))) (.int .i64))) r_26)), (10, .c (.imm (.opt (.pair (.slice (.pair (.int .i64) (.int .i64))) (.int .i64))) r_28)), (11, .c (.imm (.opt (.pair (.slice (.pair (.int .i64) (.int .i64))) (.int .i64))) r_74.1)), (12, .c (.val (.int .i64 r_74.2))), (13, .c (.imm (.slice (.int .i64)) r_78.1)), (14, .c (.val (.int .i64 r_78.2)))], [(0, .row (.int .i64) r_20), (1, .row (.int .i64) r_22)], 2⟩ [] (by kernel_rfl) rfl rfl ap0 (by kernel_rfl) (by kernel_rfl) ?_
                refine V_run hN hn 2 2 [2, 7, 8, 9, 10, 11, 12, 13, 14] [0, 1] ⟨[(2, .c (.val (.string s_3))), (7, .c (.h 0)), (8, .c (.h 1)), (9, .c (.imm (.opt (.pair (.slice (.pair (.int .i64) (.int .i64))) (.int .i64))) r_26)), (10, .c (.imm (.opt (.pair (.slice (.pair (.int .i64) (.int .i64))) (.int .i64))) r_28)), (11, .c (.imm (.opt (.pair (.slice (.pair (.int .i64) (.int .i64))) (.int .i64))) r_74.1)), (12, .c (.val (.int .i64 r_74.2))), (13, .c (.imm (.slice (.int .i64)) r_78.1)), (14, .c (.val (.int .i64 r_78.2)))], [(0, .row (.int .i64) r_20), (1, .row (.int .i64) r_22)], 2⟩ [] (by kernel_rfl) rfl rfl ap0 ?_
                obtain ⟨r_82, h_83, H_194⟩ := of_bind H_193
                refine V_reg hN hn [(4, ⟨18, 0, [.c (.imm (.opt (.pair (.slice (.pair (.int .i64) (.int .i64))) (.int .i64))) r_74.1), .c (.val (.int .i64 r_74.2)), .c (.imm (.slice (.int .i64)) r_78.1), .c (.val (.int .i64 r_78.2))], [], .c (.val (.bool r_82)), [], [], 2⟩)] [] (calls_cons (palinodelaw8_told_spec K r_74.1 r_74.2 r_78.1 r_78.2 r_82 h_83) (by kernel_rfl) calls_nil) 2 [2, 7, 8, 9, 10, 111] [0, 1] ⟨[(2, .c (.val (.string s_3))), (7, .c (.h 0)), (8, .c (.h 1)), (9, .c (.imm (.opt (.pair (.slice (.pair (.int .i64) (.int .i64))) (.int .i64))) r_26)), (10, .c (.imm (.opt (.pair (.slice (.pair (.int .i64) (.int .i64))) (.int .i64))) r_28)), (111, .c (.val (.bool (!r_82))))], [(0, .row (.int .i64) r_20), (1, .row (.int .i64) r_22)], 2⟩ [] (by kernel_rfl) rfl rfl ap0 (by kernel_rfl) (by kernel_rfl) ?_
                refine VL_cond ((!r_82)) (by kernel_rfl) ?_ ?_
                · intro b_85; have H_195 := of_t H_194 b_85
                  refine V_run hN hn 2 2 [6] [] ⟨[(6, .c (.val (.bool false)))], [], 2⟩ [] (by kernel_rfl) rfl rfl ap0 ?_
                  have H_197 := Option.some.inj (show some false = some r from H_195); subst H_197
                  refine VL_ret ?_
                  exact P_to [(6, .c (.val (.bool false)))] [] [] hn (by kernel_rfl) (by kernel_rfl) rfl rfl rfl (QF_retS (by kernel_rfl) (by kernel_rfl) rfl)
                · intro b_85; have H_196 := of_f H_194 b_85
                  refine V_run hN hn 2 2 [2, 7, 8, 9, 10, 111] [0, 1] ⟨[(2, .c (.val (.string s_3))), (7, .c (.h 0)), (8, .c (.h 1)), (9, .c (.imm (.opt (.pair (.slice (.pair (.int .i64) (.int .i64))) (.int .i64))) r_26)), (10, .c (.imm (.opt (.pair (.slice (.pair (.int .i64) (.int .i64))) (.int .i64))) r_28)), (111, .c (.val (.bool (!r_82))))], [(0, .row (.int .i64) r_20), (1, .row (.int .i64) r_22)], 2⟩ [] (by kernel_rfl) rfl rfl ap0 ?_
                  obtain ⟨r_88, h_89, H_198⟩ := of_bind H_196
                  refine V_reg hN hn [(2, ⟨21, 0, [.c (.imm (.opt (.pair (.slice (.pair (.int .i64) (.int .i64))) (.int .i64))) r_26), .c (.imm (.opt (.pair (.slice (.pair (.int .i64) (.int .i64))) (.int .i64))) r_28)], [], .tup [(false, [.imm (.opt (.pair (.slice (.pair (.int .i64) (.int .i64))) (.int .i64))) r_88.1]), (false, [.val (.int .i64 r_88.2)])], [], [], 2⟩)] [] (calls_cons (algebra_Expand_spec K r_26 r_28 r_88 h_89) (by kernel_rfl) calls_nil) 2 [2, 7, 8, 9, 10, 11, 12] [0, 1] ⟨[(2, .c (.val (.string s_3))), (7, .c (.h 0)), (8, .c (.h 1)), (9, .c (.imm (.opt (.pair (.slice (.pair (.int .i64) (.int .i64))) (.int .i64))) r_26)), (10, .c (.imm (.opt (.pair (.slice (.pair (.int .i64) (.int .i64))) (.int .i64))) r_28)), (11, .c (.imm (.opt (.pair (.slice (.pair (.int .i64) (.int .i64))) (.int .i64))) r_88.1)), (12, .c (.val (.int .i64 r_88.2)))], [(0, .row (.int .i64) r_20), (1, .row (.int .i64) r_22)], 2⟩ [] (by kernel_rfl) rfl rfl ap0 (by kernel_rfl) (by kernel_rfl) ?_
                  refine V_run hN hn 1 2 [2, 7, 8, 9, 10, 11, 12] [0, 1] ⟨[(2, .c (.val (.string s_3))), (7, .c (.h 0)), (8, .c (.h 1)), (9, .c (.imm (.opt (.pair (.slice (.pair (.int .i64) (.int .i64))) (.int .i64))) r_26)), (10, .c (.imm (.opt (.pair (.slice (.pair (.int .i64) (.int .i64))) (.int .i64))) r_28)), (11, .c (.imm (.opt (.pair (.slice (.pair (.int .i64) (.int .i64))) (.int .i64))) r_88.1)), (12, .c (.val (.int .i64 r_88.2)))], [(0, .row (.int .i64) r_20), (1, .row (.int .i64) r_22)], 2⟩ [] (by kernel_rfl) rfl rfl ap0 ?_
                  obtain ⟨r_92, h_93, H_199⟩ := of_bind H_198
                  refine V_reg hN hn [(2, ⟨22, 2, [.c (.h 0), .c (.h 1)], [(0, .row (.int .i64) r_20), (1, .row (.int .i64) r_22)], .tup [(false, [.imm (.slice (.int .i64)) r_92.1]), (false, [.val (.int .i64 r_92.2)])], [(0, .row (.int .i64) r_20), (1, .row (.int .i64) r_22)], [(0, 0), (1, 1)], 2⟩)] [] (calls_cons (palinoderef7_Expand_rr_spec K r_20 r_22 r_92 h_93) (by kernel_rfl) calls_nil) 2 [2, 7, 8, 9, 10, 11, 12, 13, 14] [0, 1] ⟨[(2, .c (.val (.string s_3))), (7, .c (.h 0)), (8, .c (.h 1)), (9, .c (.imm (.opt (.pair (.slice (.pair (.int .i64) (.int .i64))) (.int .i64))) r_26)), (10, .c (.imm (.opt (.pair (.slice (.pair (.int .i64) (.int .i64))) (.int .i64))) r_28)), (11, .c (.imm (.opt (.pair (.slice (.pair (.int .i64) (.int .i64))) (.int .i64))) r_88.1)), (12, .c (.val (.int .i64 r_88.2))), (13, .c (.imm (.slice (.int .i64)) r_92.1)), (14, .c (.val (.int .i64 r_92.2)))], [(0, .row (.int .i64) r_20), (1, .row (.int .i64) r_22)], 2⟩ [] (by kernel_rfl) rfl rfl ap0 (by kernel_rfl) (by kernel_rfl) ?_
                  refine V_run hN hn 2 2 [2, 7, 8, 9, 10, 11, 12, 13, 14] [0, 1] ⟨[(2, .c (.val (.string s_3))), (7, .c (.h 0)), (8, .c (.h 1)), (9, .c (.imm (.opt (.pair (.slice (.pair (.int .i64) (.int .i64))) (.int .i64))) r_26)), (10, .c (.imm (.opt (.pair (.slice (.pair (.int .i64) (.int .i64))) (.int .i64))) r_28)), (11, .c (.imm (.opt (.pair (.slice (.pair (.int .i64) (.int .i64))) (.int .i64))) r_88.1)), (12, .c (.val (.int .i64 r_88.2))), (13, .c (.imm (.slice (.int .i64)) r_92.1)), (14, .c (.val (.int .i64 r_92.2)))], [(0, .row (.int .i64) r_20), (1, .row (.int .i64) r_22)], 2⟩ [] (by kernel_rfl) rfl rfl ap0 ?_
                  obtain ⟨r_96, h_97, H_200⟩ := of_bind H_199
                  refine V_reg hN hn [(4, ⟨18, 0, [.c (.imm (.opt (.pair (.slice (.pair (.int .i64) (.int .i64))) (.int .i64))) r_88.1), .c (.val (.int .i64 r_88.2)), .c (.imm (.slice (.int .i64)) r_92.1), .c (.val (.int .i64 r_92.2))], [], .c (.val (.bool r_96)), [], [], 2⟩)] [] (calls_cons (palinodelaw8_told_spec K r_88.1 r_88.2 r_92.1 r_92.2 r_96 h_97) (by kernel_rfl) calls_nil) 2 [2, 7, 8, 9, 10, 129] [0, 1] ⟨[(2, .c (.val (.string s_3))), (7, .c (.h 0)), (8, .c (.h 1)), (9, .c (.imm (.opt (.pair (.slice (.pair (.int .i64) (.int .i64))) (.int .i64))) r_26)), (10, .c (.imm (.opt (.pair (.slice (.pair (.int .i64) (.int .i64))) (.int .i64))) r_28)), (129, .c (.val (.bool (!r_96))))], [(0, .row (.int .i64) r_20), (1, .row (.int .i64) r_22)], 2⟩ [] (by kernel_rfl) rfl rfl ap0 (by kernel_rfl) (by kernel_rfl) ?_
                  refine VL_cond ((!r_96)) (by kernel_rfl) ?_ ?_
                  · intro b_99; have H_201 := of_t H_200 b_99
                    refine V_run hN hn 2 2 [6] [] ⟨[(6, .c (.val (.bool false)))], [], 2⟩ [] (by kernel_rfl) rfl rfl ap0 ?_
                    have H_203 := Option.some.inj (show some false = some r from H_201); subst H_203
                    refine VL_ret ?_
                    exact P_to [(6, .c (.val (.bool false)))] [] [] hn (by kernel_rfl) (by kernel_rfl) rfl rfl rfl (QF_retS (by kernel_rfl) (by kernel_rfl) rfl)
                  · intro b_99; have H_202 := of_f H_200 b_99
                    refine V_run hN hn 2 2 [2, 7, 8, 9, 10, 129] [0, 1] ⟨[(2, .c (.val (.string s_3))), (7, .c (.h 0)), (8, .c (.h 1)), (9, .c (.imm (.opt (.pair (.slice (.pair (.int .i64) (.int .i64))) (.int .i64))) r_26)), (10, .c (.imm (.opt (.pair (.slice (.pair (.int .i64) (.int .i64))) (.int .i64))) r_28)), (129, .c (.val (.bool (!r_96))))], [(0, .row (.int .i64) r_20), (1, .row (.int .i64) r_22)], 2⟩ [] (by kernel_rfl) rfl rfl ap0 ?_
                    obtain ⟨r_102, h_103, H_204⟩ := of_bind H_202
                    refine V_reg hN hn [(2, ⟨23, 0, [.c (.imm (.opt (.pair (.slice (.pair (.int .i64) (.int .i64))) (.int .i64))) r_26), .c (.imm (.opt (.pair (.slice (.pair (.int .i64) (.int .i64))) (.int .i64))) r_28)], [], .tup [(false, [.imm (.opt (.pair (.slice (.pair (.int .i64) (.int .i64))) (.int .i64))) r_102.1]), (false, [.val (.int .i64 r_102.2)])], [], [], 2⟩)] [] (calls_cons (algebra_Shrink_spec K r_26 r_28 r_102 h_103) (by kernel_rfl) calls_nil) 2 [2, 7, 8, 9, 11, 12] [0, 1] ⟨[(2, .c (.val (.string s_3))), (7, .c (.h 0)), (8, .c (.h 1)), (9, .c (.imm (.opt (.pair (.slice (.pair (.int .i64) (.int .i64))) (.int .i64))) r_26)), (11, .c (.imm (.opt (.pair (.slice (.pair (.int .i64) (.int .i64))) (.int .i64))) r_102.1)), (12, .c (.val (.int .i64 r_102.2)))], [(0, .row (.int .i64) r_20), (1, .row (.int .i64) r_22)], 2⟩ [] (by kernel_rfl) rfl rfl ap0 (by kernel_rfl) (by kernel_rfl) ?_
                    refine V_run hN hn 1 2 [2, 7, 8, 9, 11, 12] [0, 1] ⟨[(2, .c (.val (.string s_3))), (7, .c (.h 0)), (8, .c (.h 1)), (9, .c (.imm (.opt (.pair (.slice (.pair (.int .i64) (.int .i64))) (.int .i64))) r_26)), (11, .c (.imm (.opt (.pair (.slice (.pair (.int .i64) (.int .i64))) (.int .i64))) r_102.1)), (12, .c (.val (.int .i64 r_102.2)))], [(0, .row (.int .i64) r_20), (1, .row (.int .i64) r_22)], 2⟩ [] (by kernel_rfl) rfl rfl ap0 ?_
                    obtain ⟨r_106, h_107, H_205⟩ := of_bind H_204
                    refine V_reg hN hn [(2, ⟨24, 2, [.c (.h 0), .c (.h 1)], [(0, .row (.int .i64) r_20), (1, .row (.int .i64) r_22)], .tup [(false, [.imm (.slice (.int .i64)) r_106.1]), (false, [.val (.int .i64 r_106.2)])], [(0, .row (.int .i64) r_20), (1, .row (.int .i64) r_22)], [(0, 0), (1, 1)], 2⟩)] [] (calls_cons (palinoderef7_Shrink_rr_spec K r_20 r_22 r_106 h_107) (by kernel_rfl) calls_nil) 2 [2, 7, 9, 11, 12, 13, 14] [0] ⟨[(2, .c (.val (.string s_3))), (7, .c (.h 0)), (9, .c (.imm (.opt (.pair (.slice (.pair (.int .i64) (.int .i64))) (.int .i64))) r_26)), (11, .c (.imm (.opt (.pair (.slice (.pair (.int .i64) (.int .i64))) (.int .i64))) r_102.1)), (12, .c (.val (.int .i64 r_102.2))), (13, .c (.imm (.slice (.int .i64)) r_106.1)), (14, .c (.val (.int .i64 r_106.2)))], [(0, .row (.int .i64) r_20)], 2⟩ [] (by kernel_rfl) rfl rfl ap0 (by kernel_rfl) (by kernel_rfl) ?_
                    refine V_run hN hn 2 2 [2, 7, 9, 11, 12, 13, 14] [0] ⟨[(2, .c (.val (.string s_3))), (7, .c (.h 0)), (9, .c (.imm (.opt (.pair (.slice (.pair (.int .i64) (.int .i64))) (.int .i64))) r_26)), (11, .c (.imm (.opt (.pair (.slice (.pair (.int .i64) (.int .i64))) (.int .i64))) r_102.1)), (12, .c (.val (.int .i64 r_102.2))), (13, .c (.imm (.slice (.int .i64)) r_106.1)), (14, .c (.val (.int .i64 r_106.2)))], [(0, .row (.int .i64) r_20)], 2⟩ [] (by kernel_rfl) rfl rfl ap0 ?_
                    obtain ⟨r_110, h_111, H_206⟩ := of_bind H_205
                    refine V_reg hN hn [(4, ⟨18, 0, [.c (.imm (.opt (.pair (.slice (.pair (.int .i64) (.int .i64))) (.int .i64))) r_102.1), .c (.val (.int .i64 r_102.2)), .c (.imm (.slice (.int .i64)) r_106.1), .c (.val (.int .i64 r_106.2))], [], .c (.val (.bool r_110)), [], [], 2⟩)] [] (calls_cons (palinodelaw8_told_spec K r_102.1 r_102.2 r_106.1 r_106.2 r_110 h_111) (by kernel_rfl) calls_nil) 2 [2, 7, 9, 147] [0] ⟨[(2, .c (.val (.string s_3))), (7, .c (.h 0)), (9, .c (.imm (.opt (.pair (.slice (.pair (.int .i64) (.int .i64))) (.int .i64))) r_26)), (147, .c (.val (.bool (!r_110))))], [(0, .row (.int .i64) r_20)], 2⟩ [] (by kernel_rfl) rfl rfl ap0 (by kernel_rfl) (by kernel_rfl) ?_
                    refine VL_cond ((!r_110)) (by kernel_rfl) ?_ ?_
                    · intro b_113; have H_207 := of_t H_206 b_113
                      refine V_run hN hn 2 2 [6] [] ⟨[(6, .c (.val (.bool false)))], [], 2⟩ [] (by kernel_rfl) rfl rfl ap0 ?_
                      have H_209 := Option.some.inj (show some false = some r from H_207); subst H_209
                      refine VL_ret ?_
                      exact P_to [(6, .c (.val (.bool false)))] [] [] hn (by kernel_rfl) (by kernel_rfl) rfl rfl rfl (QF_retS (by kernel_rfl) (by kernel_rfl) rfl)
                    · intro b_113; have H_208 := of_f H_206 b_113
                      refine V_run hN hn 2 2 [2, 7, 9, 147] [0] ⟨[(2, .c (.val (.string s_3))), (7, .c (.h 0)), (9, .c (.imm (.opt (.pair (.slice (.pair (.int .i64) (.int .i64))) (.int .i64))) r_26)), (147, .c (.val (.bool (!r_110))))], [(0, .row (.int .i64) r_20)], 2⟩ [] (by kernel_rfl) rfl rfl ap0 ?_
                      obtain ⟨r_116, h_117, H_210⟩ := of_bind H_208
                      refine V_reg hN hn [(2, ⟨12, 0, [.c (.imm (.opt (.pair (.slice (.pair (.int .i64) (.int .i64))) (.int .i64))) r_26), .c (.val (.string s_3))], [], .tup [(false, [.val (.string r_116.1)]), (false, [.val (.int .i64 r_116.2)])], [], [], 2⟩)] [] (calls_cons (algebra_Delete_spec K r_26 s_3 r_116 h_117) (by kernel_rfl) calls_nil) 2 [2, 7, 9, 15, 16] [0] ⟨[(2, .c (.val (.string s_3))), (7, .c (.h 0)), (9, .c (.imm (.opt (.pair (.slice (.pair (.int .i64) (.int .i64))) (.int .i64))) r_26)), (15, .c (.val (.string r_116.1))), (16, .c (.val (.int .i64 r_116.2)))], [(0, .row (.int .i64) r_20)], 2⟩ [] (by kernel_rfl) rfl rfl ap0 (by kernel_rfl) (by kernel_rfl) ?_
                      refine V_run hN hn 1 2 [2, 7, 9, 15, 16] [0] ⟨[(2, .c (.val (.string s_3))), (7, .c (.h 0)), (9, .c (.imm (.opt (.pair (.slice (.pair (.int .i64) (.int .i64))) (.int .i64))) r_26)), (15, .c (.val (.string r_116.1))), (16, .c (.val (.int .i64 r_116.2)))], [(0, .row (.int .i64) r_20)], 2⟩ [] (by kernel_rfl) rfl rfl ap0 ?_
                      obtain ⟨r_120, h_121, H_211⟩ := of_bind H_210
                      refine V_reg hN hn [(2, ⟨25, 1, [.c (.h 0), .c (.val (.string s_3))], [(0, .row (.int .i64) r_20)], .tup [(false, [.val (.string r_120.1)]), (false, [.val (.bool r_120.2)])], [(0, .row (.int .i64) r_20)], [(0, 0)], 2⟩)] [] (calls_cons (palinoderef7_Delete_rg_spec K r_20 s_3 r_120 h_121) (by kernel_rfl) calls_nil) 2 [7, 9, 15, 16, 17, 18] [0] ⟨[(7, .c (.h 0)), (9, .c (.imm (.opt (.pair (.slice (.pair (.int .i64) (.int .i64))) (.int .i64))) r_26)), (15, .c (.val (.string r_116.1))), (16, .c (.val (.int .i64 r_116.2))), (17, .c (.val (.string r_120.1))), (18, .c (.val (.bool r_120.2)))], [(0, .row (.int .i64) r_20)], 2⟩ [] (by kernel_rfl) rfl rfl ap0 (by kernel_rfl) (by kernel_rfl) ?_
                      refine V_run hN hn 1 2 [7, 9, 15, 16, 17, 18] [0] ⟨[(7, .c (.h 0)), (9, .c (.imm (.opt (.pair (.slice (.pair (.int .i64) (.int .i64))) (.int .i64))) r_26)), (15, .c (.val (.string r_116.1))), (16, .c (.val (.int .i64 r_116.2))), (17, .c (.val (.string r_120.1))), (18, .c (.val (.bool r_120.2)))], [(0, .row (.int .i64) r_20)], 2⟩ [] (by kernel_rfl) rfl rfl ap0 ?_
                      obtain ⟨r_124, h_125, H_212⟩ := of_bind H_211
                      obtain ⟨r_126, h_127, H_213⟩ := of_bind H_212
                      obtain ⟨r_128, h_129, H_214⟩ := of_bind H_213
                      rcases Bool.eq_false_or_eq_true (r_128) with b_130 | b_130
                      · have H_215 := of_t H_214 b_130
                        rcases Bool.eq_false_or_eq_true ((ByteArray.toList r_116.1 == ByteArray.toList r_120.1)) with b_131 | b_131
                        · have H_217 := of_t H_215 b_131
                          rcases Bool.eq_false_or_eq_true (((r_116.2 == (0 : Int)) == r_120.2)) with b_132 | b_132
                          · have H_219 := of_t H_217 b_132
                            rcases Bool.eq_false_or_eq_true (r_120.2) with b_133 | b_133
                            · have H_221 := of_t H_219 b_133
                              refine V_reg hN hn [(1, ⟨13, 0, [.c (.imm (.opt (.pair (.slice (.pair (.int .i64) (.int .i64))) (.int .i64))) r_26)], [], .c (.imm (.opt (.pair (.slice (.pair (.int .i64) (.int .i64))) (.int .i64))) r_124), [], [], 2⟩), (3, ⟨27, 1, [.c (.h 0)], [(0, .row (.int .i64) r_20)], .c (.h 1), [(0, .row (.int .i64) r_20), (1, .row (.int .i64) r_126)], [(0, 0), (1, 2)], 3⟩), (4, ⟨26, 1, [.c (.imm (.opt (.pair (.slice (.pair (.int .i64) (.int .i64))) (.int .i64))) r_124), .c (.h 0)], [(0, .row (.int .i64) r_126)], .c (.val (.bool r_128)), [(0, .row (.int .i64) r_126)], [(0, 2)], 3⟩)] [(165, true), (170, true), (176, true), (178, true)] (calls_cons (algebra_Not_spec K r_26 r_124 h_125) (by kernel_rfl) (calls_cons (palinoderef7_Not_r_spec K r_20 r_126 h_127) (by kernel_rfl) (calls_cons (palinodelaw8_is_gr_spec K r_124 r_126 r_128 h_129) (by kernel_rfl) calls_nil))) 2 [6] [] ⟨[(6, .c (.val (.bool true)))], [], 3⟩ [r_128 = true, (ByteArray.toList r_116.1 == ByteArray.toList r_120.1) = true, ((r_116.2 == (0 : Int)) == r_120.2) = true, r_120.2 = true] (by kernel_rfl) rfl rfl (ap2 b_130 (ap2 b_131 (ap2 b_132 (ap1 b_133)))) (by kernel_rfl) (by kernel_rfl) ?_
                              have H_223 := Option.some.inj (show some true = some r from H_221); subst H_223
                              refine VL_ret ?_
                              exact P_to [(6, .c (.val (.bool true)))] [] [] hn (by kernel_rfl) (by kernel_rfl) rfl rfl rfl (QF_retS (by kernel_rfl) (by kernel_rfl) rfl)
                            · have H_222 := of_f H_219 b_133
                              refine V_reg hN hn [(1, ⟨13, 0, [.c (.imm (.opt (.pair (.slice (.pair (.int .i64) (.int .i64))) (.int .i64))) r_26)], [], .c (.imm (.opt (.pair (.slice (.pair (.int .i64) (.int .i64))) (.int .i64))) r_124), [], [], 2⟩), (3, ⟨27, 1, [.c (.h 0)], [(0, .row (.int .i64) r_20)], .c (.h 1), [(0, .row (.int .i64) r_20), (1, .row (.int .i64) r_126)], [(0, 0), (1, 2)], 3⟩), (4, ⟨26, 1, [.c (.imm (.opt (.pair (.slice (.pair (.int .i64) (.int .i64))) (.int .i64))) r_124), .c (.h 0)], [(0, .row (.int .i64) r_126)], .c (.val (.bool r_128)), [(0, .row (.int .i64) r_126)], [(0, 2)], 3⟩)] [(165, true), (170, true), (176, true), (178, false)] (calls_cons (algebra_Not_spec K r_26 r_124 h_125) (by kernel_rfl) (calls_cons (palinoderef7_Not_r_spec K r_20 r_126 h_127) (by kernel_rfl) (calls_cons (palinodelaw8_is_gr_spec K r_124 r_126 r_128 h_129) (by kernel_rfl) calls_nil))) 2 [6] [] ⟨[(6, .c (.val (.bool (r_116.2 == (80 : Int)))))], [], 3⟩ [r_128 = true, (ByteArray.toList r_116.1 == ByteArray.toList r_120.1) = true, ((r_116.2 == (0 : Int)) == r_120.2) = true, r_120.2 = false] (by kernel_rfl) rfl rfl (ap2 b_130 (ap2 b_131 (ap2 b_132 (ap1 b_133)))) (by kernel_rfl) (by kernel_rfl) ?_
                              have H_224 := Option.some.inj (show some (r_116.2 == (80 : Int)) = some r from H_222); subst H_224
                              refine VL_ret ?_
                              exact P_to [(6, .c (.val (.bool (r_116.2 == (80 : Int)))))] [] [] hn (by kernel_rfl) (by kernel_rfl) rfl rfl rfl (QF_retS (by kernel_rfl) (by kernel_rfl) rfl)
                          · have H_220 := of_f H_217 b_132
                            refine V_reg hN hn [(1, ⟨13, 0, [.c (.imm (.opt (.pair (.slice (.pair (.int .i64) (.int .i64))) (.int .i64))) r_26)], [], .c (.imm (.opt (.pair (.slice (.pair (.int .i64) (.int .i64))) (.int .i64))) r_124), [], [], 2⟩), (3, ⟨27, 1, [.c (.h 0)], [(0, .row (.int .i64) r_20)], .c (.h 1), [(0, .row (.int .i64) r_20), (1, .row (.int .i64) r_126)], [(0, 0), (1, 2)], 3⟩), (4, ⟨26, 1, [.c (.imm (.opt (.pair (.slice (.pair (.int .i64) (.int .i64))) (.int .i64))) r_124), .c (.h 0)], [(0, .row (.int .i64) r_126)], .c (.val (.bool r_128)), [(0, .row (.int .i64) r_126)], [(0, 2)], 3⟩)] [(165, true), (170, true), (176, false)] (calls_cons (algebra_Not_spec K r_26 r_124 h_125) (by kernel_rfl) (calls_cons (palinoderef7_Not_r_spec K r_20 r_126 h_127) (by kernel_rfl) (calls_cons (palinodelaw8_is_gr_spec K r_124 r_126 r_128 h_129) (by kernel_rfl) calls_nil))) 2 [6] [] ⟨[(6, .c (.val (.bool false)))], [], 3⟩ [r_128 = true, (ByteArray.toList r_116.1 == ByteArray.toList r_120.1) = true, ((r_116.2 == (0 : Int)) == r_120.2) = false] (by kernel_rfl) rfl rfl (ap2 b_130 (ap2 b_131 (ap1 b_132))) (by kernel_rfl) (by kernel_rfl) ?_
                            have H_225 := Option.some.inj (show some false = some r from H_220); subst H_225
                            refine VL_ret ?_
                            exact P_to [(6, .c (.val (.bool false)))] [] [] hn (by kernel_rfl) (by kernel_rfl) rfl rfl rfl (QF_retS (by kernel_rfl) (by kernel_rfl) rfl)
                        · have H_218 := of_f H_215 b_131
                          refine V_reg hN hn [(1, ⟨13, 0, [.c (.imm (.opt (.pair (.slice (.pair (.int .i64) (.int .i64))) (.int .i64))) r_26)], [], .c (.imm (.opt (.pair (.slice (.pair (.int .i64) (.int .i64))) (.int .i64))) r_124), [], [], 2⟩), (3, ⟨27, 1, [.c (.h 0)], [(0, .row (.int .i64) r_20)], .c (.h 1), [(0, .row (.int .i64) r_20), (1, .row (.int .i64) r_126)], [(0, 0), (1, 2)], 3⟩), (4, ⟨26, 1, [.c (.imm (.opt (.pair (.slice (.pair (.int .i64) (.int .i64))) (.int .i64))) r_124), .c (.h 0)], [(0, .row (.int .i64) r_126)], .c (.val (.bool r_128)), [(0, .row (.int .i64) r_126)], [(0, 2)], 3⟩)] [(165, true), (170, false)] (calls_cons (algebra_Not_spec K r_26 r_124 h_125) (by kernel_rfl) (calls_cons (palinoderef7_Not_r_spec K r_20 r_126 h_127) (by kernel_rfl) (calls_cons (palinodelaw8_is_gr_spec K r_124 r_126 r_128 h_129) (by kernel_rfl) calls_nil))) 2 [6] [] ⟨[(6, .c (.val (.bool false)))], [], 3⟩ [r_128 = true, (ByteArray.toList r_116.1 == ByteArray.toList r_120.1) = false] (by kernel_rfl) rfl rfl (ap2 b_130 (ap1 b_131)) (by kernel_rfl) (by kernel_rfl) ?_
                          have H_226 := Option.some.inj (show some false = some r from H_218); subst H_226
                          refine VL_ret ?_
                          exact P_to [(6, .c (.val (.bool false)))] [] [] hn (by kernel_rfl) (by kernel_rfl) rfl rfl rfl (QF_retS (by kernel_rfl) (by kernel_rfl) rfl)
                      · have H_216 := of_f H_214 b_130
                        refine V_reg hN hn [(1, ⟨13, 0, [.c (.imm (.opt (.pair (.slice (.pair (.int .i64) (.int .i64))) (.int .i64))) r_26)], [], .c (.imm (.opt (.pair (.slice (.pair (.int .i64) (.int .i64))) (.int .i64))) r_124), [], [], 2⟩), (3, ⟨27, 1, [.c (.h 0)], [(0, .row (.int .i64) r_20)], .c (.h 1), [(0, .row (.int .i64) r_20), (1, .row (.int .i64) r_126)], [(0, 0), (1, 2)], 3⟩), (4, ⟨26, 1, [.c (.imm (.opt (.pair (.slice (.pair (.int .i64) (.int .i64))) (.int .i64))) r_124), .c (.h 0)], [(0, .row (.int .i64) r_126)], .c (.val (.bool r_128)), [(0, .row (.int .i64) r_126)], [(0, 2)], 3⟩)] [(165, false)] (calls_cons (algebra_Not_spec K r_26 r_124 h_125) (by kernel_rfl) (calls_cons (palinoderef7_Not_r_spec K r_20 r_126 h_127) (by kernel_rfl) (calls_cons (palinodelaw8_is_gr_spec K r_124 r_126 r_128 h_129) (by kernel_rfl) calls_nil))) 2 [6] [] ⟨[(6, .c (.val (.bool false)))], [], 3⟩ [r_128 = false] (by kernel_rfl) rfl rfl (ap1 b_130) (by kernel_rfl) (by kernel_rfl) ?_
                        have H_227 := Option.some.inj (show some false = some r from H_216); subst H_227
                        refine VL_ret ?_
                        exact P_to [(6, .c (.val (.bool false)))] [] [] hn (by kernel_rfl) (by kernel_rfl) rfl rfl rfl (QF_retS (by kernel_rfl) (by kernel_rfl) rfl)

end Go.Pal
