/- The Go functions that FactorTells reaches compute what the plain functions say: part 2, printed by a program of this workplace. -/
import Derived.Test.YtmeleoadgjbmfaaChecked
import Derived.Test.YtmeleoadgjbmfaaWalkFactorTells1
namespace Go.Pal
open Go Go.Proofs
set_option maxRecDepth 100000
set_option linter.unusedVariables false

theorem palinoderef11_Split_spec (K : Nat) (d_1 : Int) (d_2 : (List (Int × (Int × ByteArray)))) (r : ((List (Int × Int)) × (List Int))) (H : palinoderef11_Split K d_1 d_2 = some r) : Spec Try.prog 15 0 [.agg [.val (.int .i64 d_1), .imm (.slice (.pair (.int .i64) (.pair (.int .i64) .str))) d_2]] [] (.tup [(false, [.h 14]), (false, [.h 1])]) [(1, .row (.int .i64) r.2), (14, .row (.pair (.int .i64) (.int .u8)) r.1)] := by
  refine Spec_mk (fn := Try.f15) (c := (Try.f15.body).get!) Try.func15 (by kernel_rfl) rfl ?_
  intro C hN hn
  replace hN : C.N = 77 := hN
  unfold palinoderef11_Split at H
  obtain ⟨c_3, H_130⟩ := of_if H
  refine V_run hN hn 11 0 [1, 4, 5, 6, 7] [0, 1] ⟨[(1, .c (.h 0)), (4, .c (.val (.slice none 0 0))), (5, .c (.h 1)), (6, .c (.val (.int .i64 (0 : Int)))), (7, .c (.val (.int .i64 (0 : Int))))], [(0, .box [.val (.int .i64 d_1), .imm (.slice (.pair (.int .i64) (.pair (.int .i64) .str))) d_2]), (1, .row (.int .i64) (List.replicate (Int.toNat d_1) (0 : Int)))], 2⟩ [(0 : Int) ≤ d_1, d_1 ≤ d_1, d_1 * 8 ≤ (140737488355328 : Int), d_1 ≤ (9223372036854775807 : Int)] (by kernel_rfl) rfl rfl (ap2 c_3.1 (ap2 c_3.2.1 (ap2 c_3.2.2.1 (ap1 c_3.2.2.2)))) ?_
  obtain ⟨q_131, H_132, H_133⟩ := of_bind H_130
  refine V_cut (Y := ((List (Int × Int)) × (List Int) × Int)) (R := ((List (Int × Int)) × (List Int) × Int)) q_131 (fun y => y) (fun y => [(1, .c (.h 0)), (4, .c (.h 11)), (5, .c (.h 1)), (6, .c (.val (.int .i64 y.2.2)))]) (fun y => [(0, .box [.val (.int .i64 d_1), .imm (.slice (.pair (.int .i64) (.pair (.int .i64) .str))) d_2]), (1, .row (.int .i64) y.2.1), (11, .row (.pair (.int .i64) (.int .u8)) y.1)]) ?_ ?_
  · skip
    refine VL_block ?_
    refine V_ghost [.nilSlot 4 (.pair (.int .i64) (.int .u8))] 2 hn [1, 4, 5, 6, 7] [0, 1, 2] ⟨[(1, .c (.h 0)), (4, .c (.h 2)), (5, .c (.h 1)), (6, .c (.val (.int .i64 (0 : Int)))), (7, .c (.val (.int .i64 (0 : Int))))], [(0, .box [.val (.int .i64 d_1), .imm (.slice (.pair (.int .i64) (.pair (.int .i64) .str))) d_2]), (1, .row (.int .i64) (List.replicate (Int.toNat d_1) (0 : Int))), (2, .row (.pair (.int .i64) (.int .u8)) ([] : List (Int × Int)))], 3⟩ (by kernel_rfl) rfl rfl ?_
    refine V_to [(1, .c (.h 0)), (4, .c (.h 11)), (5, .c (.h 1)), (6, .c (.val (.int .i64 (0 : Int)))), (7, .c (.val (.int .i64 (0 : Int))))] [(0, .box [.val (.int .i64 d_1), .imm (.slice (.pair (.int .i64) (.pair (.int .i64) .str))) d_2]), (1, .row (.int .i64) (List.replicate (Int.toNat d_1) (0 : Int))), (11, .row (.pair (.int .i64) (.int .u8)) ([] : List (Int × Int)))] [(0, 0), (1, 1), (11, 2)] hn (by kernel_rfl) (by kernel_rfl) rfl rfl rfl ?_
    refine VL_loop (X := ((List (Int × Int)) × (List Int) × Int × Int)) (fun x => [(1, .c (.h 0)), (4, .c (.h 11)), (5, .c (.h 1)), (6, .c (.val (.int .i64 x.2.2.1))), (7, .c (.val (.int .i64 x.2.2.2)))]) (fun x => [(0, .box [.val (.int .i64 d_1), .imm (.slice (.pair (.int .i64) (.pair (.int .i64) .str))) d_2]), (1, .row (.int .i64) x.2.1), (11, .row (.pair (.int .i64) (.int .u8)) x.1)]) (fun k x => palinoderef11_Split.l0 K d_2 k x.1 x.2.1 x.2.2.1 x.2.2.2 = some q_131) K (([] : List (Int × Int)), (List.replicate (Int.toNat d_1) (0 : Int)), (0 : Int), (0 : Int)) H_132 (fun _ h => no_none h) ?_
    intro k_56 x_56 H_135
    obtain ⟨out_54, del_55, at_4, i_5⟩ := x_56
    have H_136 : palinoderef11_Split.l0 K d_2 (k_56 + 1) out_54 del_55 at_4 i_5 = some q_131 := H_135
    rw [palinoderef11_Split.l0] at H_136
    refine V_run hN hn 3 12 [1, 4, 5, 6, 7, 17] [0, 1, 11] ⟨[(1, .c (.h 0)), (4, .c (.h 11)), (5, .c (.h 1)), (6, .c (.val (.int .i64 at_4))), (7, .c (.val (.int .i64 i_5))), (17, .c (.val (.bool (decide (i_5 < (((List.length d_2) : Nat) : Int))))))], [(0, .box [.val (.int .i64 d_1), .imm (.slice (.pair (.int .i64) (.pair (.int .i64) .str))) d_2]), (1, .row (.int .i64) del_55), (11, .row (.pair (.int .i64) (.int .u8)) out_54)], 12⟩ [] (by kernel_rfl) rfl rfl ap0 ?_
    refine VL_cond ((decide (i_5 < (((List.length d_2) : Nat) : Int)))) (by kernel_rfl) ?_ ?_
    · intro b_58; have H_137 := of_t H_136 b_58
      refine V_run hN hn 2 12 [1, 4, 5, 6, 7, 17] [0, 1, 11] ⟨[(1, .c (.h 0)), (4, .c (.h 11)), (5, .c (.h 1)), (6, .c (.val (.int .i64 at_4))), (7, .c (.val (.int .i64 i_5))), (17, .c (.val (.bool (decide (i_5 < (((List.length d_2) : Nat) : Int))))))], [(0, .box [.val (.int .i64 d_1), .imm (.slice (.pair (.int .i64) (.pair (.int .i64) .str))) d_2]), (1, .row (.int .i64) del_55), (11, .row (.pair (.int .i64) (.int .u8)) out_54)], 12⟩ [] (by kernel_rfl) rfl rfl ap0 ?_
      obtain ⟨q_139, H_140, H_141⟩ := of_bind H_137
      refine V_cut (Y := ((List (Int × Int)) × (List Int) × Int)) (R := ((List (Int × Int)) × (List Int) × Int)) q_139 (fun y => y) (fun y => [(1, .c (.h 0)), (4, .c (.h 19)), (5, .c (.h 1)), (6, .c (.val (.int .i64 y.2.2))), (7, .c (.val (.int .i64 i_5)))]) (fun y => [(0, .box [.val (.int .i64 d_1), .imm (.slice (.pair (.int .i64) (.pair (.int .i64) .str))) d_2]), (1, .row (.int .i64) y.2.1), (19, .row (.pair (.int .i64) (.int .u8)) y.1)]) ?_ ?_
      · skip
        refine VL_block ?_
        obtain ⟨c_60, H_143⟩ := of_if H_140
        refine V_run hN hn 5 12 [1, 4, 5, 6, 7, 8, 27] [0, 1, 11, 12] ⟨[(1, .c (.h 0)), (4, .c (.h 11)), (5, .c (.h 1)), (6, .c (.val (.int .i64 at_4))), (7, .c (.val (.int .i64 i_5))), (8, .c (.h 12)), (27, .c (.val (.bool (ByteArray.toList (List.getD d_2 (Int.toNat i_5) ((0 : Int), ((0 : Int), ByteArray.empty))).2.2 == ByteArray.toList (ByteArray.mk #[])))))], [(0, .box [.val (.int .i64 d_1), .imm (.slice (.pair (.int .i64) (.pair (.int .i64) .str))) d_2]), (1, .row (.int .i64) del_55), (11, .row (.pair (.int .i64) (.int .u8)) out_54), (12, .box [.val (.int .i64 (List.getD d_2 (Int.toNat i_5) ((0 : Int), ((0 : Int), ByteArray.empty))).1), .val (.int .i64 (List.getD d_2 (Int.toNat i_5) ((0 : Int), ((0 : Int), ByteArray.empty))).2.1), .val (.string (List.getD d_2 (Int.toNat i_5) ((0 : Int), ((0 : Int), ByteArray.empty))).2.2)])], 13⟩ [0 ≤ i_5, i_5 < (((List.length d_2) : Nat) : Int)] (by kernel_rfl) rfl rfl (ap2 c_60.1 (ap1 c_60.2)) ?_
        obtain ⟨q_144, H_145, H_146⟩ := of_bind H_143
        refine V_cut (Y := ((List (Int × Int)) × (List Int) × Int)) (R := ((List (Int × Int)) × (List Int) × Int)) q_144 (fun y => y) (fun y => [(1, .c (.h 0)), (4, .c (.h 16)), (5, .c (.h 1)), (6, .c (.val (.int .i64 y.2.2))), (7, .c (.val (.int .i64 i_5))), (8, .c (.h 12))]) (fun y => [(0, .box [.val (.int .i64 d_1), .imm (.slice (.pair (.int .i64) (.pair (.int .i64) .str))) d_2]), (1, .row (.int .i64) y.2.1), (12, .box [.val (.int .i64 (List.getD d_2 (Int.toNat i_5) ((0 : Int), ((0 : Int), ByteArray.empty))).1), .val (.int .i64 (List.getD d_2 (Int.toNat i_5) ((0 : Int), ((0 : Int), ByteArray.empty))).2.1), .val (.string (List.getD d_2 (Int.toNat i_5) ((0 : Int), ((0 : Int), ByteArray.empty))).2.2)]), (16, .row (.pair (.int .i64) (.int .u8)) y.1)]) ?_ ?_
        · skip
          refine VL_cond ((ByteArray.toList (List.getD d_2 (Int.toNat i_5) ((0 : Int), ((0 : Int), ByteArray.empty))).2.2 == ByteArray.toList (ByteArray.mk #[]))) (by kernel_rfl) ?_ ?_
          · intro b_61; have H_148 := of_t H_145 b_61
            refine VL_block ?_
            refine V_to [(1, .c (.h 0)), (4, .c (.h 15)), (5, .c (.h 1)), (6, .c (.val (.int .i64 at_4))), (7, .c (.val (.int .i64 i_5))), (8, .c (.h 12))] [(0, .box [.val (.int .i64 d_1), .imm (.slice (.pair (.int .i64) (.pair (.int .i64) .str))) d_2]), (1, .row (.int .i64) del_55), (12, .box [.val (.int .i64 (List.getD d_2 (Int.toNat i_5) ((0 : Int), ((0 : Int), ByteArray.empty))).1), .val (.int .i64 (List.getD d_2 (Int.toNat i_5) ((0 : Int), ((0 : Int), ByteArray.empty))).2.1), .val (.string (List.getD d_2 (Int.toNat i_5) ((0 : Int), ((0 : Int), ByteArray.empty))).2.2)]), (15, .row (.pair (.int .i64) (.int .u8)) out_54)] [(0, 0), (1, 1), (12, 12), (15, 11)] hn (by kernel_rfl) (by kernel_rfl) rfl rfl rfl ?_
            refine VL_loop (X := ((List (Int × Int)) × (List Int) × Int)) (fun x => [(1, .c (.h 0)), (4, .c (.h 15)), (5, .c (.h 1)), (6, .c (.val (.int .i64 x.2.2))), (7, .c (.val (.int .i64 i_5))), (8, .c (.h 12))]) (fun x => [(0, .box [.val (.int .i64 d_1), .imm (.slice (.pair (.int .i64) (.pair (.int .i64) .str))) d_2]), (1, .row (.int .i64) x.2.1), (12, .box [.val (.int .i64 (List.getD d_2 (Int.toNat i_5) ((0 : Int), ((0 : Int), ByteArray.empty))).1), .val (.int .i64 (List.getD d_2 (Int.toNat i_5) ((0 : Int), ((0 : Int), ByteArray.empty))).2.1), .val (.string (List.getD d_2 (Int.toNat i_5) ((0 : Int), ((0 : Int), ByteArray.empty))).2.2)]), (15, .row (.pair (.int .i64) (.int .u8)) x.1)]) (fun k x => palinoderef11_Split.l1 K d_2 i_5 k x.1 x.2.1 x.2.2 = some q_144) K (out_54, del_55, at_4) H_148 (fun _ h => no_none h) ?_
            intro k_73 x_73 H_150
            obtain ⟨out_71, del_72, at_62⟩ := x_73
            have H_151 : palinoderef11_Split.l1 K d_2 i_5 (k_73 + 1) out_71 del_72 at_62 = some q_144 := H_150
            rw [palinoderef11_Split.l1] at H_151
            refine V_run hN hn 3 16 [1, 4, 5, 6, 7, 8, 31] [0, 1, 12, 15] ⟨[(1, .c (.h 0)), (4, .c (.h 15)), (5, .c (.h 1)), (6, .c (.val (.int .i64 at_62))), (7, .c (.val (.int .i64 i_5))), (8, .c (.h 12)), (31, .c (.val (.bool (decide (at_62 < (List.getD d_2 (Int.toNat i_5) ((0 : Int), ((0 : Int), ByteArray.empty))).2.1)))))], [(0, .box [.val (.int .i64 d_1), .imm (.slice (.pair (.int .i64) (.pair (.int .i64) .str))) d_2]), (1, .row (.int .i64) del_72), (12, .box [.val (.int .i64 (List.getD d_2 (Int.toNat i_5) ((0 : Int), ((0 : Int), ByteArray.empty))).1), .val (.int .i64 (List.getD d_2 (Int.toNat i_5) ((0 : Int), ((0 : Int), ByteArray.empty))).2.1), .val (.string (List.getD d_2 (Int.toNat i_5) ((0 : Int), ((0 : Int), ByteArray.empty))).2.2)]), (15, .row (.pair (.int .i64) (.int .u8)) out_71)], 16⟩ [] (by kernel_rfl) rfl rfl ap0 ?_
            refine VL_cond ((decide (at_62 < (List.getD d_2 (Int.toNat i_5) ((0 : Int), ((0 : Int), ByteArray.empty))).2.1))) (by kernel_rfl) ?_ ?_
            · intro b_75; have H_152 := of_t H_151 b_75
              refine V_run hN hn 1 16 [1, 4, 5, 6, 7, 8, 31] [0, 1, 12, 15] ⟨[(1, .c (.h 0)), (4, .c (.h 15)), (5, .c (.h 1)), (6, .c (.val (.int .i64 at_62))), (7, .c (.val (.int .i64 i_5))), (8, .c (.h 12)), (31, .c (.val (.bool (decide (at_62 < (List.getD d_2 (Int.toNat i_5) ((0 : Int), ((0 : Int), ByteArray.empty))).2.1)))))], [(0, .box [.val (.int .i64 d_1), .imm (.slice (.pair (.int .i64) (.pair (.int .i64) .str))) d_2]), (1, .row (.int .i64) del_72), (12, .box [.val (.int .i64 (List.getD d_2 (Int.toNat i_5) ((0 : Int), ((0 : Int), ByteArray.empty))).1), .val (.int .i64 (List.getD d_2 (Int.toNat i_5) ((0 : Int), ((0 : Int), ByteArray.empty))).2.1), .val (.string (List.getD d_2 (Int.toNat i_5) ((0 : Int), ((0 : Int), ByteArray.empty))).2.2)]), (15, .row (.pair (.int .i64) (.int .u8)) out_71)], 16⟩ [] (by kernel_rfl) rfl rfl ap0 ?_
              refine VL_block ?_
              refine V_run hN hn 3 16 [1, 4, 5, 6, 7, 8, 35] [0, 1, 12, 15] ⟨[(1, .c (.h 0)), (4, .c (.h 15)), (5, .c (.h 1)), (6, .c (.val (.int .i64 at_62))), (7, .c (.val (.int .i64 i_5))), (8, .c (.h 12)), (35, .c (.val (.bool (decide (at_62 < (List.getD d_2 (Int.toNat i_5) ((0 : Int), ((0 : Int), ByteArray.empty))).1)))))], [(0, .box [.val (.int .i64 d_1), .imm (.slice (.pair (.int .i64) (.pair (.int .i64) .str))) d_2]), (1, .row (.int .i64) del_72), (12, .box [.val (.int .i64 (List.getD d_2 (Int.toNat i_5) ((0 : Int), ((0 : Int), ByteArray.empty))).1), .val (.int .i64 (List.getD d_2 (Int.toNat i_5) ((0 : Int), ((0 : Int), ByteArray.empty))).2.1), .val (.string (List.getD d_2 (Int.toNat i_5) ((0 : Int), ((0 : Int), ByteArray.empty))).2.2)]), (15, .row (.pair (.int .i64) (.int .u8)) out_71)], 16⟩ [] (by kernel_rfl) rfl rfl ap0 ?_
              refine VL_cond ((decide (at_62 < (List.getD d_2 (Int.toNat i_5) ((0 : Int), ((0 : Int), ByteArray.empty))).1))) (by kernel_rfl) ?_ ?_
              · intro b_78; have H_154 := of_t H_152 b_78
                obtain ⟨c_79, H_156⟩ := of_if H_154
                refine V_run hN hn 4 16 [1, 4, 5, 6, 7, 8] [0, 1, 12, 17] ⟨[(1, .c (.h 0)), (4, .c (.h 17)), (5, .c (.h 1)), (6, .c (.val (.int .i64 (IntKind.wrap .i64 (at_62 + (1 : Int)))))), (7, .c (.val (.int .i64 i_5))), (8, .c (.h 12))], [(0, .box [.val (.int .i64 d_1), .imm (.slice (.pair (.int .i64) (.pair (.int .i64) .str))) d_2]), (1, .row (.int .i64) (List.set del_72 (Int.toNat at_62) (1 : Int))), (12, .box [.val (.int .i64 (List.getD d_2 (Int.toNat i_5) ((0 : Int), ((0 : Int), ByteArray.empty))).1), .val (.int .i64 (List.getD d_2 (Int.toNat i_5) ((0 : Int), ((0 : Int), ByteArray.empty))).2.1), .val (.string (List.getD d_2 (Int.toNat i_5) ((0 : Int), ((0 : Int), ByteArray.empty))).2.2)]), (17, .row (.pair (.int .i64) (.int .u8)) (out_71 ++ ([(at_62, (0 : Int))] : List (Int × Int))))], 18⟩ [0 ≤ at_62, at_62 < (((List.length del_72) : Nat) : Int), (List.length out_71 + List.length ([(at_62, (0 : Int))] : List (Int × Int))) * 16 ≤ 140737488355328] (by kernel_rfl) rfl rfl (ap2 c_79.1 (ap2 c_79.2.1 (ap1 c_79.2.2))) ?_
                refine VL_nil (QB_end ?_)
                refine VL_nil ?_
                exact V_roundEnd ((out_71 ++ ([(at_62, (0 : Int))] : List (Int × Int))), (List.set del_72 (Int.toNat at_62) (1 : Int)), (IntKind.wrap .i64 (at_62 + (1 : Int)))) H_156 [(0, 0), (1, 1), (12, 12), (15, 17)] hn (by kernel_rfl) (by kernel_rfl) rfl rfl rfl
              · intro b_78; have H_155 := of_f H_152 b_78
                obtain ⟨c_80, H_157⟩ := of_if H_155
                refine V_run hN hn 4 16 [1, 4, 5, 6, 7, 8] [0, 1, 12, 17] ⟨[(1, .c (.h 0)), (4, .c (.h 17)), (5, .c (.h 1)), (6, .c (.val (.int .i64 (IntKind.wrap .i64 (at_62 + (1 : Int)))))), (7, .c (.val (.int .i64 i_5))), (8, .c (.h 12))], [(0, .box [.val (.int .i64 d_1), .imm (.slice (.pair (.int .i64) (.pair (.int .i64) .str))) d_2]), (1, .row (.int .i64) del_72), (12, .box [.val (.int .i64 (List.getD d_2 (Int.toNat i_5) ((0 : Int), ((0 : Int), ByteArray.empty))).1), .val (.int .i64 (List.getD d_2 (Int.toNat i_5) ((0 : Int), ((0 : Int), ByteArray.empty))).2.1), .val (.string (List.getD d_2 (Int.toNat i_5) ((0 : Int), ((0 : Int), ByteArray.empty))).2.2)]), (17, .row (.pair (.int .i64) (.int .u8)) (out_71 ++ ([(at_62, (0 : Int))] : List (Int × Int))))], 18⟩ [(List.length out_71 + List.length ([(at_62, (0 : Int))] : List (Int × Int))) * 16 ≤ 140737488355328] (by kernel_rfl) rfl rfl (ap1 c_80) ?_
                refine VL_nil (QB_end ?_)
                refine VL_nil ?_
                exact V_roundEnd ((out_71 ++ ([(at_62, (0 : Int))] : List (Int × Int))), del_72, (IntKind.wrap .i64 (at_62 + (1 : Int)))) H_157 [(0, 0), (1, 1), (12, 12), (15, 17)] hn (by kernel_rfl) (by kernel_rfl) rfl rfl rfl
            · intro b_75; have H_153 := of_f H_151 b_75
              refine VL_exit ?_
              refine QL_exit ?_
              refine QB_here ?_
              have H_158 := Option.some.inj (show some (out_71, del_72, at_62) = some q_144 from H_153); subst H_158
              refine VL_nil ?_
              exact QP_end (out_71, del_72, at_62) rfl [(0, 0), (1, 1), (12, 12), (16, 15)] hn (by kernel_rfl) (by kernel_rfl) rfl rfl rfl
          · intro b_61; have H_149 := of_f H_145 b_61
            refine V_run hN hn 1 13 [1, 4, 5, 6, 7, 8, 27] [0, 1, 11, 12] ⟨[(1, .c (.h 0)), (4, .c (.h 11)), (5, .c (.h 1)), (6, .c (.val (.int .i64 at_4))), (7, .c (.val (.int .i64 i_5))), (8, .c (.h 12)), (27, .c (.val (.bool (ByteArray.toList (List.getD d_2 (Int.toNat i_5) ((0 : Int), ((0 : Int), ByteArray.empty))).2.2 == ByteArray.toList (ByteArray.mk #[])))))], [(0, .box [.val (.int .i64 d_1), .imm (.slice (.pair (.int .i64) (.pair (.int .i64) .str))) d_2]), (1, .row (.int .i64) del_55), (11, .row (.pair (.int .i64) (.int .u8)) out_54), (12, .box [.val (.int .i64 (List.getD d_2 (Int.toNat i_5) ((0 : Int), ((0 : Int), ByteArray.empty))).1), .val (.int .i64 (List.getD d_2 (Int.toNat i_5) ((0 : Int), ((0 : Int), ByteArray.empty))).2.1), .val (.string (List.getD d_2 (Int.toNat i_5) ((0 : Int), ((0 : Int), ByteArray.empty))).2.2)])], 13⟩ [] (by kernel_rfl) rfl rfl ap0 ?_
            have H_159 := Option.some.inj (show some (out_54, del_55, at_4) = some q_144 from H_149); subst H_159
            refine VL_nil ?_
            exact QP_end (out_54, del_55, at_4) rfl [(0, 0), (1, 1), (12, 12), (16, 11)] hn (by kernel_rfl) (by kernel_rfl) rfl rfl rfl
        · intro y_147 hy; subst hy
          obtain ⟨out_82, del_83, at_84⟩ := y_147
          refine V_run hN hn 2 17 [1, 4, 5, 6, 7, 8, 9] [0, 1, 12, 16] ⟨[(1, .c (.h 0)), (4, .c (.h 16)), (5, .c (.h 1)), (6, .c (.val (.int .i64 at_84))), (7, .c (.val (.int .i64 i_5))), (8, .c (.h 12)), (9, .c (.val (.int .i64 (0 : Int))))], [(0, .box [.val (.int .i64 d_1), .imm (.slice (.pair (.int .i64) (.pair (.int .i64) .str))) d_2]), (1, .row (.int .i64) del_83), (12, .box [.val (.int .i64 (List.getD d_2 (Int.toNat i_5) ((0 : Int), ((0 : Int), ByteArray.empty))).1), .val (.int .i64 (List.getD d_2 (Int.toNat i_5) ((0 : Int), ((0 : Int), ByteArray.empty))).2.1), .val (.string (List.getD d_2 (Int.toNat i_5) ((0 : Int), ((0 : Int), ByteArray.empty))).2.2)]), (16, .row (.pair (.int .i64) (.int .u8)) out_82)], 17⟩ [] (by kernel_rfl) rfl rfl ap0 ?_
          refine VL_block ?_
          refine V_to [(1, .c (.h 0)), (4, .c (.h 19)), (5, .c (.h 1)), (6, .c (.val (.int .i64 at_84))), (7, .c (.val (.int .i64 i_5))), (8, .c (.h 12)), (9, .c (.val (.int .i64 (0 : Int))))] [(0, .box [.val (.int .i64 d_1), .imm (.slice (.pair (.int .i64) (.pair (.int .i64) .str))) d_2]), (1, .row (.int .i64) del_83), (12, .box [.val (.int .i64 (List.getD d_2 (Int.toNat i_5) ((0 : Int), ((0 : Int), ByteArray.empty))).1), .val (.int .i64 (List.getD d_2 (Int.toNat i_5) ((0 : Int), ((0 : Int), ByteArray.empty))).2.1), .val (.string (List.getD d_2 (Int.toNat i_5) ((0 : Int), ((0 : Int), ByteArray.empty))).2.2)]), (19, .row (.pair (.int .i64) (.int .u8)) out_82)] [(0, 0), (1, 1), (12, 12), (19, 16)] hn (by kernel_rfl) (by kernel_rfl) rfl rfl rfl ?_
          refine VL_loop (X := ((List (Int × Int)) × Int)) (fun x => [(1, .c (.h 0)), (4, .c (.h 19)), (5, .c (.h 1)), (6, .c (.val (.int .i64 at_84))), (7, .c (.val (.int .i64 i_5))), (8, .c (.h 12)), (9, .c (.val (.int .i64 x.2)))]) (fun x => [(0, .box [.val (.int .i64 d_1), .imm (.slice (.pair (.int .i64) (.pair (.int .i64) .str))) d_2]), (1, .row (.int .i64) del_83), (12, .box [.val (.int .i64 (List.getD d_2 (Int.toNat i_5) ((0 : Int), ((0 : Int), ByteArray.empty))).1), .val (.int .i64 (List.getD d_2 (Int.toNat i_5) ((0 : Int), ((0 : Int), ByteArray.empty))).2.1), .val (.string (List.getD d_2 (Int.toNat i_5) ((0 : Int), ((0 : Int), ByteArray.empty))).2.2)]), (19, .row (.pair (.int .i64) (.int .u8)) x.1)]) (fun k x => palinoderef11_Split.l2 K d_2 i_5 del_83 at_84 k x.1 x.2 = some q_139) K (out_82, (0 : Int)) H_146 (fun _ h => no_none h) ?_
          intro k_94 x_94 H_160
          obtain ⟨out_93, k_86⟩ := x_94
          have H_161 : palinoderef11_Split.l2 K d_2 i_5 del_83 at_84 (k_94 + 1) out_93 k_86 = some q_139 := H_160
          rw [palinoderef11_Split.l2] at H_161
          refine V_run hN hn 3 20 [1, 4, 5, 6, 7, 8, 9, 50] [0, 1, 12, 19] ⟨[(1, .c (.h 0)), (4, .c (.h 19)), (5, .c (.h 1)), (6, .c (.val (.int .i64 at_84))), (7, .c (.val (.int .i64 i_5))), (8, .c (.h 12)), (9, .c (.val (.int .i64 k_86))), (50, .c (.val (.bool (decide (k_86 < (((ByteArray.size (List.getD d_2 (Int.toNat i_5) ((0 : Int), ((0 : Int), ByteArray.empty))).2.2) : Nat) : Int))))))], [(0, .box [.val (.int .i64 d_1), .imm (.slice (.pair (.int .i64) (.pair (.int .i64) .str))) d_2]), (1, .row (.int .i64) del_83), (12, .box [.val (.int .i64 (List.getD d_2 (Int.toNat i_5) ((0 : Int), ((0 : Int), ByteArray.empty))).1), .val (.int .i64 (List.getD d_2 (Int.toNat i_5) ((0 : Int), ((0 : Int), ByteArray.empty))).2.1), .val (.string (List.getD d_2 (Int.toNat i_5) ((0 : Int), ((0 : Int), ByteArray.empty))).2.2)]), (19, .row (.pair (.int .i64) (.int .u8)) out_93)], 20⟩ [] (by kernel_rfl) rfl rfl ap0 ?_
          refine VL_cond ((decide (k_86 < (((ByteArray.size (List.getD d_2 (Int.toNat i_5) ((0 : Int), ((0 : Int), ByteArray.empty))).2.2) : Nat) : Int)))) (by kernel_rfl) ?_ ?_
          · intro b_96; have H_162 := of_t H_161 b_96
            refine V_run hN hn 2 20 [1, 4, 5, 6, 7, 8, 9, 50] [0, 1, 12, 19] ⟨[(1, .c (.h 0)), (4, .c (.h 19)), (5, .c (.h 1)), (6, .c (.val (.int .i64 at_84))), (7, .c (.val (.int .i64 i_5))), (8, .c (.h 12)), (9, .c (.val (.int .i64 k_86))), (50, .c (.val (.bool (decide (k_86 < (((ByteArray.size (List.getD d_2 (Int.toNat i_5) ((0 : Int), ((0 : Int), ByteArray.empty))).2.2) : Nat) : Int))))))], [(0, .box [.val (.int .i64 d_1), .imm (.slice (.pair (.int .i64) (.pair (.int .i64) .str))) d_2]), (1, .row (.int .i64) del_83), (12, .box [.val (.int .i64 (List.getD d_2 (Int.toNat i_5) ((0 : Int), ((0 : Int), ByteArray.empty))).1), .val (.int .i64 (List.getD d_2 (Int.toNat i_5) ((0 : Int), ((0 : Int), ByteArray.empty))).2.1), .val (.string (List.getD d_2 (Int.toNat i_5) ((0 : Int), ((0 : Int), ByteArray.empty))).2.2)]), (19, .row (.pair (.int .i64) (.int .u8)) out_93)], 20⟩ [] (by kernel_rfl) rfl rfl ap0 ?_
            refine VL_block ?_
            obtain ⟨c_98, H_164⟩ := of_if H_162
            refine V_run hN hn 1 20 [1, 4, 5, 6, 7, 8, 9] [0, 1, 12, 21] ⟨[(1, .c (.h 0)), (4, .c (.h 21)), (5, .c (.h 1)), (6, .c (.val (.int .i64 at_84))), (7, .c (.val (.int .i64 i_5))), (8, .c (.h 12)), (9, .c (.val (.int .i64 k_86)))], [(0, .box [.val (.int .i64 d_1), .imm (.slice (.pair (.int .i64) (.pair (.int .i64) .str))) d_2]), (1, .row (.int .i64) del_83), (12, .box [.val (.int .i64 (List.getD d_2 (Int.toNat i_5) ((0 : Int), ((0 : Int), ByteArray.empty))).1), .val (.int .i64 (List.getD d_2 (Int.toNat i_5) ((0 : Int), ((0 : Int), ByteArray.empty))).2.1), .val (.string (List.getD d_2 (Int.toNat i_5) ((0 : Int), ((0 : Int), ByteArray.empty))).2.2)]), (21, .row (.pair (.int .i64) (.int .u8)) (out_93 ++ ([((-1 : Int), (bt (List.getD d_2 (Int.toNat i_5) ((0 : Int), ((0 : Int), ByteArray.empty))).2.2 k_86))] : List (Int × Int))))], 22⟩ [0 ≤ k_86, k_86 < (((ByteArray.size (List.getD d_2 (Int.toNat i_5) ((0 : Int), ((0 : Int), ByteArray.empty))).2.2) : Nat) : Int), (List.length out_93 + List.length ([((-1 : Int), (bt (List.getD d_2 (Int.toNat i_5) ((0 : Int), ((0 : Int), ByteArray.empty))).2.2 k_86))] : List (Int × Int))) * 16 ≤ 140737488355328] (by kernel_rfl) rfl rfl (ap2 c_98.1 (ap2 c_98.2.1 (ap1 c_98.2.2))) ?_
            refine VL_nil (QB_end ?_)
            refine V_run hN hn 1 22 [1, 4, 5, 6, 7, 8, 9] [0, 1, 12, 21] ⟨[(1, .c (.h 0)), (4, .c (.h 21)), (5, .c (.h 1)), (6, .c (.val (.int .i64 at_84))), (7, .c (.val (.int .i64 i_5))), (8, .c (.h 12)), (9, .c (.val (.int .i64 (IntKind.wrap .i64 (k_86 + (1 : Int))))))], [(0, .box [.val (.int .i64 d_1), .imm (.slice (.pair (.int .i64) (.pair (.int .i64) .str))) d_2]), (1, .row (.int .i64) del_83), (12, .box [.val (.int .i64 (List.getD d_2 (Int.toNat i_5) ((0 : Int), ((0 : Int), ByteArray.empty))).1), .val (.int .i64 (List.getD d_2 (Int.toNat i_5) ((0 : Int), ((0 : Int), ByteArray.empty))).2.1), .val (.string (List.getD d_2 (Int.toNat i_5) ((0 : Int), ((0 : Int), ByteArray.empty))).2.2)]), (21, .row (.pair (.int .i64) (.int .u8)) (out_93 ++ ([((-1 : Int), (bt (List.getD d_2 (Int.toNat i_5) ((0 : Int), ((0 : Int), ByteArray.empty))).2.2 k_86))] : List (Int × Int))))], 22⟩ [] (by kernel_rfl) rfl rfl ap0 ?_
            refine VL_nil ?_
            exact V_roundEnd ((out_93 ++ ([((-1 : Int), (bt (List.getD d_2 (Int.toNat i_5) ((0 : Int), ((0 : Int), ByteArray.empty))).2.2 k_86))] : List (Int × Int))), (IntKind.wrap .i64 (k_86 + (1 : Int)))) H_164 [(0, 0), (1, 1), (12, 12), (19, 21)] hn (by kernel_rfl) (by kernel_rfl) rfl rfl rfl
          · intro b_96; have H_163 := of_f H_161 b_96
            refine VL_exit ?_
            refine QL_exit ?_
            refine QB_here ?_
            refine VL_nil (QB_end ?_)
            have H_165 := Option.some.inj (show some (out_93, del_83, at_84) = some q_139 from H_163); subst H_165
            refine VL_nil ?_
            exact QP_end (out_93, del_83, at_84) rfl [(0, 0), (1, 1), (19, 19)] hn (by kernel_rfl) (by kernel_rfl) rfl rfl rfl
      · intro y_142 hy; subst hy
        obtain ⟨out_100, del_101, at_102⟩ := y_142
        refine V_run hN hn 1 20 [1, 4, 5, 6, 7] [0, 1, 19] ⟨[(1, .c (.h 0)), (4, .c (.h 19)), (5, .c (.h 1)), (6, .c (.val (.int .i64 at_102))), (7, .c (.val (.int .i64 (IntKind.wrap .i64 (i_5 + (1 : Int))))))], [(0, .box [.val (.int .i64 d_1), .imm (.slice (.pair (.int .i64) (.pair (.int .i64) .str))) d_2]), (1, .row (.int .i64) del_101), (19, .row (.pair (.int .i64) (.int .u8)) out_100)], 20⟩ [] (by kernel_rfl) rfl rfl ap0 ?_
        refine VL_nil ?_
        exact V_roundEnd (out_100, del_101, at_102, (IntKind.wrap .i64 (i_5 + (1 : Int)))) H_141 [(0, 0), (1, 1), (11, 19)] hn (by kernel_rfl) (by kernel_rfl) rfl rfl rfl
    · intro b_58; have H_138 := of_f H_136 b_58
      refine VL_exit ?_
      refine QL_exit ?_
      refine QB_here ?_
      have H_166 := Option.some.inj (show some (out_54, del_55, at_4) = some q_131 from H_138); subst H_166
      refine VL_nil ?_
      exact QP_end (out_54, del_55, at_4) rfl [(0, 0), (1, 1), (11, 11)] hn (by kernel_rfl) (by kernel_rfl) rfl rfl rfl
  · intro y_134 hy; subst hy
    obtain ⟨out_104, del_105, at_106⟩ := y_134
    refine V_run hN hn 1 12 [1, 4, 5, 6] [0, 1, 11] ⟨[(1, .c (.h 0)), (4, .c (.h 11)), (5, .c (.h 1)), (6, .c (.val (.int .i64 at_106)))], [(0, .box [.val (.int .i64 d_1), .imm (.slice (.pair (.int .i64) (.pair (.int .i64) .str))) d_2]), (1, .row (.int .i64) del_105), (11, .row (.pair (.int .i64) (.int .u8)) out_104)], 12⟩ [] (by kernel_rfl) rfl rfl ap0 ?_
    refine VL_block ?_
    refine V_to [(1, .c (.h 0)), (4, .c (.h 14)), (5, .c (.h 1)), (6, .c (.val (.int .i64 at_106)))] [(0, .box [.val (.int .i64 d_1), .imm (.slice (.pair (.int .i64) (.pair (.int .i64) .str))) d_2]), (1, .row (.int .i64) del_105), (14, .row (.pair (.int .i64) (.int .u8)) out_104)] [(0, 0), (1, 1), (14, 11)] hn (by kernel_rfl) (by kernel_rfl) rfl rfl rfl ?_
    refine VL_loop (X := ((List (Int × Int)) × (List Int) × Int)) (fun x => [(1, .c (.h 0)), (4, .c (.h 14)), (5, .c (.h 1)), (6, .c (.val (.int .i64 x.2.2)))]) (fun x => [(0, .box [.val (.int .i64 d_1), .imm (.slice (.pair (.int .i64) (.pair (.int .i64) .str))) d_2]), (1, .row (.int .i64) x.2.1), (14, .row (.pair (.int .i64) (.int .u8)) x.1)]) (fun k x => palinoderef11_Split.l3 K d_1 k x.1 x.2.1 x.2.2 = some r) K (out_104, del_105, at_106) H_133 (fun _ h => no_none h) ?_
    intro k_117 x_117 H_167
    obtain ⟨out_115, del_116, at_108⟩ := x_117
    have H_168 : palinoderef11_Split.l3 K d_1 (k_117 + 1) out_115 del_116 at_108 = some r := H_167
    rw [palinoderef11_Split.l3] at H_168
    refine V_run hN hn 3 15 [1, 4, 5, 6, 64] [0, 1, 14] ⟨[(1, .c (.h 0)), (4, .c (.h 14)), (5, .c (.h 1)), (6, .c (.val (.int .i64 at_108))), (64, .c (.val (.bool (decide (at_108 < d_1)))))], [(0, .box [.val (.int .i64 d_1), .imm (.slice (.pair (.int .i64) (.pair (.int .i64) .str))) d_2]), (1, .row (.int .i64) del_116), (14, .row (.pair (.int .i64) (.int .u8)) out_115)], 15⟩ [] (by kernel_rfl) rfl rfl ap0 ?_
    refine VL_cond ((decide (at_108 < d_1))) (by kernel_rfl) ?_ ?_
    · intro b_119; have H_169 := of_t H_168 b_119
      refine V_run hN hn 1 15 [1, 4, 5, 6, 64] [0, 1, 14] ⟨[(1, .c (.h 0)), (4, .c (.h 14)), (5, .c (.h 1)), (6, .c (.val (.int .i64 at_108))), (64, .c (.val (.bool (decide (at_108 < d_1)))))], [(0, .box [.val (.int .i64 d_1), .imm (.slice (.pair (.int .i64) (.pair (.int .i64) .str))) d_2]), (1, .row (.int .i64) del_116), (14, .row (.pair (.int .i64) (.int .u8)) out_115)], 15⟩ [] (by kernel_rfl) rfl rfl ap0 ?_
      refine VL_block ?_
      obtain ⟨c_121, H_171⟩ := of_if H_169
      refine V_run hN hn 5 15 [1, 4, 5, 6] [0, 1, 16] ⟨[(1, .c (.h 0)), (4, .c (.h 16)), (5, .c (.h 1)), (6, .c (.val (.int .i64 (IntKind.wrap .i64 (at_108 + (1 : Int))))))], [(0, .box [.val (.int .i64 d_1), .imm (.slice (.pair (.int .i64) (.pair (.int .i64) .str))) d_2]), (1, .row (.int .i64) (List.set del_116 (Int.toNat at_108) (1 : Int))), (16, .row (.pair (.int .i64) (.int .u8)) (out_115 ++ ([(at_108, (0 : Int))] : List (Int × Int))))], 17⟩ [0 ≤ at_108, at_108 < (((List.length del_116) : Nat) : Int), (List.length out_115 + List.length ([(at_108, (0 : Int))] : List (Int × Int))) * 16 ≤ 140737488355328] (by kernel_rfl) rfl rfl (ap2 c_121.1 (ap2 c_121.2.1 (ap1 c_121.2.2))) ?_
      refine VL_nil (QB_end ?_)
      refine VL_nil ?_
      exact V_roundEnd ((out_115 ++ ([(at_108, (0 : Int))] : List (Int × Int))), (List.set del_116 (Int.toNat at_108) (1 : Int)), (IntKind.wrap .i64 (at_108 + (1 : Int)))) H_171 [(0, 0), (1, 1), (14, 16)] hn (by kernel_rfl) (by kernel_rfl) rfl rfl rfl
    · intro b_119; have H_170 := of_f H_168 b_119
      refine VL_exit ?_
      refine QL_exit ?_
      refine QB_here ?_
      refine V_run hN hn 2 15 [2, 3] [1, 14] ⟨[(2, .c (.h 14)), (3, .c (.h 1))], [(1, .row (.int .i64) del_116), (14, .row (.pair (.int .i64) (.int .u8)) out_115)], 15⟩ [] (by kernel_rfl) rfl rfl ap0 ?_
      have H_172 := Option.some.inj (show some (out_115, del_116) = some r from H_170); subst H_172
      refine VL_ret ?_
      exact P_to [(2, .c (.h 14)), (3, .c (.h 1))] [(1, .row (.int .i64) del_116), (14, .row (.pair (.int .i64) (.int .u8)) out_115)] [(1, 1), (14, 14)] hn (by kernel_rfl) (by kernel_rfl) rfl rfl rfl (QF_retS (by kernel_rfl) (by kernel_rfl) rfl)

theorem palinoderef11_Told_gr_spec (K : Nat) (base_1 : Int) (l_2 : (List (Int × Int))) (r : (Int × (List (Int × (Int × ByteArray))) × Int)) (H : palinoderef11_Told_gr K base_1 l_2 = some r) : Spec Try.prog 16 1 [.c (.val (.int .i64 base_1)), .c (.h 0)] [(0, .row (.pair (.int .i64) (.int .u8)) l_2)] (.tup [(true, [.val (.int .i64 r.1), .h 12]), (false, [.val (.int .i64 r.2.2)])]) [(0, .row (.pair (.int .i64) (.int .u8)) l_2), (12, .row (.pair (.int .i64) (.pair (.int .i64) .str)) r.2.1)] := by
  refine Spec_mk (fn := Try.f16) (c := (Try.f16.body).get!) Try.func16 (by kernel_rfl) rfl ?_
  intro C hN hn
  replace hN : C.N = 123 := hN
  unfold palinoderef11_Told_gr at H
  refine V_run hN hn 7 1 [1, 4, 6, 7] [0, 1, 2] ⟨[(1, .c (.h 0)), (4, .c (.h 1)), (6, .c (.h 2)), (7, .c (.val (.int .i64 (0 : Int))))], [(0, .row (.pair (.int .i64) (.int .u8)) l_2), (1, .box [.val (.int .i64 (0 : Int)), .val (.slice none 0 0)]), (2, .box [.val (.int .i64 base_1), .val (.slice none 0 0)])], 3⟩ [] (by kernel_rfl) rfl rfl ap0 ?_
  obtain ⟨q_133, H_134, H_135⟩ := of_bind H
  refine V_cut (Y := (List (Int × (Int × ByteArray)))) (R := (List (Int × (Int × ByteArray)))) q_133 (fun y => y) (fun y => [(4, .c (.h 1)), (6, .c (.h 2))]) (fun y => [(0, .row (.pair (.int .i64) (.int .u8)) l_2), (1, .box [.val (.int .i64 (0 : Int)), .val (.slice none 0 0)]), (2, .box [.val (.int .i64 base_1), .h 10]), (10, .row (.pair (.int .i64) (.pair (.int .i64) .str)) y)]) ?_ ?_
  · skip
    refine VL_block ?_
    refine V_ghost [.nilCell 2 1 (.pair (.int .i64) (.pair (.int .i64) .str))] 3 hn [1, 4, 6, 7] [0, 1, 2, 3] ⟨[(1, .c (.h 0)), (4, .c (.h 1)), (6, .c (.h 2)), (7, .c (.val (.int .i64 (0 : Int))))], [(0, .row (.pair (.int .i64) (.int .u8)) l_2), (1, .box [.val (.int .i64 (0 : Int)), .val (.slice none 0 0)]), (2, .box [.val (.int .i64 base_1), .h 3]), (3, .row (.pair (.int .i64) (.pair (.int .i64) .str)) ([] : List (Int × (Int × ByteArray))))], 4⟩ (by kernel_rfl) rfl rfl ?_
    refine V_to [(1, .c (.h 0)), (4, .c (.h 1)), (6, .c (.h 2)), (7, .c (.val (.int .i64 (0 : Int))))] [(0, .row (.pair (.int .i64) (.int .u8)) l_2), (1, .box [.val (.int .i64 (0 : Int)), .val (.slice none 0 0)]), (2, .box [.val (.int .i64 base_1), .h 10]), (10, .row (.pair (.int .i64) (.pair (.int .i64) .str)) ([] : List (Int × (Int × ByteArray))))] [(1, 1), (2, 2), (10, 3)] hn (by kernel_rfl) (by kernel_rfl) rfl rfl rfl ?_
    refine VL_loop (X := ((List (Int × (Int × ByteArray))) × Int)) (fun x => [(1, .c (.h 0)), (4, .c (.h 1)), (6, .c (.h 2)), (7, .c (.val (.int .i64 x.2)))]) (fun x => [(0, .row (.pair (.int .i64) (.int .u8)) l_2), (1, .box [.val (.int .i64 (0 : Int)), .val (.slice none 0 0)]), (2, .box [.val (.int .i64 base_1), .h 10]), (10, .row (.pair (.int .i64) (.pair (.int .i64) .str)) x.1)]) (fun k x => palinoderef11_Told_gr.l0 K l_2 k x.1 x.2 = some q_133) K (([] : List (Int × (Int × ByteArray))), (0 : Int)) H_134 (fun _ h => no_none h) ?_
    intro k_52 x_52 H_137
    obtain ⟨x_51, i_4⟩ := x_52
    have H_138 : palinoderef11_Told_gr.l0 K l_2 (k_52 + 1) x_51 i_4 = some q_133 := H_137
    rw [palinoderef11_Told_gr.l0] at H_138
    refine V_run hN hn 3 11 [1, 4, 6, 7, 16] [0, 1, 2, 10] ⟨[(1, .c (.h 0)), (4, .c (.h 1)), (6, .c (.h 2)), (7, .c (.val (.int .i64 i_4))), (16, .c (.val (.bool (decide (i_4 < (((List.length l_2) : Nat) : Int))))))], [(0, .row (.pair (.int .i64) (.int .u8)) l_2), (1, .box [.val (.int .i64 (0 : Int)), .val (.slice none 0 0)]), (2, .box [.val (.int .i64 base_1), .h 10]), (10, .row (.pair (.int .i64) (.pair (.int .i64) .str)) x_51)], 11⟩ [] (by kernel_rfl) rfl rfl ap0 ?_
    refine VL_cond ((decide (i_4 < (((List.length l_2) : Nat) : Int)))) (by kernel_rfl) ?_ ?_
    · intro b_54; have H_139 := of_t H_138 b_54
      refine V_run hN hn 1 11 [1, 4, 6, 7, 16] [0, 1, 2, 10] ⟨[(1, .c (.h 0)), (4, .c (.h 1)), (6, .c (.h 2)), (7, .c (.val (.int .i64 i_4))), (16, .c (.val (.bool (decide (i_4 < (((List.length l_2) : Nat) : Int))))))], [(0, .row (.pair (.int .i64) (.int .u8)) l_2), (1, .box [.val (.int .i64 (0 : Int)), .val (.slice none 0 0)]), (2, .box [.val (.int .i64 base_1), .h 10]), (10, .row (.pair (.int .i64) (.pair (.int .i64) .str)) x_51)], 11⟩ [] (by kernel_rfl) rfl rfl ap0 ?_
      obtain ⟨q_141, H_142, H_143⟩ := of_bind H_139
      refine V_cut (Y := ((List (Int × (Int × ByteArray))) × Int)) (R := ((List (Int × (Int × ByteArray))) × Int)) q_141 (fun y => y) (fun y => [(1, .c (.h 0)), (4, .c (.h 1)), (6, .c (.h 2)), (7, .c (.val (.int .i64 y.2)))]) (fun y => [(0, .row (.pair (.int .i64) (.int .u8)) l_2), (1, .box [.val (.int .i64 (0 : Int)), .val (.slice none 0 0)]), (2, .box [.val (.int .i64 base_1), .h 17]), (17, .row (.pair (.int .i64) (.pair (.int .i64) .str)) y.1)]) ?_ ?_
      · skip
        refine VL_block ?_
        obtain ⟨c_56, H_145⟩ := of_if H_142
        refine V_run hN hn 5 11 [1, 4, 6, 7, 8, 24] [0, 1, 2, 10] ⟨[(1, .c (.h 0)), (4, .c (.h 1)), (6, .c (.h 2)), (7, .c (.val (.int .i64 i_4))), (8, .c (.val (.int .i64 (IntKind.wrap .i64 (i_4 + (1 : Int)))))), (24, .c (.val (.bool (decide ((List.getD l_2 (Int.toNat i_4) ((0 : Int), (0 : Int))).1 < (0 : Int))))))], [(0, .row (.pair (.int .i64) (.int .u8)) l_2), (1, .box [.val (.int .i64 (0 : Int)), .val (.slice none 0 0)]), (2, .box [.val (.int .i64 base_1), .h 10]), (10, .row (.pair (.int .i64) (.pair (.int .i64) .str)) x_51)], 11⟩ [0 ≤ i_4, i_4 < (((List.length l_2) : Nat) : Int)] (by kernel_rfl) rfl rfl (ap2 c_56.1 (ap1 c_56.2)) ?_
        refine VL_cond ((decide ((List.getD l_2 (Int.toNat i_4) ((0 : Int), (0 : Int))).1 < (0 : Int)))) (by kernel_rfl) ?_ ?_
        · intro b_57; have H_146 := of_t H_145 b_57
          refine V_run hN hn 3 11 [1, 4, 6, 8, 9] [0, 1, 2, 10, 11] ⟨[(1, .c (.h 0)), (4, .c (.h 1)), (6, .c (.h 2)), (8, .c (.val (.int .i64 (IntKind.wrap .i64 (i_4 + (1 : Int)))))), (9, .c (.h 11))], [(0, .row (.pair (.int .i64) (.int .u8)) l_2), (1, .box [.val (.int .i64 (0 : Int)), .val (.slice none 0 0)]), (2, .box [.val (.int .i64 base_1), .h 10]), (10, .row (.pair (.int .i64) (.pair (.int .i64) .str)) x_51), (11, .row (.int .u8) ([(List.getD l_2 (Int.toNat i_4) ((0 : Int), (0 : Int))).2] : List Int))], 12⟩ [0 ≤ i_4, i_4 < (((List.length l_2) : Nat) : Int)] (by kernel_rfl) rfl rfl (ap2 c_56.1 (ap1 c_56.2)) ?_
          obtain ⟨q_148, H_149, H_150⟩ := of_bind H_146
          refine V_cut (Y := (Int × (List Int))) (R := (Int × (List Int))) q_148 (fun y => y) (fun y => [(1, .c (.h 0)), (4, .c (.h 1)), (6, .c (.h 2)), (8, .c (.val (.int .i64 y.1))), (9, .c (.h 14))]) (fun y => [(0, .row (.pair (.int .i64) (.int .u8)) l_2), (1, .box [.val (.int .i64 (0 : Int)), .val (.slice none 0 0)]), (2, .box [.val (.int .i64 base_1), .h 10]), (10, .row (.pair (.int .i64) (.pair (.int .i64) .str)) x_51), (14, .row (.int .u8) y.2)]) ?_ ?_
          · skip
            refine VL_block ?_
            refine V_to [(1, .c (.h 0)), (4, .c (.h 1)), (6, .c (.h 2)), (8, .c (.val (.int .i64 (IntKind.wrap .i64 (i_4 + (1 : Int)))))), (9, .c (.h 14))] [(0, .row (.pair (.int .i64) (.int .u8)) l_2), (1, .box [.val (.int .i64 (0 : Int)), .val (.slice none 0 0)]), (2, .box [.val (.int .i64 base_1), .h 10]), (10, .row (.pair (.int .i64) (.pair (.int .i64) .str)) x_51), (14, .row (.int .u8) ([(List.getD l_2 (Int.toNat i_4) ((0 : Int), (0 : Int))).2] : List Int))] [(1, 1), (2, 2), (10, 10), (14, 11)] hn (by kernel_rfl) (by kernel_rfl) rfl rfl rfl ?_
            refine VL_loop (X := (Int × (List Int))) (fun x => [(1, .c (.h 0)), (4, .c (.h 1)), (6, .c (.h 2)), (8, .c (.val (.int .i64 x.1))), (9, .c (.h 14))]) (fun x => [(0, .row (.pair (.int .i64) (.int .u8)) l_2), (1, .box [.val (.int .i64 (0 : Int)), .val (.slice none 0 0)]), (2, .box [.val (.int .i64 base_1), .h 10]), (10, .row (.pair (.int .i64) (.pair (.int .i64) .str)) x_51), (14, .row (.int .u8) x.2)]) (fun k x => palinoderef11_Told_gr.l1 K l_2 k x.1 x.2 = some q_148) K ((IntKind.wrap .i64 (i_4 + (1 : Int))), ([(List.getD l_2 (Int.toNat i_4) ((0 : Int), (0 : Int))).2] : List Int)) H_149 (fun _ h => no_none h) ?_
            intro k_70 x_70 H_152
            obtain ⟨k_59, t_69⟩ := x_70
            have H_153 : palinoderef11_Told_gr.l1 K l_2 (k_70 + 1) k_59 t_69 = some q_148 := H_152
            rw [palinoderef11_Told_gr.l1] at H_153
            refine V_run hN hn 2 15 [1, 4, 6, 8, 9] [0, 1, 2, 10, 14] ⟨[(1, .c (.h 0)), (4, .c (.h 1)), (6, .c (.h 2)), (8, .c (.val (.int .i64 k_59))), (9, .c (.h 14))], [(0, .row (.pair (.int .i64) (.int .u8)) l_2), (1, .box [.val (.int .i64 (0 : Int)), .val (.slice none 0 0)]), (2, .box [.val (.int .i64 base_1), .h 10]), (10, .row (.pair (.int .i64) (.pair (.int .i64) .str)) x_51), (14, .row (.int .u8) t_69)], 15⟩ [] (by kernel_rfl) rfl rfl ap0 ?_
            obtain ⟨q_154, H_155, H_156⟩ := of_bind H_153
            refine V_cut (Y := Bool) (R := Bool) q_154 (fun y => y) (fun y => [(1, .c (.h 0)), (4, .c (.h 1)), (6, .c (.h 2)), (8, .c (.val (.int .i64 k_59))), (9, .c (.h 14)), (42, .c (.val (.bool y)))]) (fun y => [(0, .row (.pair (.int .i64) (.int .u8)) l_2), (1, .box [.val (.int .i64 (0 : Int)), .val (.slice none 0 0)]), (2, .box [.val (.int .i64 base_1), .h 10]), (10, .row (.pair (.int .i64) (.pair (.int .i64) .str)) x_51), (14, .row (.int .u8) t_69)]) ?_ ?_
            · skip
              rcases Bool.eq_false_or_eq_true ((decide (k_59 < (((List.length l_2) : Nat) : Int)))) with b_72 | b_72
              · have H_158 := of_t H_155 b_72
                obtain ⟨c_73, H_160⟩ := of_if H_158
                refine V_reg hN hn [] [(35, true)] calls_nil 15 [1, 4, 6, 8, 9, 42] [0, 1, 2, 10, 14] ⟨[(1, .c (.h 0)), (4, .c (.h 1)), (6, .c (.h 2)), (8, .c (.val (.int .i64 k_59))), (9, .c (.h 14)), (42, .c (.val (.bool (decide ((List.getD l_2 (Int.toNat k_59) ((0 : Int), (0 : Int))).1 < (0 : Int))))))], [(0, .row (.pair (.int .i64) (.int .u8)) l_2), (1, .box [.val (.int .i64 (0 : Int)), .val (.slice none 0 0)]), (2, .box [.val (.int .i64 base_1), .h 10]), (10, .row (.pair (.int .i64) (.pair (.int .i64) .str)) x_51), (14, .row (.int .u8) t_69)], 15⟩ [(decide (k_59 < (((List.length l_2) : Nat) : Int))) = true, 0 ≤ k_59, k_59 < (((List.length l_2) : Nat) : Int)] (by kernel_rfl) rfl rfl (ap2 b_72 (ap2 c_73.1 (ap1 c_73.2))) (by kernel_rfl) (by kernel_rfl) ?_
                have H_161 := Option.some.inj (show some (decide ((List.getD l_2 (Int.toNat k_59) ((0 : Int), (0 : Int))).1 < (0 : Int))) = some q_154 from H_160); subst H_161
                refine VL_nil ?_
                exact QP_end (decide ((List.getD l_2 (Int.toNat k_59) ((0 : Int), (0 : Int))).1 < (0 : Int))) rfl [(1, 1), (2, 2), (10, 10), (14, 14)] hn (by kernel_rfl) (by kernel_rfl) rfl rfl rfl
              · have H_159 := of_f H_155 b_72
                refine V_reg hN hn [] [(35, false)] calls_nil 15 [1, 4, 6, 8, 9, 42] [0, 1, 2, 10, 14] ⟨[(1, .c (.h 0)), (4, .c (.h 1)), (6, .c (.h 2)), (8, .c (.val (.int .i64 k_59))), (9, .c (.h 14)), (42, .c (.val (.bool false)))], [(0, .row (.pair (.int .i64) (.int .u8)) l_2), (1, .box [.val (.int .i64 (0 : Int)), .val (.slice none 0 0)]), (2, .box [.val (.int .i64 base_1), .h 10]), (10, .row (.pair (.int .i64) (.pair (.int .i64) .str)) x_51), (14, .row (.int .u8) t_69)], 15⟩ [(decide (k_59 < (((List.length l_2) : Nat) : Int))) = false] (by kernel_rfl) rfl rfl (ap1 b_72) (by kernel_rfl) (by kernel_rfl) ?_
                have H_162 := Option.some.inj (show some false = some q_154 from H_159); subst H_162
                refine VL_nil ?_
                exact QP_end false rfl [(1, 1), (2, 2), (10, 10), (14, 14)] hn (by kernel_rfl) (by kernel_rfl) rfl rfl rfl
            · intro y_157 hy; subst hy
              skip
              skip
              refine VL_cond (y_157) (by kernel_rfl) ?_ ?_
              · intro b_76; have H_163 := of_t H_156 b_76
                refine V_run hN hn 1 15 [1, 4, 6, 8, 9, 42] [0, 1, 2, 10, 14] ⟨[(1, .c (.h 0)), (4, .c (.h 1)), (6, .c (.h 2)), (8, .c (.val (.int .i64 k_59))), (9, .c (.h 14)), (42, .c (.val (.bool y_157)))], [(0, .row (.pair (.int .i64) (.int .u8)) l_2), (1, .box [.val (.int .i64 (0 : Int)), .val (.slice none 0 0)]), (2, .box [.val (.int .i64 base_1), .h 10]), (10, .row (.pair (.int .i64) (.pair (.int .i64) .str)) x_51), (14, .row (.int .u8) t_69)], 15⟩ [] (by kernel_rfl) rfl rfl ap0 ?_
                refine VL_block ?_
                obtain ⟨c_78, H_165⟩ := of_if H_163
                refine V_run hN hn 3 15 [1, 4, 6, 8, 9] [0, 1, 2, 10, 16] ⟨[(1, .c (.h 0)), (4, .c (.h 1)), (6, .c (.h 2)), (8, .c (.val (.int .i64 (IntKind.wrap .i64 (k_59 + (1 : Int)))))), (9, .c (.h 16))], [(0, .row (.pair (.int .i64) (.int .u8)) l_2), (1, .box [.val (.int .i64 (0 : Int)), .val (.slice none 0 0)]), (2, .box [.val (.int .i64 base_1), .h 10]), (10, .row (.pair (.int .i64) (.pair (.int .i64) .str)) x_51), (16, .row (.int .u8) (t_69 ++ ([(List.getD l_2 (Int.toNat k_59) ((0 : Int), (0 : Int))).2] : List Int)))], 17⟩ [0 ≤ k_59, k_59 < (((List.length l_2) : Nat) : Int), (List.length t_69 + List.length ([(List.getD l_2 (Int.toNat k_59) ((0 : Int), (0 : Int))).2] : List Int)) * 1 ≤ 140737488355328] (by kernel_rfl) rfl rfl (ap2 c_78.1 (ap2 c_78.2.1 (ap1 c_78.2.2))) ?_
                refine VL_nil (QB_end ?_)
                refine VL_nil ?_
                exact V_roundEnd ((IntKind.wrap .i64 (k_59 + (1 : Int))), (t_69 ++ ([(List.getD l_2 (Int.toNat k_59) ((0 : Int), (0 : Int))).2] : List Int))) H_165 [(1, 1), (2, 2), (10, 10), (14, 16)] hn (by kernel_rfl) (by kernel_rfl) rfl rfl rfl
              · intro b_76; have H_164 := of_f H_156 b_76
                refine VL_exit ?_
                refine QL_exit ?_
                refine QB_here ?_
                have H_166 := Option.some.inj (show some (k_59, t_69) = some q_148 from H_164); subst H_166
                refine VL_nil ?_
                exact QP_end (k_59, t_69) rfl [(1, 1), (2, 2), (10, 10), (14, 14)] hn (by kernel_rfl) (by kernel_rfl) rfl rfl rfl
          · intro y_151 hy; subst hy
            obtain ⟨k_79, t_80⟩ := y_151
            obtain ⟨c_81, H_167⟩ := of_if H_150
            refine V_run hN hn 2 15 [1, 4, 6, 7] [0, 1, 2, 16] ⟨[(1, .c (.h 0)), (4, .c (.h 1)), (6, .c (.h 2)), (7, .c (.val (.int .i64 k_79)))], [(0, .row (.pair (.int .i64) (.int .u8)) l_2), (1, .box [.val (.int .i64 (0 : Int)), .val (.slice none 0 0)]), (2, .box [.val (.int .i64 base_1), .h 16]), (16, .row (.pair (.int .i64) (.pair (.int .i64) .str)) (x_51 ++ ([((0 : Int), ((0 : Int), (ofBytes t_80)))] : List (Int × (Int × ByteArray)))))], 17⟩ [(List.length x_51 + List.length ([((0 : Int), ((0 : Int), (ofBytes t_80)))] : List (Int × (Int × ByteArray)))) * 32 ≤ 140737488355328] (by kernel_rfl) rfl rfl (ap1 c_81) ?_
            refine VL_nil (QB_end ?_)
            have H_168 := Option.some.inj (show some ((x_51 ++ ([((0 : Int), ((0 : Int), (ofBytes t_80)))] : List (Int × (Int × ByteArray)))), k_79) = some q_141 from H_167); subst H_168
            refine VL_nil ?_
            exact QP_end ((x_51 ++ ([((0 : Int), ((0 : Int), (ofBytes t_80)))] : List (Int × (Int × ByteArray)))), k_79) rfl [(1, 1), (2, 2), (17, 16)] hn (by kernel_rfl) (by kernel_rfl) rfl rfl rfl
        · intro b_57; have H_147 := of_f H_145 b_57
          refine V_run hN hn 1 11 [1, 4, 6, 7, 8, 24] [0, 1, 2, 10] ⟨[(1, .c (.h 0)), (4, .c (.h 1)), (6, .c (.h 2)), (7, .c (.val (.int .i64 i_4))), (8, .c (.val (.int .i64 (IntKind.wrap .i64 (i_4 + (1 : Int)))))), (24, .c (.val (.bool (decide ((List.getD l_2 (Int.toNat i_4) ((0 : Int), (0 : Int))).1 < (0 : Int))))))], [(0, .row (.pair (.int .i64) (.int .u8)) l_2), (1, .box [.val (.int .i64 (0 : Int)), .val (.slice none 0 0)]), (2, .box [.val (.int .i64 base_1), .h 10]), (10, .row (.pair (.int .i64) (.pair (.int .i64) .str)) x_51)], 11⟩ [] (by kernel_rfl) rfl rfl ap0 ?_
          obtain ⟨q_169, H_170, H_171⟩ := of_bind H_147
          refine V_cut (Y := Int) (R := Int) q_169 (fun y => y) (fun y => [(1, .c (.h 0)), (4, .c (.h 1)), (6, .c (.h 2)), (7, .c (.val (.int .i64 i_4))), (8, .c (.val (.int .i64 y)))]) (fun y => [(0, .row (.pair (.int .i64) (.int .u8)) l_2), (1, .box [.val (.int .i64 (0 : Int)), .val (.slice none 0 0)]), (2, .box [.val (.int .i64 base_1), .h 10]), (10, .row (.pair (.int .i64) (.pair (.int .i64) .str)) x_51)]) ?_ ?_
          · skip
            refine VL_block ?_
            refine V_to [(1, .c (.h 0)), (4, .c (.h 1)), (6, .c (.h 2)), (7, .c (.val (.int .i64 i_4))), (8, .c (.val (.int .i64 (IntKind.wrap .i64 (i_4 + (1 : Int))))))] [(0, .row (.pair (.int .i64) (.int .u8)) l_2), (1, .box [.val (.int .i64 (0 : Int)), .val (.slice none 0 0)]), (2, .box [.val (.int .i64 base_1), .h 10]), (10, .row (.pair (.int .i64) (.pair (.int .i64) .str)) x_51)] [(1, 1), (2, 2), (10, 10)] hn (by kernel_rfl) (by kernel_rfl) rfl rfl rfl ?_
            refine VL_loop (X := Int) (fun x => [(1, .c (.h 0)), (4, .c (.h 1)), (6, .c (.h 2)), (7, .c (.val (.int .i64 i_4))), (8, .c (.val (.int .i64 x)))]) (fun x => [(0, .row (.pair (.int .i64) (.int .u8)) l_2), (1, .box [.val (.int .i64 (0 : Int)), .val (.slice none 0 0)]), (2, .box [.val (.int .i64 base_1), .h 10]), (10, .row (.pair (.int .i64) (.pair (.int .i64) .str)) x_51)]) (fun k x => palinoderef11_Told_gr.l2 K l_2 k x = some q_169) K (IntKind.wrap .i64 (i_4 + (1 : Int))) H_170 (fun _ h => no_none h) ?_
            intro k_84 k_83 H_173
            have H_174 : palinoderef11_Told_gr.l2 K l_2 (k_84 + 1) k_83 = some q_169 := H_173
            rw [palinoderef11_Told_gr.l2] at H_174
            refine V_run hN hn 2 11 [1, 4, 6, 7, 8] [0, 1, 2, 10] ⟨[(1, .c (.h 0)), (4, .c (.h 1)), (6, .c (.h 2)), (7, .c (.val (.int .i64 i_4))), (8, .c (.val (.int .i64 k_83)))], [(0, .row (.pair (.int .i64) (.int .u8)) l_2), (1, .box [.val (.int .i64 (0 : Int)), .val (.slice none 0 0)]), (2, .box [.val (.int .i64 base_1), .h 10]), (10, .row (.pair (.int .i64) (.pair (.int .i64) .str)) x_51)], 11⟩ [] (by kernel_rfl) rfl rfl ap0 ?_
            obtain ⟨q_175, H_176, H_177⟩ := of_bind H_174
            refine V_cut (Y := Bool) (R := Bool) q_175 (fun y => y) (fun y => [(1, .c (.h 0)), (4, .c (.h 1)), (6, .c (.h 2)), (7, .c (.val (.int .i64 i_4))), (8, .c (.val (.int .i64 k_83))), (79, .c (.val (.bool y)))]) (fun y => [(0, .row (.pair (.int .i64) (.int .u8)) l_2), (1, .box [.val (.int .i64 (0 : Int)), .val (.slice none 0 0)]), (2, .box [.val (.int .i64 base_1), .h 10]), (10, .row (.pair (.int .i64) (.pair (.int .i64) .str)) x_51)]) ?_ ?_
            · skip
              rcases Bool.eq_false_or_eq_true ((decide (k_83 < (((List.length l_2) : Nat) : Int)))) with b_86 | b_86
              · have H_179 := of_t H_176 b_86
                obtain ⟨c_87, H_181⟩ := of_if H_179
                refine V_draw hN hn (by kernel_rfl) [] [(65, true)] calls_nil 11 [1, 4, 6, 7, 8, 79] [0, 1, 2, 10] ⟨[(1, .c (.h 0)), (4, .c (.h 1)), (6, .c (.h 2)), (7, .c (.val (.int .i64 i_4))), (8, .c (.val (.int .i64 k_83))), (79, .c (.val (.bool ((List.getD l_2 (Int.toNat k_83) ((0 : Int), (0 : Int))).1 == (IntKind.wrap .i64 ((List.getD l_2 (Int.toNat (IntKind.wrap .i64 (k_83 - (1 : Int)))) ((0 : Int), (0 : Int))).1 + (1 : Int)))))))], [(0, .row (.pair (.int .i64) (.int .u8)) l_2), (1, .box [.val (.int .i64 (0 : Int)), .val (.slice none 0 0)]), (2, .box [.val (.int .i64 base_1), .h 10]), (10, .row (.pair (.int .i64) (.pair (.int .i64) .str)) x_51)], 11⟩ [(decide (k_83 < (((List.length l_2) : Nat) : Int))) = true, 0 ≤ k_83, k_83 < (((List.length l_2) : Nat) : Int), 0 ≤ (IntKind.wrap .i64 (k_83 - (1 : Int))), (IntKind.wrap .i64 (k_83 - (1 : Int))) < (((List.length l_2) : Nat) : Int)] (by kernel_rfl) rfl rfl (ap2 b_86 (ap2 c_87.1 (ap2 c_87.2.1 (ap2 c_87.2.2.1 (ap1 c_87.2.2.2))))) (by kernel_rfl) (by kernel_rfl) ?_
                have H_182 := Option.some.inj (show some ((List.getD l_2 (Int.toNat k_83) ((0 : Int), (0 : Int))).1 == (IntKind.wrap .i64 ((List.getD l_2 (Int.toNat (IntKind.wrap .i64 (k_83 - (1 : Int)))) ((0 : Int), (0 : Int))).1 + (1 : Int)))) = some q_175 from H_181); subst H_182
                refine VL_nil ?_
                exact QP_end ((List.getD l_2 (Int.toNat k_83) ((0 : Int), (0 : Int))).1 == (IntKind.wrap .i64 ((List.getD l_2 (Int.toNat (IntKind.wrap .i64 (k_83 - (1 : Int)))) ((0 : Int), (0 : Int))).1 + (1 : Int)))) rfl [(1, 1), (2, 2), (10, 10)] hn (by kernel_rfl) (by kernel_rfl) rfl rfl rfl
              · have H_180 := of_f H_176 b_86
                refine V_draw hN hn (by kernel_rfl) [] [(65, false)] calls_nil 11 [1, 4, 6, 7, 8, 79] [0, 1, 2, 10] ⟨[(1, .c (.h 0)), (4, .c (.h 1)), (6, .c (.h 2)), (7, .c (.val (.int .i64 i_4))), (8, .c (.val (.int .i64 k_83))), (79, .c (.val (.bool false)))], [(0, .row (.pair (.int .i64) (.int .u8)) l_2), (1, .box [.val (.int .i64 (0 : Int)), .val (.slice none 0 0)]), (2, .box [.val (.int .i64 base_1), .h 10]), (10, .row (.pair (.int .i64) (.pair (.int .i64) .str)) x_51)], 11⟩ [(decide (k_83 < (((List.length l_2) : Nat) : Int))) = false] (by kernel_rfl) rfl rfl (ap1 b_86) (by kernel_rfl) (by kernel_rfl) ?_
                have H_183 := Option.some.inj (show some false = some q_175 from H_180); subst H_183
                refine VL_nil ?_
                exact QP_end false rfl [(1, 1), (2, 2), (10, 10)] hn (by kernel_rfl) (by kernel_rfl) rfl rfl rfl
            · intro y_178 hy; subst hy
              skip
              skip
              refine VL_cond (y_178) (by kernel_rfl) ?_ ?_
              · intro b_90; have H_184 := of_t H_177 b_90
                refine V_run hN hn 1 11 [1, 4, 6, 7, 8, 79] [0, 1, 2, 10] ⟨[(1, .c (.h 0)), (4, .c (.h 1)), (6, .c (.h 2)), (7, .c (.val (.int .i64 i_4))), (8, .c (.val (.int .i64 k_83))), (79, .c (.val (.bool y_178)))], [(0, .row (.pair (.int .i64) (.int .u8)) l_2), (1, .box [.val (.int .i64 (0 : Int)), .val (.slice none 0 0)]), (2, .box [.val (.int .i64 base_1), .h 10]), (10, .row (.pair (.int .i64) (.pair (.int .i64) .str)) x_51)], 11⟩ [] (by kernel_rfl) rfl rfl ap0 ?_
                refine VL_block ?_
                refine V_run hN hn 1 11 [1, 4, 6, 7, 8] [0, 1, 2, 10] ⟨[(1, .c (.h 0)), (4, .c (.h 1)), (6, .c (.h 2)), (7, .c (.val (.int .i64 i_4))), (8, .c (.val (.int .i64 (IntKind.wrap .i64 (k_83 + (1 : Int))))))], [(0, .row (.pair (.int .i64) (.int .u8)) l_2), (1, .box [.val (.int .i64 (0 : Int)), .val (.slice none 0 0)]), (2, .box [.val (.int .i64 base_1), .h 10]), (10, .row (.pair (.int .i64) (.pair (.int .i64) .str)) x_51)], 11⟩ [] (by kernel_rfl) rfl rfl ap0 ?_
                refine VL_nil (QB_end ?_)
                refine VL_nil ?_
                exact V_roundEnd (IntKind.wrap .i64 (k_83 + (1 : Int))) H_184 [(1, 1), (2, 2), (10, 10)] hn (by kernel_rfl) (by kernel_rfl) rfl rfl rfl
              · intro b_90; have H_185 := of_f H_177 b_90
                refine VL_exit ?_
                refine QL_exit ?_
                refine QB_here ?_
                have H_186 := Option.some.inj (show some k_83 = some q_169 from H_185); subst H_186
                refine VL_nil ?_
                exact QP_end k_83 rfl [(1, 1), (2, 2), (10, 10)] hn (by kernel_rfl) (by kernel_rfl) rfl rfl rfl
          · intro y_172 hy; subst hy
            skip
            skip
            obtain ⟨c_94, H_187⟩ := of_if H_171
            refine V_draw hN hn (by kernel_rfl) [] [] calls_nil 11 [1, 4, 6, 8] [0, 1, 2, 12] ⟨[(1, .c (.h 0)), (4, .c (.h 1)), (6, .c (.h 2)), (8, .c (.val (.int .i64 y_172)))], [(0, .row (.pair (.int .i64) (.int .u8)) l_2), (1, .box [.val (.int .i64 (0 : Int)), .val (.slice none 0 0)]), (2, .box [.val (.int .i64 base_1), .h 12]), (12, .row (.pair (.int .i64) (.pair (.int .i64) .str)) (x_51 ++ ([((List.getD l_2 (Int.toNat i_4) ((0 : Int), (0 : Int))).1, ((IntKind.wrap .i64 ((List.getD l_2 (Int.toNat (IntKind.wrap .i64 (y_172 - (1 : Int)))) ((0 : Int), (0 : Int))).1 + (1 : Int))), ByteArray.empty))] : List (Int × (Int × ByteArray)))))], 13⟩ [0 ≤ i_4, i_4 < (((List.length l_2) : Nat) : Int), 0 ≤ (IntKind.wrap .i64 (y_172 - (1 : Int))), (IntKind.wrap .i64 (y_172 - (1 : Int))) < (((List.length l_2) : Nat) : Int), (List.length x_51 + List.length ([((List.getD l_2 (Int.toNat i_4) ((0 : Int), (0 : Int))).1, ((IntKind.wrap .i64 ((List.getD l_2 (Int.toNat (IntKind.wrap .i64 (y_172 - (1 : Int)))) ((0 : Int), (0 : Int))).1 + (1 : Int))), ByteArray.empty))] : List (Int × (Int × ByteArray)))) * 32 ≤ 140737488355328] (by kernel_rfl) rfl rfl (ap2 c_56.1 (ap2 c_56.2 (ap2 c_94.1 (ap2 c_94.2.1 (ap1 c_94.2.2))))) (by kernel_rfl) (by kernel_rfl) ?_
            refine V_run hN hn 1 13 [1, 4, 6, 7] [0, 1, 2, 12] ⟨[(1, .c (.h 0)), (4, .c (.h 1)), (6, .c (.h 2)), (7, .c (.val (.int .i64 y_172)))], [(0, .row (.pair (.int .i64) (.int .u8)) l_2), (1, .box [.val (.int .i64 (0 : Int)), .val (.slice none 0 0)]), (2, .box [.val (.int .i64 base_1), .h 12]), (12, .row (.pair (.int .i64) (.pair (.int .i64) .str)) (x_51 ++ ([((List.getD l_2 (Int.toNat i_4) ((0 : Int), (0 : Int))).1, ((IntKind.wrap .i64 ((List.getD l_2 (Int.toNat (IntKind.wrap .i64 (y_172 - (1 : Int)))) ((0 : Int), (0 : Int))).1 + (1 : Int))), ByteArray.empty))] : List (Int × (Int × ByteArray)))))], 13⟩ [] (by kernel_rfl) rfl rfl ap0 ?_
            refine VL_nil (QB_end ?_)
            have H_188 := Option.some.inj (show some ((x_51 ++ ([((List.getD l_2 (Int.toNat i_4) ((0 : Int), (0 : Int))).1, ((IntKind.wrap .i64 ((List.getD l_2 (Int.toNat (IntKind.wrap .i64 (y_172 - (1 : Int)))) ((0 : Int), (0 : Int))).1 + (1 : Int))), ByteArray.empty))] : List (Int × (Int × ByteArray)))), y_172) = some q_141 from H_187); subst H_188
            refine VL_nil ?_
            exact QP_end ((x_51 ++ ([((List.getD l_2 (Int.toNat i_4) ((0 : Int), (0 : Int))).1, ((IntKind.wrap .i64 ((List.getD l_2 (Int.toNat (IntKind.wrap .i64 (y_172 - (1 : Int)))) ((0 : Int), (0 : Int))).1 + (1 : Int))), ByteArray.empty))] : List (Int × (Int × ByteArray)))), y_172) rfl [(1, 1), (2, 2), (17, 12)] hn (by kernel_rfl) (by kernel_rfl) rfl rfl rfl
      · intro y_144 hy; subst hy
        obtain ⟨x_96, i_97⟩ := y_144
        refine VL_nil ?_
        exact V_roundEnd (x_96, i_97) H_143 [(1, 1), (2, 2), (10, 17)] hn (by kernel_rfl) (by kernel_rfl) rfl rfl rfl
    · intro b_54; have H_140 := of_f H_138 b_54
      refine VL_exit ?_
      refine QL_exit ?_
      refine QB_here ?_
      have H_189 := Option.some.inj (show some x_51 = some q_133 from H_140); subst H_189
      refine VL_nil ?_
      exact QP_end x_51 rfl [(1, 1), (2, 2), (10, 10)] hn (by kernel_rfl) (by kernel_rfl) rfl rfl rfl
  · intro y_136 hy; subst hy
    skip
    skip
    refine V_run hN hn 3 11 [4, 6, 10] [0, 1, 2, 10] ⟨[(4, .c (.h 1)), (6, .c (.h 2)), (10, .c (.val (.int .i64 (0 : Int))))], [(0, .row (.pair (.int .i64) (.int .u8)) l_2), (1, .box [.val (.int .i64 (0 : Int)), .val (.slice none 0 0)]), (2, .box [.val (.int .i64 base_1), .h 10]), (10, .row (.pair (.int .i64) (.pair (.int .i64) .str)) y_136)], 11⟩ [] (by kernel_rfl) rfl rfl ap0 ?_
    obtain ⟨q_190, H_191, H_192⟩ := of_bind H_135
    refine V_cut (Y := Unit) (R := ((Int × (List (Int × (Int × ByteArray))) × Int) ⊕ Unit)) q_190 (fun y => (Sum.inr y)) (fun y => [(4, .c (.h 1)), (6, .c (.h 2))]) (fun y => [(0, .row (.pair (.int .i64) (.int .u8)) l_2), (1, .box [.val (.int .i64 (0 : Int)), .val (.slice none 0 0)]), (2, .box [.val (.int .i64 base_1), .h 10]), (10, .row (.pair (.int .i64) (.pair (.int .i64) .str)) y_136)]) ?_ ?_
    · skip
      refine VL_block ?_
      refine V_to [(4, .c (.h 1)), (6, .c (.h 2)), (10, .c (.val (.int .i64 (0 : Int))))] [(0, .row (.pair (.int .i64) (.int .u8)) l_2), (1, .box [.val (.int .i64 (0 : Int)), .val (.slice none 0 0)]), (2, .box [.val (.int .i64 base_1), .h 10]), (10, .row (.pair (.int .i64) (.pair (.int .i64) .str)) y_136)] [(1, 1), (2, 2), (10, 10)] hn (by kernel_rfl) (by kernel_rfl) rfl rfl rfl ?_
      refine VL_loop (X := Int) (fun x => [(4, .c (.h 1)), (6, .c (.h 2)), (10, .c (.val (.int .i64 x)))]) (fun x => [(0, .row (.pair (.int .i64) (.int .u8)) l_2), (1, .box [.val (.int .i64 (0 : Int)), .val (.slice none 0 0)]), (2, .box [.val (.int .i64 base_1), .h 10]), (10, .row (.pair (.int .i64) (.pair (.int .i64) .str)) y_136)]) (fun k x => palinoderef11_Told_gr.l3 K y_136 k x = some q_190) K (0 : Int) H_191 (fun _ h => no_none h) ?_
      intro k_101 k_100 H_194
      have H_195 : palinoderef11_Told_gr.l3 K y_136 (k_101 + 1) k_100 = some q_190 := H_194
      rw [palinoderef11_Told_gr.l3] at H_195
      refine V_run hN hn 3 11 [4, 6, 10, 105] [0, 1, 2, 10] ⟨[(4, .c (.h 1)), (6, .c (.h 2)), (10, .c (.val (.int .i64 k_100))), (105, .c (.val (.bool (decide (k_100 < (((List.length y_136) : Nat) : Int))))))], [(0, .row (.pair (.int .i64) (.int .u8)) l_2), (1, .box [.val (.int .i64 (0 : Int)), .val (.slice none 0 0)]), (2, .box [.val (.int .i64 base_1), .h 10]), (10, .row (.pair (.int .i64) (.pair (.int .i64) .str)) y_136)], 11⟩ [] (by kernel_rfl) rfl rfl ap0 ?_
      refine VL_cond ((decide (k_100 < (((List.length y_136) : Nat) : Int)))) (by kernel_rfl) ?_ ?_
      · intro b_103; have H_196 := of_t H_195 b_103
        refine V_run hN hn 2 11 [4, 6, 10, 105] [0, 1, 2, 10] ⟨[(4, .c (.h 1)), (6, .c (.h 2)), (10, .c (.val (.int .i64 k_100))), (105, .c (.val (.bool (decide (k_100 < (((List.length y_136) : Nat) : Int))))))], [(0, .row (.pair (.int .i64) (.int .u8)) l_2), (1, .box [.val (.int .i64 (0 : Int)), .val (.slice none 0 0)]), (2, .box [.val (.int .i64 base_1), .h 10]), (10, .row (.pair (.int .i64) (.pair (.int .i64) .str)) y_136)], 11⟩ [] (by kernel_rfl) rfl rfl ap0 ?_
        refine VL_block ?_
        refine V_run hN hn 1 11 [4, 6, 10, 105] [0, 1, 2, 10] ⟨[(4, .c (.h 1)), (6, .c (.h 2)), (10, .c (.val (.int .i64 k_100))), (105, .c (.val (.bool (decide (k_100 < (((List.length y_136) : Nat) : Int))))))], [(0, .row (.pair (.int .i64) (.int .u8)) l_2), (1, .box [.val (.int .i64 (0 : Int)), .val (.slice none 0 0)]), (2, .box [.val (.int .i64 base_1), .h 10]), (10, .row (.pair (.int .i64) (.pair (.int .i64) .str)) y_136)], 11⟩ [] (by kernel_rfl) rfl rfl ap0 ?_
        obtain ⟨r_106, h_107, H_198⟩ := of_bind H_196
        obtain ⟨c_108, H_199⟩ := of_if H_198
        refine V_reg hN hn [(6, ⟨46, 0, [.c (.val (.string (List.getD y_136 (Int.toNat k_100) ((0 : Int), ((0 : Int), ByteArray.empty))).2.2))], [], .c (.val (.bool r_106)), [], [], 11⟩)] [] (calls_cons (palinoderef1_Valid_spec K (List.getD y_136 (Int.toNat k_100) ((0 : Int), ((0 : Int), ByteArray.empty))).2.2 r_106 h_107) (by kernel_rfl) calls_nil) 11 [4, 6, 10, 115] [0, 1, 2, 10] ⟨[(4, .c (.h 1)), (6, .c (.h 2)), (10, .c (.val (.int .i64 k_100))), (115, .c (.val (.bool (!r_106))))], [(0, .row (.pair (.int .i64) (.int .u8)) l_2), (1, .box [.val (.int .i64 (0 : Int)), .val (.slice none 0 0)]), (2, .box [.val (.int .i64 base_1), .h 10]), (10, .row (.pair (.int .i64) (.pair (.int .i64) .str)) y_136)], 11⟩ [0 ≤ k_100, k_100 < (((List.length y_136) : Nat) : Int)] (by kernel_rfl) rfl rfl (ap2 c_108.1 (ap1 c_108.2)) (by kernel_rfl) (by kernel_rfl) ?_
        refine VL_cond ((!r_106)) (by kernel_rfl) ?_ ?_
        · intro b_109; have H_200 := of_t H_199 b_109
          refine V_run hN hn 2 11 [4, 5] [0, 1] ⟨[(4, .c (.h 1)), (5, .c (.val (.int .i64 (12 : Int))))], [(0, .row (.pair (.int .i64) (.int .u8)) l_2), (1, .box [.val (.int .i64 (0 : Int)), .val (.slice none 0 0)])], 11⟩ [] (by kernel_rfl) rfl rfl ap0 ?_
          have H_202 := Option.some.inj (show some (Sum.inl ((0 : Int), ([] : List (Int × (Int × ByteArray))), (12 : Int))) = some q_190 from H_200); subst H_202
          have H_203 := Option.some.inj (show some ((0 : Int), ([] : List (Int × (Int × ByteArray))), (12 : Int)) = some r from H_192); subst H_203
          refine VL_ret ?_
          refine QB_ret ?_
          refine QL_ret ?_
          refine QB_ret ?_
          refine QP_ret ?_
          refine P_ghost [.nilCell 1 1 (.pair (.int .i64) (.pair (.int .i64) .str))] 11 hn [4, 5] [0, 1, 11] ⟨[(4, .c (.h 1)), (5, .c (.val (.int .i64 (12 : Int))))], [(0, .row (.pair (.int .i64) (.int .u8)) l_2), (1, .box [.val (.int .i64 (0 : Int)), .h 11]), (11, .row (.pair (.int .i64) (.pair (.int .i64) .str)) ([] : List (Int × (Int × ByteArray))))], 12⟩ (by kernel_rfl) rfl rfl ?_
          exact P_to [(4, .c (.h 1)), (5, .c (.val (.int .i64 (12 : Int))))] [(0, .row (.pair (.int .i64) (.int .u8)) l_2), (1, .box [.val (.int .i64 (0 : Int)), .h 12]), (12, .row (.pair (.int .i64) (.pair (.int .i64) .str)) ([] : List (Int × (Int × ByteArray))))] [(1, 1), (12, 11)] hn (by kernel_rfl) (by kernel_rfl) rfl rfl rfl (QF_retS (by kernel_rfl) (by kernel_rfl) rfl)
        · intro b_109; have H_201 := of_f H_199 b_109
          refine V_run hN hn 1 11 [4, 6, 10, 115] [0, 1, 2, 10] ⟨[(4, .c (.h 1)), (6, .c (.h 2)), (10, .c (.val (.int .i64 k_100))), (115, .c (.val (.bool (!r_106))))], [(0, .row (.pair (.int .i64) (.int .u8)) l_2), (1, .box [.val (.int .i64 (0 : Int)), .val (.slice none 0 0)]), (2, .box [.val (.int .i64 base_1), .h 10]), (10, .row (.pair (.int .i64) (.pair (.int .i64) .str)) y_136)], 11⟩ [] (by kernel_rfl) rfl rfl ap0 ?_
          refine VL_nil (QB_end ?_)
          refine V_run hN hn 1 11 [4, 6, 10] [0, 1, 2, 10] ⟨[(4, .c (.h 1)), (6, .c (.h 2)), (10, .c (.val (.int .i64 (IntKind.wrap .i64 (k_100 + (1 : Int))))))], [(0, .row (.pair (.int .i64) (.int .u8)) l_2), (1, .box [.val (.int .i64 (0 : Int)), .val (.slice none 0 0)]), (2, .box [.val (.int .i64 base_1), .h 10]), (10, .row (.pair (.int .i64) (.pair (.int .i64) .str)) y_136)], 11⟩ [] (by kernel_rfl) rfl rfl ap0 ?_
          refine VL_nil ?_
          exact V_roundEnd (IntKind.wrap .i64 (k_100 + (1 : Int))) H_201 [(1, 1), (2, 2), (10, 10)] hn (by kernel_rfl) (by kernel_rfl) rfl rfl rfl
      · intro b_103; have H_197 := of_f H_195 b_103
        refine VL_exit ?_
        refine QL_exit ?_
        refine QB_here ?_
        have H_204 := Option.some.inj (show some (Sum.inr ()) = some q_190 from H_197); subst H_204
        refine VL_nil ?_
        exact QP_end () rfl [(1, 1), (2, 2), (10, 10)] hn (by kernel_rfl) (by kernel_rfl) rfl rfl rfl
    · intro y_193 hy; subst hy
      skip
      refine V_run hN hn 3 11 [4, 6, 120] [0, 1, 2, 10] ⟨[(4, .c (.h 1)), (6, .c (.h 2)), (120, .c (.val (.bool (decide ((((List.length y_136) : Nat) : Int) > (60 : Int))))))], [(0, .row (.pair (.int .i64) (.int .u8)) l_2), (1, .box [.val (.int .i64 (0 : Int)), .val (.slice none 0 0)]), (2, .box [.val (.int .i64 base_1), .h 10]), (10, .row (.pair (.int .i64) (.pair (.int .i64) .str)) y_136)], 11⟩ [] (by kernel_rfl) rfl rfl ap0 ?_
      refine VL_cond ((decide ((((List.length y_136) : Nat) : Int) > (60 : Int)))) (by kernel_rfl) ?_ ?_
      · intro b_114; have H_205 := of_t H_192 b_114
        refine V_run hN hn 2 11 [4, 5] [0, 1] ⟨[(4, .c (.h 1)), (5, .c (.val (.int .i64 (70 : Int))))], [(0, .row (.pair (.int .i64) (.int .u8)) l_2), (1, .box [.val (.int .i64 (0 : Int)), .val (.slice none 0 0)])], 11⟩ [] (by kernel_rfl) rfl rfl ap0 ?_
        have H_207 := Option.some.inj (show some ((0 : Int), ([] : List (Int × (Int × ByteArray))), (70 : Int)) = some r from H_205); subst H_207
        refine VL_ret ?_
        refine P_ghost [.nilCell 1 1 (.pair (.int .i64) (.pair (.int .i64) .str))] 11 hn [4, 5] [0, 1, 11] ⟨[(4, .c (.h 1)), (5, .c (.val (.int .i64 (70 : Int))))], [(0, .row (.pair (.int .i64) (.int .u8)) l_2), (1, .box [.val (.int .i64 (0 : Int)), .h 11]), (11, .row (.pair (.int .i64) (.pair (.int .i64) .str)) ([] : List (Int × (Int × ByteArray))))], 12⟩ (by kernel_rfl) rfl rfl ?_
        exact P_to [(4, .c (.h 1)), (5, .c (.val (.int .i64 (70 : Int))))] [(0, .row (.pair (.int .i64) (.int .u8)) l_2), (1, .box [.val (.int .i64 (0 : Int)), .h 12]), (12, .row (.pair (.int .i64) (.pair (.int .i64) .str)) ([] : List (Int × (Int × ByteArray))))] [(1, 1), (12, 11)] hn (by kernel_rfl) (by kernel_rfl) rfl rfl rfl (QF_retS (by kernel_rfl) (by kernel_rfl) rfl)
      · intro b_114; have H_206 := of_f H_192 b_114
        refine V_run hN hn 3 11 [4, 5] [0, 1, 10] ⟨[(4, .c (.h 1)), (5, .c (.val (.int .i64 (0 : Int))))], [(0, .row (.pair (.int .i64) (.int .u8)) l_2), (1, .box [.val (.int .i64 base_1), .h 10]), (10, .row (.pair (.int .i64) (.pair (.int .i64) .str)) y_136)], 11⟩ [] (by kernel_rfl) rfl rfl ap0 ?_
        have H_208 := Option.some.inj (show some (base_1, y_136, (0 : Int)) = some r from H_206); subst H_208
        refine VL_ret ?_
        exact P_to [(4, .c (.h 1)), (5, .c (.val (.int .i64 (0 : Int))))] [(0, .row (.pair (.int .i64) (.int .u8)) l_2), (1, .box [.val (.int .i64 base_1), .h 12]), (12, .row (.pair (.int .i64) (.pair (.int .i64) .str)) y_136)] [(1, 1), (12, 10)] hn (by kernel_rfl) (by kernel_rfl) rfl rfl rfl (QF_retS (by kernel_rfl) (by kernel_rfl) rfl)

theorem palinodelaw12_is_gr_spec (K : Nat) (s_1 : (Option ((List (Int × Int)) × Int))) (l_2 : (List Int)) (r : Bool) (H : palinodelaw12_is_gr K s_1 l_2 = some r) : Spec Try.prog 17 1 [.c (.imm (.opt (.pair (.slice (.pair (.int .i64) (.int .i64))) (.int .i64))) s_1), .c (.h 0)] [(0, .row (.int .i64) l_2)] (.c (.val (.bool r))) [(0, .row (.int .i64) l_2)] := by
  refine Spec_mk (fn := Try.f17) (c := (Try.f17.body).get!) Try.func17 (by kernel_rfl) rfl ?_
  intro C hN hn
  replace hN : C.N = 29 := hN
  unfold palinodelaw12_is_gr at H
  refine V_run hN hn 4 1 [0, 1] [0] ⟨[(0, .c (.imm (.opt (.pair (.slice (.pair (.int .i64) (.int .i64))) (.int .i64))) s_1)), (1, .c (.h 0))], [(0, .row (.int .i64) l_2)], 1⟩ [] (by kernel_rfl) rfl rfl ap0 ?_
  obtain ⟨q_29, H_30, H_31⟩ := of_bind H
  refine V_cut (Y := Bool) (R := Bool) q_29 (fun y => y) (fun y => [(0, .c (.imm (.opt (.pair (.slice (.pair (.int .i64) (.int .i64))) (.int .i64))) s_1)), (1, .c (.h 0)), (14, .c (.val (.bool y)))]) (fun y => [(0, .row (.int .i64) l_2)]) ?_ ?_
  · skip
    rcases Bool.eq_false_or_eq_true ((Option.isNone s_1)) with b_4 | b_4
    · have H_33 := of_t H_30 b_4
      refine V_reg hN hn [] [(8, true)] calls_nil 1 [0, 1, 14] [0] ⟨[(0, .c (.imm (.opt (.pair (.slice (.pair (.int .i64) (.int .i64))) (.int .i64))) s_1)), (1, .c (.h 0)), (14, .c (.val (.bool true)))], [(0, .row (.int .i64) l_2)], 1⟩ [(Option.isNone s_1) = true] (by kernel_rfl) rfl rfl (ap1 b_4) (by kernel_rfl) (by kernel_rfl) ?_
      have H_35 := Option.some.inj (show some true = some q_29 from H_33); subst H_35
      refine VL_nil ?_
      exact QP_end true rfl [] hn (by kernel_rfl) (by kernel_rfl) rfl rfl rfl
    · have H_34 := of_f H_30 b_4
      obtain ⟨r_6, h_7, H_36⟩ := of_bind H_34
      refine V_reg hN hn [(4, ⟨22, 0, [.c (.imm (.opt (.pair (.slice (.pair (.int .i64) (.int .i64))) (.int .i64))) s_1)], [], .c (.val (.int .i64 r_6)), [], [], 1⟩)] [(8, false)] (calls_cons (subset_Subset_Len_spec K s_1 r_6 h_7) (by kernel_rfl) calls_nil) 1 [0, 1, 14] [0] ⟨[(0, .c (.imm (.opt (.pair (.slice (.pair (.int .i64) (.int .i64))) (.int .i64))) s_1)), (1, .c (.h 0)), (14, .c (.val (.bool (r_6 != (((List.length l_2) : Nat) : Int)))))], [(0, .row (.int .i64) l_2)], 1⟩ [(Option.isNone s_1) = false] (by kernel_rfl) rfl rfl (ap1 b_4) (by kernel_rfl) (by kernel_rfl) ?_
      have H_37 := Option.some.inj (show some (r_6 != (((List.length l_2) : Nat) : Int)) = some q_29 from H_36); subst H_37
      refine VL_nil ?_
      exact QP_end (r_6 != (((List.length l_2) : Nat) : Int)) rfl [] hn (by kernel_rfl) (by kernel_rfl) rfl rfl rfl
  · intro y_32 hy; subst hy
    skip
    skip
    refine VL_cond (y_32) (by kernel_rfl) ?_ ?_
    · intro b_10; have H_38 := of_t H_31 b_10
      refine V_run hN hn 2 1 [4] [0] ⟨[(4, .c (.val (.bool false)))], [(0, .row (.int .i64) l_2)], 1⟩ [] (by kernel_rfl) rfl rfl ap0 ?_
      have H_40 := Option.some.inj (show some false = some r from H_38); subst H_40
      refine VL_ret ?_
      exact P_to [(4, .c (.val (.bool false)))] [(0, .row (.int .i64) l_2)] [] hn (by kernel_rfl) (by kernel_rfl) rfl rfl rfl (QF_retS (by kernel_rfl) (by kernel_rfl) rfl)
    · intro b_10; have H_39 := of_f H_31 b_10
      refine V_run hN hn 4 1 [0, 1, 5] [0] ⟨[(0, .c (.imm (.opt (.pair (.slice (.pair (.int .i64) (.int .i64))) (.int .i64))) s_1)), (1, .c (.h 0)), (5, .c (.val (.int .i64 (0 : Int))))], [(0, .row (.int .i64) l_2)], 1⟩ [] (by kernel_rfl) rfl rfl ap0 ?_
      refine VL_block ?_
      refine V_to [(0, .c (.imm (.opt (.pair (.slice (.pair (.int .i64) (.int .i64))) (.int .i64))) s_1)), (1, .c (.h 0)), (5, .c (.val (.int .i64 (0 : Int))))] [(0, .row (.int .i64) l_2)] [] hn (by kernel_rfl) (by kernel_rfl) rfl rfl rfl ?_
      refine VL_loop (X := Int) (fun x => [(0, .c (.imm (.opt (.pair (.slice (.pair (.int .i64) (.int .i64))) (.int .i64))) s_1)), (1, .c (.h 0)), (5, .c (.val (.int .i64 x)))]) (fun x => [(0, .row (.int .i64) l_2)]) (fun k x => palinodelaw12_is_gr.l0 K l_2 s_1 k x = some r) K (0 : Int) H_39 (fun _ h => no_none h) ?_
      intro k_14 i_13 H_41
      have H_42 : palinodelaw12_is_gr.l0 K l_2 s_1 (k_14 + 1) i_13 = some r := H_41
      rw [palinodelaw12_is_gr.l0] at H_42
      refine V_run hN hn 3 1 [0, 1, 5, 18] [0] ⟨[(0, .c (.imm (.opt (.pair (.slice (.pair (.int .i64) (.int .i64))) (.int .i64))) s_1)), (1, .c (.h 0)), (5, .c (.val (.int .i64 i_13))), (18, .c (.val (.bool (decide (i_13 < (((List.length l_2) : Nat) : Int))))))], [(0, .row (.int .i64) l_2)], 1⟩ [] (by kernel_rfl) rfl rfl ap0 ?_
      refine VL_cond ((decide (i_13 < (((List.length l_2) : Nat) : Int)))) (by kernel_rfl) ?_ ?_
      · intro b_16; have H_43 := of_t H_42 b_16
        refine V_run hN hn 2 1 [0, 1, 5, 18] [0] ⟨[(0, .c (.imm (.opt (.pair (.slice (.pair (.int .i64) (.int .i64))) (.int .i64))) s_1)), (1, .c (.h 0)), (5, .c (.val (.int .i64 i_13))), (18, .c (.val (.bool (decide (i_13 < (((List.length l_2) : Nat) : Int))))))], [(0, .row (.int .i64) l_2)], 1⟩ [] (by kernel_rfl) rfl rfl ap0 ?_
        refine VL_block ?_
        refine V_run hN hn 1 1 [0, 1, 5, 18] [0] ⟨[(0, .c (.imm (.opt (.pair (.slice (.pair (.int .i64) (.int .i64))) (.int .i64))) s_1)), (1, .c (.h 0)), (5, .c (.val (.int .i64 i_13))), (18, .c (.val (.bool (decide (i_13 < (((List.length l_2) : Nat) : Int))))))], [(0, .row (.int .i64) l_2)], 1⟩ [] (by kernel_rfl) rfl rfl ap0 ?_
        obtain ⟨r_19, h_20, H_45⟩ := of_bind H_43
        obtain ⟨c_21, H_46⟩ := of_if H_45
        refine V_draw hN hn (by kernel_rfl) [(2, ⟨38, 0, [.c (.imm (.opt (.pair (.slice (.pair (.int .i64) (.int .i64))) (.int .i64))) s_1), .c (.val (.int .i64 i_13))], [], .c (.val (.int .i64 r_19)), [], [], 1⟩)] [] (calls_cons (subset_Subset_Count_spec K s_1 i_13 r_19 h_20) (by kernel_rfl) calls_nil) 1 [0, 1, 5, 28] [0] ⟨[(0, .c (.imm (.opt (.pair (.slice (.pair (.int .i64) (.int .i64))) (.int .i64))) s_1)), (1, .c (.h 0)), (5, .c (.val (.int .i64 i_13))), (28, .c (.val (.bool (r_19 != (List.getD l_2 (Int.toNat i_13) (0 : Int))))))], [(0, .row (.int .i64) l_2)], 1⟩ [0 ≤ i_13, i_13 < (((List.length l_2) : Nat) : Int)] (by kernel_rfl) rfl rfl (ap2 c_21.1 (ap1 c_21.2)) (by kernel_rfl) (by kernel_rfl) ?_
        refine VL_cond ((r_19 != (List.getD l_2 (Int.toNat i_13) (0 : Int)))) (by kernel_rfl) ?_ ?_
        · intro b_22; have H_47 := of_t H_46 b_22
          refine V_run hN hn 2 1 [4] [0] ⟨[(4, .c (.val (.bool false)))], [(0, .row (.int .i64) l_2)], 1⟩ [] (by kernel_rfl) rfl rfl ap0 ?_
          have H_49 := Option.some.inj (show some false = some r from H_47); subst H_49
          refine VL_ret ?_
          refine QB_ret ?_
          refine QL_ret ?_
          refine QB_ret ?_
          exact P_to [(4, .c (.val (.bool false)))] [(0, .row (.int .i64) l_2)] [] hn (by kernel_rfl) (by kernel_rfl) rfl rfl rfl (QF_retS (by kernel_rfl) (by kernel_rfl) rfl)
        · intro b_22; have H_48 := of_f H_46 b_22
          refine V_run hN hn 1 1 [0, 1, 5, 28] [0] ⟨[(0, .c (.imm (.opt (.pair (.slice (.pair (.int .i64) (.int .i64))) (.int .i64))) s_1)), (1, .c (.h 0)), (5, .c (.val (.int .i64 i_13))), (28, .c (.val (.bool (r_19 != (List.getD l_2 (Int.toNat i_13) (0 : Int))))))], [(0, .row (.int .i64) l_2)], 1⟩ [] (by kernel_rfl) rfl rfl ap0 ?_
          refine VL_nil (QB_end ?_)
          refine V_run hN hn 1 1 [0, 1, 5] [0] ⟨[(0, .c (.imm (.opt (.pair (.slice (.pair (.int .i64) (.int .i64))) (.int .i64))) s_1)), (1, .c (.h 0)), (5, .c (.val (.int .i64 (IntKind.wrap .i64 (i_13 + (1 : Int))))))], [(0, .row (.int .i64) l_2)], 1⟩ [] (by kernel_rfl) rfl rfl ap0 ?_
          refine VL_nil ?_
          exact V_roundEnd (IntKind.wrap .i64 (i_13 + (1 : Int))) H_48 [] hn (by kernel_rfl) (by kernel_rfl) rfl rfl rfl
      · intro b_16; have H_44 := of_f H_42 b_16
        refine VL_exit ?_
        refine QL_exit ?_
        refine QB_here ?_
        refine V_run hN hn 2 1 [4] [0] ⟨[(4, .c (.val (.bool true)))], [(0, .row (.int .i64) l_2)], 1⟩ [] (by kernel_rfl) rfl rfl ap0 ?_
        have H_50 := Option.some.inj (show some true = some r from H_44); subst H_50
        refine VL_ret ?_
        exact P_to [(4, .c (.val (.bool true)))] [(0, .row (.int .i64) l_2)] [] hn (by kernel_rfl) (by kernel_rfl) rfl rfl rfl (QF_retS (by kernel_rfl) (by kernel_rfl) rfl)

theorem palinoderef11_Same_sggsgr_spec (K : Nat) (a_1 : Int) (a_2 : (List (Int × (Int × ByteArray)))) (b_3 : Int) (b_4 : (List (Int × (Int × ByteArray)))) (r : Bool) (H : palinoderef11_Same_sggsgr K a_1 a_2 b_3 b_4 = some r) : Spec Try.prog 18 1 [.agg [.val (.int .i64 a_1), .imm (.slice (.pair (.int .i64) (.pair (.int .i64) .str))) a_2], .agg [.val (.int .i64 b_3), .h 0]] [(0, .row (.pair (.int .i64) (.pair (.int .i64) .str)) b_4)] (.c (.val (.bool r))) [(0, .row (.pair (.int .i64) (.pair (.int .i64) .str)) b_4)] := by
  refine Spec_mk (fn := Try.f18) (c := (Try.f18.body).get!) Try.func18 (by kernel_rfl) rfl ?_
  intro C hN hn
  replace hN : C.N = 38 := hN
  unfold palinoderef11_Same_sggsgr at H
  refine V_run hN hn 4 1 [2, 3] [0, 1, 2] ⟨[(2, .c (.h 1)), (3, .c (.h 2))], [(0, .row (.pair (.int .i64) (.pair (.int .i64) .str)) b_4), (1, .box [.val (.int .i64 a_1), .imm (.slice (.pair (.int .i64) (.pair (.int .i64) .str))) a_2]), (2, .box [.val (.int .i64 b_3), .h 0])], 3⟩ [] (by kernel_rfl) rfl rfl ap0 ?_
  obtain ⟨q_27, H_28, H_29⟩ := of_bind H
  refine V_cut (Y := Bool) (R := Bool) q_27 (fun y => y) (fun y => [(2, .c (.h 1)), (3, .c (.h 2)), (19, .c (.val (.bool y)))]) (fun y => [(0, .row (.pair (.int .i64) (.pair (.int .i64) .str)) b_4), (1, .box [.val (.int .i64 a_1), .imm (.slice (.pair (.int .i64) (.pair (.int .i64) .str))) a_2]), (2, .box [.val (.int .i64 b_3), .h 0])]) ?_ ?_
  · skip
    rcases Bool.eq_false_or_eq_true ((a_1 != b_3)) with b_6 | b_6
    · have H_31 := of_t H_28 b_6
      refine V_reg hN hn [] [(11, true)] calls_nil 3 [2, 3, 19] [0, 1, 2] ⟨[(2, .c (.h 1)), (3, .c (.h 2)), (19, .c (.val (.bool true)))], [(0, .row (.pair (.int .i64) (.pair (.int .i64) .str)) b_4), (1, .box [.val (.int .i64 a_1), .imm (.slice (.pair (.int .i64) (.pair (.int .i64) .str))) a_2]), (2, .box [.val (.int .i64 b_3), .h 0])], 3⟩ [(a_1 != b_3) = true] (by kernel_rfl) rfl rfl (ap1 b_6) (by kernel_rfl) (by kernel_rfl) ?_
      have H_33 := Option.some.inj (show some true = some q_27 from H_31); subst H_33
      refine VL_nil ?_
      exact QP_end true rfl [(1, 1), (2, 2)] hn (by kernel_rfl) (by kernel_rfl) rfl rfl rfl
    · have H_32 := of_f H_28 b_6
      refine V_reg hN hn [] [(11, false)] calls_nil 3 [2, 3, 19] [0, 1, 2] ⟨[(2, .c (.h 1)), (3, .c (.h 2)), (19, .c (.val (.bool ((((List.length a_2) : Nat) : Int) != (((List.length b_4) : Nat) : Int)))))], [(0, .row (.pair (.int .i64) (.pair (.int .i64) .str)) b_4), (1, .box [.val (.int .i64 a_1), .imm (.slice (.pair (.int .i64) (.pair (.int .i64) .str))) a_2]), (2, .box [.val (.int .i64 b_3), .h 0])], 3⟩ [(a_1 != b_3) = false] (by kernel_rfl) rfl rfl (ap1 b_6) (by kernel_rfl) (by kernel_rfl) ?_
      have H_34 := Option.some.inj (show some ((((List.length a_2) : Nat) : Int) != (((List.length b_4) : Nat) : Int)) = some q_27 from H_32); subst H_34
      refine VL_nil ?_
      exact QP_end ((((List.length a_2) : Nat) : Int) != (((List.length b_4) : Nat) : Int)) rfl [(1, 1), (2, 2)] hn (by kernel_rfl) (by kernel_rfl) rfl rfl rfl
  · intro y_30 hy; subst hy
    skip
    skip
    refine VL_cond (y_30) (by kernel_rfl) ?_ ?_
    · intro b_10; have H_35 := of_t H_29 b_10
      refine V_run hN hn 2 3 [4] [0] ⟨[(4, .c (.val (.bool false)))], [(0, .row (.pair (.int .i64) (.pair (.int .i64) .str)) b_4)], 3⟩ [] (by kernel_rfl) rfl rfl ap0 ?_
      have H_37 := Option.some.inj (show some false = some r from H_35); subst H_37
      refine VL_ret ?_
      exact P_to [(4, .c (.val (.bool false)))] [(0, .row (.pair (.int .i64) (.pair (.int .i64) .str)) b_4)] [] hn (by kernel_rfl) (by kernel_rfl) rfl rfl rfl (QF_retS (by kernel_rfl) (by kernel_rfl) rfl)
    · intro b_10; have H_36 := of_f H_29 b_10
      refine V_run hN hn 4 3 [2, 3, 5] [0, 1, 2] ⟨[(2, .c (.h 1)), (3, .c (.h 2)), (5, .c (.val (.int .i64 (0 : Int))))], [(0, .row (.pair (.int .i64) (.pair (.int .i64) .str)) b_4), (1, .box [.val (.int .i64 a_1), .imm (.slice (.pair (.int .i64) (.pair (.int .i64) .str))) a_2]), (2, .box [.val (.int .i64 b_3), .h 0])], 3⟩ [] (by kernel_rfl) rfl rfl ap0 ?_
      refine VL_block ?_
      refine V_to [(2, .c (.h 1)), (3, .c (.h 2)), (5, .c (.val (.int .i64 (0 : Int))))] [(0, .row (.pair (.int .i64) (.pair (.int .i64) .str)) b_4), (1, .box [.val (.int .i64 a_1), .imm (.slice (.pair (.int .i64) (.pair (.int .i64) .str))) a_2]), (2, .box [.val (.int .i64 b_3), .h 0])] [(1, 1), (2, 2)] hn (by kernel_rfl) (by kernel_rfl) rfl rfl rfl ?_
      refine VL_loop (X := Int) (fun x => [(2, .c (.h 1)), (3, .c (.h 2)), (5, .c (.val (.int .i64 x)))]) (fun x => [(0, .row (.pair (.int .i64) (.pair (.int .i64) .str)) b_4), (1, .box [.val (.int .i64 a_1), .imm (.slice (.pair (.int .i64) (.pair (.int .i64) .str))) a_2]), (2, .box [.val (.int .i64 b_3), .h 0])]) (fun k x => palinoderef11_Same_sggsgr.l0 K a_2 b_4 k x = some r) K (0 : Int) H_36 (fun _ h => no_none h) ?_
      intro k_14 i_13 H_38
      have H_39 : palinoderef11_Same_sggsgr.l0 K a_2 b_4 (k_14 + 1) i_13 = some r := H_38
      rw [palinoderef11_Same_sggsgr.l0] at H_39
      refine V_run hN hn 3 3 [2, 3, 5, 24] [0, 1, 2] ⟨[(2, .c (.h 1)), (3, .c (.h 2)), (5, .c (.val (.int .i64 i_13))), (24, .c (.val (.bool (decide (i_13 < (((List.length a_2) : Nat) : Int))))))], [(0, .row (.pair (.int .i64) (.pair (.int .i64) .str)) b_4), (1, .box [.val (.int .i64 a_1), .imm (.slice (.pair (.int .i64) (.pair (.int .i64) .str))) a_2]), (2, .box [.val (.int .i64 b_3), .h 0])], 3⟩ [] (by kernel_rfl) rfl rfl ap0 ?_
      refine VL_cond ((decide (i_13 < (((List.length a_2) : Nat) : Int)))) (by kernel_rfl) ?_ ?_
      · intro b_16; have H_40 := of_t H_39 b_16
        refine V_run hN hn 2 3 [2, 3, 5, 24] [0, 1, 2] ⟨[(2, .c (.h 1)), (3, .c (.h 2)), (5, .c (.val (.int .i64 i_13))), (24, .c (.val (.bool (decide (i_13 < (((List.length a_2) : Nat) : Int))))))], [(0, .row (.pair (.int .i64) (.pair (.int .i64) .str)) b_4), (1, .box [.val (.int .i64 a_1), .imm (.slice (.pair (.int .i64) (.pair (.int .i64) .str))) a_2]), (2, .box [.val (.int .i64 b_3), .h 0])], 3⟩ [] (by kernel_rfl) rfl rfl ap0 ?_
        refine VL_block ?_
        refine V_run hN hn 1 3 [2, 3, 5, 24] [0, 1, 2] ⟨[(2, .c (.h 1)), (3, .c (.h 2)), (5, .c (.val (.int .i64 i_13))), (24, .c (.val (.bool (decide (i_13 < (((List.length a_2) : Nat) : Int))))))], [(0, .row (.pair (.int .i64) (.pair (.int .i64) .str)) b_4), (1, .box [.val (.int .i64 a_1), .imm (.slice (.pair (.int .i64) (.pair (.int .i64) .str))) a_2]), (2, .box [.val (.int .i64 b_3), .h 0])], 3⟩ [] (by kernel_rfl) rfl rfl ap0 ?_
        obtain ⟨c_19, H_42⟩ := of_if H_40
        refine V_draw hN hn (by kernel_rfl) [] [] calls_nil 3 [2, 3, 5, 37] [0, 1, 2] ⟨[(2, .c (.h 1)), (3, .c (.h 2)), (5, .c (.val (.int .i64 i_13))), (37, .c (.val (.bool (!(((List.getD a_2 (Int.toNat i_13) ((0 : Int), ((0 : Int), ByteArray.empty))).1 == (List.getD b_4 (Int.toNat i_13) ((0 : Int), ((0 : Int), ByteArray.empty))).1) && (((List.getD a_2 (Int.toNat i_13) ((0 : Int), ((0 : Int), ByteArray.empty))).2.1 == (List.getD b_4 (Int.toNat i_13) ((0 : Int), ((0 : Int), ByteArray.empty))).2.1) && (ByteArray.toList (List.getD a_2 (Int.toNat i_13) ((0 : Int), ((0 : Int), ByteArray.empty))).2.2 == ByteArray.toList (List.getD b_4 (Int.toNat i_13) ((0 : Int), ((0 : Int), ByteArray.empty))).2.2)))))))], [(0, .row (.pair (.int .i64) (.pair (.int .i64) .str)) b_4), (1, .box [.val (.int .i64 a_1), .imm (.slice (.pair (.int .i64) (.pair (.int .i64) .str))) a_2]), (2, .box [.val (.int .i64 b_3), .h 0])], 3⟩ [0 ≤ i_13, i_13 < (((List.length a_2) : Nat) : Int), 0 ≤ i_13, i_13 < (((List.length b_4) : Nat) : Int)] (by kernel_rfl) rfl rfl (ap2 c_19.1 (ap2 c_19.2.1 (ap2 c_19.1 (ap1 c_19.2.2)))) (by kernel_rfl) (by kernel_rfl) ?_
        refine VL_cond ((!(((List.getD a_2 (Int.toNat i_13) ((0 : Int), ((0 : Int), ByteArray.empty))).1 == (List.getD b_4 (Int.toNat i_13) ((0 : Int), ((0 : Int), ByteArray.empty))).1) && (((List.getD a_2 (Int.toNat i_13) ((0 : Int), ((0 : Int), ByteArray.empty))).2.1 == (List.getD b_4 (Int.toNat i_13) ((0 : Int), ((0 : Int), ByteArray.empty))).2.1) && (ByteArray.toList (List.getD a_2 (Int.toNat i_13) ((0 : Int), ((0 : Int), ByteArray.empty))).2.2 == ByteArray.toList (List.getD b_4 (Int.toNat i_13) ((0 : Int), ((0 : Int), ByteArray.empty))).2.2))))) (by kernel_rfl) ?_ ?_
        · intro b_20; have H_43 := of_t H_42 b_20
          refine V_run hN hn 2 3 [4] [0] ⟨[(4, .c (.val (.bool false)))], [(0, .row (.pair (.int .i64) (.pair (.int .i64) .str)) b_4)], 3⟩ [] (by kernel_rfl) rfl rfl ap0 ?_
          have H_45 := Option.some.inj (show some false = some r from H_43); subst H_45
          refine VL_ret ?_
          refine QB_ret ?_
          refine QL_ret ?_
          refine QB_ret ?_
          exact P_to [(4, .c (.val (.bool false)))] [(0, .row (.pair (.int .i64) (.pair (.int .i64) .str)) b_4)] [] hn (by kernel_rfl) (by kernel_rfl) rfl rfl rfl (QF_retS (by kernel_rfl) (by kernel_rfl) rfl)
        · intro b_20; have H_44 := of_f H_42 b_20
          refine V_run hN hn 1 3 [2, 3, 5, 37] [0, 1, 2] ⟨[(2, .c (.h 1)), (3, .c (.h 2)), (5, .c (.val (.int .i64 i_13))), (37, .c (.val (.bool (!(((List.getD a_2 (Int.toNat i_13) ((0 : Int), ((0 : Int), ByteArray.empty))).1 == (List.getD b_4 (Int.toNat i_13) ((0 : Int), ((0 : Int), ByteArray.empty))).1) && (((List.getD a_2 (Int.toNat i_13) ((0 : Int), ((0 : Int), ByteArray.empty))).2.1 == (List.getD b_4 (Int.toNat i_13) ((0 : Int), ((0 : Int), ByteArray.empty))).2.1) && (ByteArray.toList (List.getD a_2 (Int.toNat i_13) ((0 : Int), ((0 : Int), ByteArray.empty))).2.2 == ByteArray.toList (List.getD b_4 (Int.toNat i_13) ((0 : Int), ((0 : Int), ByteArray.empty))).2.2)))))))], [(0, .row (.pair (.int .i64) (.pair (.int .i64) .str)) b_4), (1, .box [.val (.int .i64 a_1), .imm (.slice (.pair (.int .i64) (.pair (.int .i64) .str))) a_2]), (2, .box [.val (.int .i64 b_3), .h 0])], 3⟩ [] (by kernel_rfl) rfl rfl ap0 ?_
          refine VL_nil (QB_end ?_)
          refine V_run hN hn 1 3 [2, 3, 5] [0, 1, 2] ⟨[(2, .c (.h 1)), (3, .c (.h 2)), (5, .c (.val (.int .i64 (IntKind.wrap .i64 (i_13 + (1 : Int))))))], [(0, .row (.pair (.int .i64) (.pair (.int .i64) .str)) b_4), (1, .box [.val (.int .i64 a_1), .imm (.slice (.pair (.int .i64) (.pair (.int .i64) .str))) a_2]), (2, .box [.val (.int .i64 b_3), .h 0])], 3⟩ [] (by kernel_rfl) rfl rfl ap0 ?_
          refine VL_nil ?_
          exact V_roundEnd (IntKind.wrap .i64 (i_13 + (1 : Int))) H_44 [(1, 1), (2, 2)] hn (by kernel_rfl) (by kernel_rfl) rfl rfl rfl
      · intro b_16; have H_41 := of_f H_39 b_16
        refine VL_exit ?_
        refine QL_exit ?_
        refine QB_here ?_
        refine V_run hN hn 2 3 [4] [0] ⟨[(4, .c (.val (.bool true)))], [(0, .row (.pair (.int .i64) (.pair (.int .i64) .str)) b_4)], 3⟩ [] (by kernel_rfl) rfl rfl ap0 ?_
        have H_46 := Option.some.inj (show some true = some r from H_41); subst H_46
        refine VL_ret ?_
        exact P_to [(4, .c (.val (.bool true)))] [(0, .row (.pair (.int .i64) (.pair (.int .i64) .str)) b_4)] [] hn (by kernel_rfl) (by kernel_rfl) rfl rfl rfl (QF_retS (by kernel_rfl) (by kernel_rfl) rfl)

theorem palinodelaw12_FactorTells_spec (K : Nat) (d_1 : Int) (d_2 : (List (Int × (Int × ByteArray)))) (r : Bool) (H : palinodelaw12_FactorTells K d_1 d_2 = some r) : Spec Try.prog 3 0 [.agg [.val (.int .i64 d_1), .imm (.slice (.pair (.int .i64) (.pair (.int .i64) .str))) d_2]] [] (.c (.val (.bool r))) [] := by
  refine Spec_mk (fn := Try.f3) (c := (Try.f3.body).get!) Try.func3 (by kernel_rfl) rfl ?_
  intro C hN hn
  replace hN : C.N = 134 := hN
  unfold palinodelaw12_FactorTells at H
  refine V_run hN hn 4 0 [1] [0] ⟨[(1, .c (.h 0))], [(0, .box [.val (.int .i64 d_1), .imm (.slice (.pair (.int .i64) (.pair (.int .i64) .str))) d_2])], 1⟩ [] (by kernel_rfl) rfl rfl ap0 ?_
  obtain ⟨r_4, h_5, H_118⟩ := of_bind H
  refine V_reg hN hn [(0, ⟨8, 0, [], [], .c (.val (.bool r_4)), [], [], 1⟩)] [] (calls_cons (palinodelaw12_known_spec K  r_4 h_5) (by kernel_rfl) calls_nil) 1 [1, 18] [0] ⟨[(1, .c (.h 0)), (18, .c (.val (.bool (!r_4))))], [(0, .box [.val (.int .i64 d_1), .imm (.slice (.pair (.int .i64) (.pair (.int .i64) .str))) d_2])], 1⟩ [] (by kernel_rfl) rfl rfl ap0 (by kernel_rfl) (by kernel_rfl) ?_
  refine VL_cond ((!r_4)) (by kernel_rfl) ?_ ?_
  · intro b_7; have H_119 := of_t H_118 b_7
    refine V_run hN hn 2 1 [2] [] ⟨[(2, .c (.val (.bool false)))], [], 1⟩ [] (by kernel_rfl) rfl rfl ap0 ?_
    have H_121 := Option.some.inj (show some false = some r from H_119); subst H_121
    refine VL_ret ?_
    exact P_to [(2, .c (.val (.bool false)))] [] [] hn (by kernel_rfl) (by kernel_rfl) rfl rfl rfl (QF_retS (by kernel_rfl) (by kernel_rfl) rfl)
  · intro b_7; have H_120 := of_f H_118 b_7
    refine V_run hN hn 3 1 [1, 18] [0] ⟨[(1, .c (.h 0)), (18, .c (.val (.bool (!r_4))))], [(0, .box [.val (.int .i64 d_1), .imm (.slice (.pair (.int .i64) (.pair (.int .i64) .str))) d_2])], 1⟩ [] (by kernel_rfl) rfl rfl ap0 ?_
    obtain ⟨r_10, h_11, H_122⟩ := of_bind H_120
    refine V_reg hN hn [(1, ⟨9, 0, [.agg [.val (.int .i64 d_1), .imm (.slice (.pair (.int .i64) (.pair (.int .i64) .str))) d_2]], [], .c (.val (.bool r_10)), [], [], 1⟩)] [] (calls_cons (palinodelaw12_few_spec K d_1 d_2 r_10 h_11) (by kernel_rfl) calls_nil) 1 [1, 21] [0] ⟨[(1, .c (.h 0)), (21, .c (.val (.bool (!r_10))))], [(0, .box [.val (.int .i64 d_1), .imm (.slice (.pair (.int .i64) (.pair (.int .i64) .str))) d_2])], 1⟩ [] (by kernel_rfl) rfl rfl ap0 (by kernel_rfl) (by kernel_rfl) ?_
    refine VL_cond ((!r_10)) (by kernel_rfl) ?_ ?_
    · intro b_13; have H_123 := of_t H_122 b_13
      refine V_run hN hn 2 1 [2] [] ⟨[(2, .c (.val (.bool true)))], [], 1⟩ [] (by kernel_rfl) rfl rfl ap0 ?_
      have H_125 := Option.some.inj (show some true = some r from H_123); subst H_125
      refine VL_ret ?_
      exact P_to [(2, .c (.val (.bool true)))] [] [] hn (by kernel_rfl) (by kernel_rfl) rfl rfl rfl (QF_retS (by kernel_rfl) (by kernel_rfl) rfl)
    · intro b_13; have H_124 := of_f H_122 b_13
      refine V_run hN hn 2 1 [1, 21] [0] ⟨[(1, .c (.h 0)), (21, .c (.val (.bool (!r_10))))], [(0, .box [.val (.int .i64 d_1), .imm (.slice (.pair (.int .i64) (.pair (.int .i64) .str))) d_2])], 1⟩ [] (by kernel_rfl) rfl rfl ap0 ?_
      obtain ⟨r_16, h_17, H_126⟩ := of_bind H_124
      refine V_reg hN hn [(1, ⟨10, 0, [.agg [.val (.int .i64 d_1), .imm (.slice (.pair (.int .i64) (.pair (.int .i64) .str))) d_2]], [], .tup [(true, [.val (.int .i64 r_16.1), .imm (.slice (.pair (.int .i64) (.pair (.int .i64) .str))) r_16.2.1]), (false, [.imm (.opt (.pair (.slice (.pair (.int .i64) (.int .i64))) (.int .i64))) r_16.2.2.1]), (false, [.val (.int .i64 r_16.2.2.2)])], [], [], 1⟩)] [] (calls_cons (factor_Split_spec K d_1 d_2 r_16 h_17) (by kernel_rfl) calls_nil) 1 [1, 3, 4, 5] [0, 1] ⟨[(1, .c (.h 0)), (3, .c (.h 1)), (4, .c (.imm (.opt (.pair (.slice (.pair (.int .i64) (.int .i64))) (.int .i64))) r_16.2.2.1)), (5, .c (.val (.int .i64 r_16.2.2.2)))], [(0, .box [.val (.int .i64 d_1), .imm (.slice (.pair (.int .i64) (.pair (.int .i64) .str))) d_2]), (1, .box [.val (.int .i64 r_16.1), .imm (.slice (.pair (.int .i64) (.pair (.int .i64) .str))) r_16.2.1])], 2⟩ [] (by kernel_rfl) rfl rfl ap0 (by kernel_rfl) (by kernel_rfl) ?_
      refine V_run hN hn 1 2 [1, 3, 4, 5] [0, 1] ⟨[(1, .c (.h 0)), (3, .c (.h 1)), (4, .c (.imm (.opt (.pair (.slice (.pair (.int .i64) (.int .i64))) (.int .i64))) r_16.2.2.1)), (5, .c (.val (.int .i64 r_16.2.2.2)))], [(0, .box [.val (.int .i64 d_1), .imm (.slice (.pair (.int .i64) (.pair (.int .i64) .str))) d_2]), (1, .box [.val (.int .i64 r_16.1), .imm (.slice (.pair (.int .i64) (.pair (.int .i64) .str))) r_16.2.1])], 2⟩ [] (by kernel_rfl) rfl rfl ap0 ?_
      obtain ⟨r_20, h_21, H_127⟩ := of_bind H_126
      refine V_reg hN hn [(1, ⟨11, 0, [.agg [.val (.int .i64 d_1), .imm (.slice (.pair (.int .i64) (.pair (.int .i64) .str))) d_2]], [], .tup [(false, [.imm (.opt (.pair (.slice (.pair (.int .i64) (.int .i64))) (.int .i64))) r_20.1]), (false, [.val (.int .i64 r_20.2)])], [], [], 2⟩)] [] (calls_cons (factor_Inserted_spec K d_1 d_2 r_20 h_21) (by kernel_rfl) calls_nil) 2 [1, 3, 4, 5, 6, 7] [0, 1] ⟨[(1, .c (.h 0)), (3, .c (.h 1)), (4, .c (.imm (.opt (.pair (.slice (.pair (.int .i64) (.int .i64))) (.int .i64))) r_16.2.2.1)), (5, .c (.val (.int .i64 r_16.2.2.2))), (6, .c (.imm (.opt (.pair (.slice (.pair (.int .i64) (.int .i64))) (.int .i64))) r_20.1)), (7, .c (.val (.int .i64 r_20.2)))], [(0, .box [.val (.int .i64 d_1), .imm (.slice (.pair (.int .i64) (.pair (.int .i64) .str))) d_2]), (1, .box [.val (.int .i64 r_16.1), .imm (.slice (.pair (.int .i64) (.pair (.int .i64) .str))) r_16.2.1])], 2⟩ [] (by kernel_rfl) rfl rfl ap0 (by kernel_rfl) (by kernel_rfl) ?_
      refine V_run hN hn 1 2 [1, 3, 4, 5, 6, 7] [0, 1] ⟨[(1, .c (.h 0)), (3, .c (.h 1)), (4, .c (.imm (.opt (.pair (.slice (.pair (.int .i64) (.int .i64))) (.int .i64))) r_16.2.2.1)), (5, .c (.val (.int .i64 r_16.2.2.2))), (6, .c (.imm (.opt (.pair (.slice (.pair (.int .i64) (.int .i64))) (.int .i64))) r_20.1)), (7, .c (.val (.int .i64 r_20.2)))], [(0, .box [.val (.int .i64 d_1), .imm (.slice (.pair (.int .i64) (.pair (.int .i64) .str))) d_2]), (1, .box [.val (.int .i64 r_16.1), .imm (.slice (.pair (.int .i64) (.pair (.int .i64) .str))) r_16.2.1])], 2⟩ [] (by kernel_rfl) rfl rfl ap0 ?_
      obtain ⟨r_24, h_25, H_128⟩ := of_bind H_127
      refine V_reg hN hn [(1, ⟨12, 0, [.agg [.val (.int .i64 d_1), .imm (.slice (.pair (.int .i64) (.pair (.int .i64) .str))) d_2]], [], .tup [(false, [.imm (.opt (.pair (.slice (.pair (.int .i64) (.int .i64))) (.int .i64))) r_24.1]), (false, [.val (.int .i64 r_24.2)])], [], [], 2⟩)] [] (calls_cons (factor_Deleted_spec K d_1 d_2 r_24 h_25) (by kernel_rfl) calls_nil) 2 [1, 3, 4, 5, 6, 7, 8, 9] [0, 1] ⟨[(1, .c (.h 0)), (3, .c (.h 1)), (4, .c (.imm (.opt (.pair (.slice (.pair (.int .i64) (.int .i64))) (.int .i64))) r_16.2.2.1)), (5, .c (.val (.int .i64 r_16.2.2.2))), (6, .c (.imm (.opt (.pair (.slice (.pair (.int .i64) (.int .i64))) (.int .i64))) r_20.1)), (7, .c (.val (.int .i64 r_20.2))), (8, .c (.imm (.opt (.pair (.slice (.pair (.int .i64) (.int .i64))) (.int .i64))) r_24.1)), (9, .c (.val (.int .i64 r_24.2)))], [(0, .box [.val (.int .i64 d_1), .imm (.slice (.pair (.int .i64) (.pair (.int .i64) .str))) d_2]), (1, .box [.val (.int .i64 r_16.1), .imm (.slice (.pair (.int .i64) (.pair (.int .i64) .str))) r_16.2.1])], 2⟩ [] (by kernel_rfl) rfl rfl ap0 (by kernel_rfl) (by kernel_rfl) ?_
      refine V_run hN hn 2 2 [1, 3, 4, 5, 6, 7, 8, 9] [0, 1] ⟨[(1, .c (.h 0)), (3, .c (.h 1)), (4, .c (.imm (.opt (.pair (.slice (.pair (.int .i64) (.int .i64))) (.int .i64))) r_16.2.2.1)), (5, .c (.val (.int .i64 r_16.2.2.2))), (6, .c (.imm (.opt (.pair (.slice (.pair (.int .i64) (.int .i64))) (.int .i64))) r_20.1)), (7, .c (.val (.int .i64 r_20.2))), (8, .c (.imm (.opt (.pair (.slice (.pair (.int .i64) (.int .i64))) (.int .i64))) r_24.1)), (9, .c (.val (.int .i64 r_24.2)))], [(0, .box [.val (.int .i64 d_1), .imm (.slice (.pair (.int .i64) (.pair (.int .i64) .str))) d_2]), (1, .box [.val (.int .i64 r_16.1), .imm (.slice (.pair (.int .i64) (.pair (.int .i64) .str))) r_16.2.1])], 2⟩ [] (by kernel_rfl) rfl rfl ap0 ?_
      obtain ⟨r_28, h_29, H_129⟩ := of_bind H_128
      refine V_reg hN hn [(1, ⟨13, 0, [.agg [.val (.int .i64 d_1), .imm (.slice (.pair (.int .i64) (.pair (.int .i64) .str))) d_2]], [], .c (.val (.bool r_28)), [], [], 2⟩)] [] (calls_cons (palinoderef11_Is_spec K d_1 d_2 r_28 h_29) (by kernel_rfl) calls_nil) 2 [1, 3, 4, 5, 6, 7, 8, 9, 40] [0, 1] ⟨[(1, .c (.h 0)), (3, .c (.h 1)), (4, .c (.imm (.opt (.pair (.slice (.pair (.int .i64) (.int .i64))) (.int .i64))) r_16.2.2.1)), (5, .c (.val (.int .i64 r_16.2.2.2))), (6, .c (.imm (.opt (.pair (.slice (.pair (.int .i64) (.int .i64))) (.int .i64))) r_20.1)), (7, .c (.val (.int .i64 r_20.2))), (8, .c (.imm (.opt (.pair (.slice (.pair (.int .i64) (.int .i64))) (.int .i64))) r_24.1)), (9, .c (.val (.int .i64 r_24.2))), (40, .c (.val (.bool (!r_28))))], [(0, .box [.val (.int .i64 d_1), .imm (.slice (.pair (.int .i64) (.pair (.int .i64) .str))) d_2]), (1, .box [.val (.int .i64 r_16.1), .imm (.slice (.pair (.int .i64) (.pair (.int .i64) .str))) r_16.2.1])], 2⟩ [] (by kernel_rfl) rfl rfl ap0 (by kernel_rfl) (by kernel_rfl) ?_
      refine VL_cond ((!r_28)) (by kernel_rfl) ?_ ?_
      · intro b_31; have H_130 := of_t H_129 b_31
        refine V_run hN hn 1 2 [1, 3, 4, 5, 6, 7, 8, 9, 40] [0, 1] ⟨[(1, .c (.h 0)), (3, .c (.h 1)), (4, .c (.imm (.opt (.pair (.slice (.pair (.int .i64) (.int .i64))) (.int .i64))) r_16.2.2.1)), (5, .c (.val (.int .i64 r_16.2.2.2))), (6, .c (.imm (.opt (.pair (.slice (.pair (.int .i64) (.int .i64))) (.int .i64))) r_20.1)), (7, .c (.val (.int .i64 r_20.2))), (8, .c (.imm (.opt (.pair (.slice (.pair (.int .i64) (.int .i64))) (.int .i64))) r_24.1)), (9, .c (.val (.int .i64 r_24.2))), (40, .c (.val (.bool (!r_28))))], [(0, .box [.val (.int .i64 d_1), .imm (.slice (.pair (.int .i64) (.pair (.int .i64) .str))) d_2]), (1, .box [.val (.int .i64 r_16.1), .imm (.slice (.pair (.int .i64) (.pair (.int .i64) .str))) r_16.2.1])], 2⟩ [] (by kernel_rfl) rfl rfl ap0 ?_
        rcases Bool.eq_false_or_eq_true ((r_16.2.2.2 == (12 : Int))) with b_33 | b_33
        · have H_132 := of_t H_130 b_33
          rcases Bool.eq_false_or_eq_true ((r_20.2 == (12 : Int))) with b_34 | b_34
          · have H_134 := of_t H_132 b_34
            rcases Bool.eq_false_or_eq_true ((r_24.2 == (12 : Int))) with b_35 | b_35
            · have H_136 := of_t H_134 b_35
              rcases Bool.eq_false_or_eq_true ((Option.isNone r_20.1)) with b_36 | b_36
              · have H_138 := of_t H_136 b_36
                rcases Bool.eq_false_or_eq_true ((Option.isNone r_24.1)) with b_37 | b_37
                · have H_140 := of_t H_138 b_37
                  refine V_reg hN hn [] [(43, true), (47, true), (51, true), (55, true), (59, true)] calls_nil 2 [2] [] ⟨[(2, .c (.val (.bool (Option.isNone r_16.2.2.1))))], [], 2⟩ [(r_16.2.2.2 == (12 : Int)) = true, (r_20.2 == (12 : Int)) = true, (r_24.2 == (12 : Int)) = true, (Option.isNone r_20.1) = true, (Option.isNone r_24.1) = true] (by kernel_rfl) rfl rfl (ap2 b_33 (ap2 b_34 (ap2 b_35 (ap2 b_36 (ap1 b_37))))) (by kernel_rfl) (by kernel_rfl) ?_
                  have H_142 := Option.some.inj (show some (Option.isNone r_16.2.2.1) = some r from H_140); subst H_142
                  refine VL_ret ?_
                  exact P_to [(2, .c (.val (.bool (Option.isNone r_16.2.2.1))))] [] [] hn (by kernel_rfl) (by kernel_rfl) rfl rfl rfl (QF_retS (by kernel_rfl) (by kernel_rfl) rfl)
                · have H_141 := of_f H_138 b_37
                  refine V_reg hN hn [] [(43, true), (47, true), (51, true), (55, true), (59, false)] calls_nil 2 [2] [] ⟨[(2, .c (.val (.bool false)))], [], 2⟩ [(r_16.2.2.2 == (12 : Int)) = true, (r_20.2 == (12 : Int)) = true, (r_24.2 == (12 : Int)) = true, (Option.isNone r_20.1) = true, (Option.isNone r_24.1) = false] (by kernel_rfl) rfl rfl (ap2 b_33 (ap2 b_34 (ap2 b_35 (ap2 b_36 (ap1 b_37))))) (by kernel_rfl) (by kernel_rfl) ?_
                  have H_143 := Option.some.inj (show some false = some r from H_141); subst H_143
                  refine VL_ret ?_
                  exact P_to [(2, .c (.val (.bool false)))] [] [] hn (by kernel_rfl) (by kernel_rfl) rfl rfl rfl (QF_retS (by kernel_rfl) (by kernel_rfl) rfl)
              · have H_139 := of_f H_136 b_36
                refine V_reg hN hn [] [(43, true), (47, true), (51, true), (55, false)] calls_nil 2 [2] [] ⟨[(2, .c (.val (.bool false)))], [], 2⟩ [(r_16.2.2.2 == (12 : Int)) = true, (r_20.2 == (12 : Int)) = true, (r_24.2 == (12 : Int)) = true, (Option.isNone r_20.1) = false] (by kernel_rfl) rfl rfl (ap2 b_33 (ap2 b_34 (ap2 b_35 (ap1 b_36)))) (by kernel_rfl) (by kernel_rfl) ?_
                have H_144 := Option.some.inj (show some false = some r from H_139); subst H_144
                refine VL_ret ?_
                exact P_to [(2, .c (.val (.bool false)))] [] [] hn (by kernel_rfl) (by kernel_rfl) rfl rfl rfl (QF_retS (by kernel_rfl) (by kernel_rfl) rfl)
            · have H_137 := of_f H_134 b_35
              refine V_reg hN hn [] [(43, true), (47, true), (51, false)] calls_nil 2 [2] [] ⟨[(2, .c (.val (.bool false)))], [], 2⟩ [(r_16.2.2.2 == (12 : Int)) = true, (r_20.2 == (12 : Int)) = true, (r_24.2 == (12 : Int)) = false] (by kernel_rfl) rfl rfl (ap2 b_33 (ap2 b_34 (ap1 b_35))) (by kernel_rfl) (by kernel_rfl) ?_
              have H_145 := Option.some.inj (show some false = some r from H_137); subst H_145
              refine VL_ret ?_
              exact P_to [(2, .c (.val (.bool false)))] [] [] hn (by kernel_rfl) (by kernel_rfl) rfl rfl rfl (QF_retS (by kernel_rfl) (by kernel_rfl) rfl)
          · have H_135 := of_f H_132 b_34
            refine V_reg hN hn [] [(43, true), (47, false)] calls_nil 2 [2] [] ⟨[(2, .c (.val (.bool false)))], [], 2⟩ [(r_16.2.2.2 == (12 : Int)) = true, (r_20.2 == (12 : Int)) = false] (by kernel_rfl) rfl rfl (ap2 b_33 (ap1 b_34)) (by kernel_rfl) (by kernel_rfl) ?_
            have H_146 := Option.some.inj (show some false = some r from H_135); subst H_146
            refine VL_ret ?_
            exact P_to [(2, .c (.val (.bool false)))] [] [] hn (by kernel_rfl) (by kernel_rfl) rfl rfl rfl (QF_retS (by kernel_rfl) (by kernel_rfl) rfl)
        · have H_133 := of_f H_130 b_33
          refine V_reg hN hn [] [(43, false)] calls_nil 2 [2] [] ⟨[(2, .c (.val (.bool false)))], [], 2⟩ [(r_16.2.2.2 == (12 : Int)) = false] (by kernel_rfl) rfl rfl (ap1 b_33) (by kernel_rfl) (by kernel_rfl) ?_
          have H_147 := Option.some.inj (show some false = some r from H_133); subst H_147
          refine VL_ret ?_
          exact P_to [(2, .c (.val (.bool false)))] [] [] hn (by kernel_rfl) (by kernel_rfl) rfl rfl rfl (QF_retS (by kernel_rfl) (by kernel_rfl) rfl)
      · intro b_31; have H_131 := of_f H_129 b_31
        refine V_run hN hn 2 2 [1, 3, 4, 5, 6, 7, 8, 9, 40] [0, 1] ⟨[(1, .c (.h 0)), (3, .c (.h 1)), (4, .c (.imm (.opt (.pair (.slice (.pair (.int .i64) (.int .i64))) (.int .i64))) r_16.2.2.1)), (5, .c (.val (.int .i64 r_16.2.2.2))), (6, .c (.imm (.opt (.pair (.slice (.pair (.int .i64) (.int .i64))) (.int .i64))) r_20.1)), (7, .c (.val (.int .i64 r_20.2))), (8, .c (.imm (.opt (.pair (.slice (.pair (.int .i64) (.int .i64))) (.int .i64))) r_24.1)), (9, .c (.val (.int .i64 r_24.2))), (40, .c (.val (.bool (!r_28))))], [(0, .box [.val (.int .i64 d_1), .imm (.slice (.pair (.int .i64) (.pair (.int .i64) .str))) d_2]), (1, .box [.val (.int .i64 r_16.1), .imm (.slice (.pair (.int .i64) (.pair (.int .i64) .str))) r_16.2.1])], 2⟩ [] (by kernel_rfl) rfl rfl ap0 ?_
        obtain ⟨r_45, h_46, H_148⟩ := of_bind H_131
        refine V_reg hN hn [(1, ⟨14, 0, [.agg [.val (.int .i64 d_1), .imm (.slice (.pair (.int .i64) (.pair (.int .i64) .str))) d_2]], [], .c (.h 9), [(9, .row (.pair (.int .i64) (.int .u8)) r_45)], [(9, 2)], 3⟩)] [] (calls_cons (palinoderef11_Cells_spec K d_1 d_2 r_45 h_46) (by kernel_rfl) calls_nil) 2 [1, 3, 4, 5, 6, 7, 8, 9, 10] [0, 1, 2] ⟨[(1, .c (.h 0)), (3, .c (.h 1)), (4, .c (.imm (.opt (.pair (.slice (.pair (.int .i64) (.int .i64))) (.int .i64))) r_16.2.2.1)), (5, .c (.val (.int .i64 r_16.2.2.2))), (6, .c (.imm (.opt (.pair (.slice (.pair (.int .i64) (.int .i64))) (.int .i64))) r_20.1)), (7, .c (.val (.int .i64 r_20.2))), (8, .c (.imm (.opt (.pair (.slice (.pair (.int .i64) (.int .i64))) (.int .i64))) r_24.1)), (9, .c (.val (.int .i64 r_24.2))), (10, .c (.h 2))], [(0, .box [.val (.int .i64 d_1), .imm (.slice (.pair (.int .i64) (.pair (.int .i64) .str))) d_2]), (1, .box [.val (.int .i64 r_16.1), .imm (.slice (.pair (.int .i64) (.pair (.int .i64) .str))) r_16.2.1]), (2, .row (.pair (.int .i64) (.int .u8)) r_45)], 3⟩ [] (by kernel_rfl) rfl rfl ap0 (by kernel_rfl) (by kernel_rfl) ?_
        refine V_run hN hn 5 3 [1, 3, 4, 5, 6, 7, 8, 9, 10, 11, 12] [0, 1, 2] ⟨[(1, .c (.h 0)), (3, .c (.h 1)), (4, .c (.imm (.opt (.pair (.slice (.pair (.int .i64) (.int .i64))) (.int .i64))) r_16.2.2.1)), (5, .c (.val (.int .i64 r_16.2.2.2))), (6, .c (.imm (.opt (.pair (.slice (.pair (.int .i64) (.int .i64))) (.int .i64))) r_20.1)), (7, .c (.val (.int .i64 r_20.2))), (8, .c (.imm (.opt (.pair (.slice (.pair (.int .i64) (.int .i64))) (.int .i64))) r_24.1)), (9, .c (.val (.int .i64 r_24.2))), (10, .c (.h 2)), (11, .c (.val (.slice none 0 0))), (12, .c (.val (.int .i64 (0 : Int))))], [(0, .box [.val (.int .i64 d_1), .imm (.slice (.pair (.int .i64) (.pair (.int .i64) .str))) d_2]), (1, .box [.val (.int .i64 r_16.1), .imm (.slice (.pair (.int .i64) (.pair (.int .i64) .str))) r_16.2.1]), (2, .row (.pair (.int .i64) (.int .u8)) r_45)], 3⟩ [] (by kernel_rfl) rfl rfl ap0 ?_
        obtain ⟨q_149, H_150, H_151⟩ := of_bind H_148
        refine V_cut (Y := (List Int)) (R := (List Int)) q_149 (fun y => y) (fun y => [(1, .c (.h 0)), (3, .c (.h 1)), (4, .c (.imm (.opt (.pair (.slice (.pair (.int .i64) (.int .i64))) (.int .i64))) r_16.2.2.1)), (5, .c (.val (.int .i64 r_16.2.2.2))), (6, .c (.imm (.opt (.pair (.slice (.pair (.int .i64) (.int .i64))) (.int .i64))) r_20.1)), (7, .c (.val (.int .i64 r_20.2))), (8, .c (.imm (.opt (.pair (.slice (.pair (.int .i64) (.int .i64))) (.int .i64))) r_24.1)), (9, .c (.val (.int .i64 r_24.2))), (11, .c (.h 6))]) (fun y => [(0, .box [.val (.int .i64 d_1), .imm (.slice (.pair (.int .i64) (.pair (.int .i64) .str))) d_2]), (1, .box [.val (.int .i64 r_16.1), .imm (.slice (.pair (.int .i64) (.pair (.int .i64) .str))) r_16.2.1]), (6, .row (.int .i64) y)]) ?_ ?_
        · skip
          refine VL_block ?_
          refine V_ghost [.nilSlot 11 (.int .i64)] 3 hn [1, 3, 4, 5, 6, 7, 8, 9, 10, 11, 12] [0, 1, 2, 3] ⟨[(1, .c (.h 0)), (3, .c (.h 1)), (4, .c (.imm (.opt (.pair (.slice (.pair (.int .i64) (.int .i64))) (.int .i64))) r_16.2.2.1)), (5, .c (.val (.int .i64 r_16.2.2.2))), (6, .c (.imm (.opt (.pair (.slice (.pair (.int .i64) (.int .i64))) (.int .i64))) r_20.1)), (7, .c (.val (.int .i64 r_20.2))), (8, .c (.imm (.opt (.pair (.slice (.pair (.int .i64) (.int .i64))) (.int .i64))) r_24.1)), (9, .c (.val (.int .i64 r_24.2))), (10, .c (.h 2)), (11, .c (.h 3)), (12, .c (.val (.int .i64 (0 : Int))))], [(0, .box [.val (.int .i64 d_1), .imm (.slice (.pair (.int .i64) (.pair (.int .i64) .str))) d_2]), (1, .box [.val (.int .i64 r_16.1), .imm (.slice (.pair (.int .i64) (.pair (.int .i64) .str))) r_16.2.1]), (2, .row (.pair (.int .i64) (.int .u8)) r_45), (3, .row (.int .i64) ([] : List Int))], 4⟩ (by kernel_rfl) rfl rfl ?_
          refine V_to [(1, .c (.h 0)), (3, .c (.h 1)), (4, .c (.imm (.opt (.pair (.slice (.pair (.int .i64) (.int .i64))) (.int .i64))) r_16.2.2.1)), (5, .c (.val (.int .i64 r_16.2.2.2))), (6, .c (.imm (.opt (.pair (.slice (.pair (.int .i64) (.int .i64))) (.int .i64))) r_20.1)), (7, .c (.val (.int .i64 r_20.2))), (8, .c (.imm (.opt (.pair (.slice (.pair (.int .i64) (.int .i64))) (.int .i64))) r_24.1)), (9, .c (.val (.int .i64 r_24.2))), (10, .c (.h 2)), (11, .c (.h 6)), (12, .c (.val (.int .i64 (0 : Int))))] [(0, .box [.val (.int .i64 d_1), .imm (.slice (.pair (.int .i64) (.pair (.int .i64) .str))) d_2]), (1, .box [.val (.int .i64 r_16.1), .imm (.slice (.pair (.int .i64) (.pair (.int .i64) .str))) r_16.2.1]), (2, .row (.pair (.int .i64) (.int .u8)) r_45), (6, .row (.int .i64) ([] : List Int))] [(0, 0), (1, 1), (2, 2), (6, 3)] hn (by kernel_rfl) (by kernel_rfl) rfl rfl rfl ?_
          refine VL_loop (X := ((List Int) × Int)) (fun x => [(1, .c (.h 0)), (3, .c (.h 1)), (4, .c (.imm (.opt (.pair (.slice (.pair (.int .i64) (.int .i64))) (.int .i64))) r_16.2.2.1)), (5, .c (.val (.int .i64 r_16.2.2.2))), (6, .c (.imm (.opt (.pair (.slice (.pair (.int .i64) (.int .i64))) (.int .i64))) r_20.1)), (7, .c (.val (.int .i64 r_20.2))), (8, .c (.imm (.opt (.pair (.slice (.pair (.int .i64) (.int .i64))) (.int .i64))) r_24.1)), (9, .c (.val (.int .i64 r_24.2))), (10, .c (.h 2)), (11, .c (.h 6)), (12, .c (.val (.int .i64 x.2)))]) (fun x => [(0, .box [.val (.int .i64 d_1), .imm (.slice (.pair (.int .i64) (.pair (.int .i64) .str))) d_2]), (1, .box [.val (.int .i64 r_16.1), .imm (.slice (.pair (.int .i64) (.pair (.int .i64) .str))) r_16.2.1]), (2, .row (.pair (.int .i64) (.int .u8)) r_45), (6, .row (.int .i64) x.1)]) (fun k x => palinodelaw12_FactorTells.l0 K r_45 k x.1 x.2 = some q_149) K (([] : List Int), (0 : Int)) H_150 (fun _ h => no_none h) ?_
          intro k_61 x_61 H_153
          obtain ⟨in_60, i_49⟩ := x_61
          have H_154 : palinodelaw12_FactorTells.l0 K r_45 (k_61 + 1) in_60 i_49 = some q_149 := H_153
          rw [palinodelaw12_FactorTells.l0] at H_154
          refine V_run hN hn 3 7 [1, 3, 4, 5, 6, 7, 8, 9, 10, 11, 12, 68] [0, 1, 2, 6] ⟨[(1, .c (.h 0)), (3, .c (.h 1)), (4, .c (.imm (.opt (.pair (.slice (.pair (.int .i64) (.int .i64))) (.int .i64))) r_16.2.2.1)), (5, .c (.val (.int .i64 r_16.2.2.2))), (6, .c (.imm (.opt (.pair (.slice (.pair (.int .i64) (.int .i64))) (.int .i64))) r_20.1)), (7, .c (.val (.int .i64 r_20.2))), (8, .c (.imm (.opt (.pair (.slice (.pair (.int .i64) (.int .i64))) (.int .i64))) r_24.1)), (9, .c (.val (.int .i64 r_24.2))), (10, .c (.h 2)), (11, .c (.h 6)), (12, .c (.val (.int .i64 i_49))), (68, .c (.val (.bool (decide (i_49 < (((List.length r_45) : Nat) : Int))))))], [(0, .box [.val (.int .i64 d_1), .imm (.slice (.pair (.int .i64) (.pair (.int .i64) .str))) d_2]), (1, .box [.val (.int .i64 r_16.1), .imm (.slice (.pair (.int .i64) (.pair (.int .i64) .str))) r_16.2.1]), (2, .row (.pair (.int .i64) (.int .u8)) r_45), (6, .row (.int .i64) in_60)], 7⟩ [] (by kernel_rfl) rfl rfl ap0 ?_
          refine VL_cond ((decide (i_49 < (((List.length r_45) : Nat) : Int)))) (by kernel_rfl) ?_ ?_
          · intro b_63; have H_155 := of_t H_154 b_63
            refine V_run hN hn 2 7 [1, 3, 4, 5, 6, 7, 8, 9, 10, 11, 12, 68] [0, 1, 2, 6] ⟨[(1, .c (.h 0)), (3, .c (.h 1)), (4, .c (.imm (.opt (.pair (.slice (.pair (.int .i64) (.int .i64))) (.int .i64))) r_16.2.2.1)), (5, .c (.val (.int .i64 r_16.2.2.2))), (6, .c (.imm (.opt (.pair (.slice (.pair (.int .i64) (.int .i64))) (.int .i64))) r_20.1)), (7, .c (.val (.int .i64 r_20.2))), (8, .c (.imm (.opt (.pair (.slice (.pair (.int .i64) (.int .i64))) (.int .i64))) r_24.1)), (9, .c (.val (.int .i64 r_24.2))), (10, .c (.h 2)), (11, .c (.h 6)), (12, .c (.val (.int .i64 i_49))), (68, .c (.val (.bool (decide (i_49 < (((List.length r_45) : Nat) : Int))))))], [(0, .box [.val (.int .i64 d_1), .imm (.slice (.pair (.int .i64) (.pair (.int .i64) .str))) d_2]), (1, .box [.val (.int .i64 r_16.1), .imm (.slice (.pair (.int .i64) (.pair (.int .i64) .str))) r_16.2.1]), (2, .row (.pair (.int .i64) (.int .u8)) r_45), (6, .row (.int .i64) in_60)], 7⟩ [] (by kernel_rfl) rfl rfl ap0 ?_
            refine VL_block ?_
            obtain ⟨c_65, H_157⟩ := of_if H_155
            refine V_run hN hn 2 7 [1, 3, 4, 5, 6, 7, 8, 9, 10, 11, 12, 76] [0, 1, 2, 6] ⟨[(1, .c (.h 0)), (3, .c (.h 1)), (4, .c (.imm (.opt (.pair (.slice (.pair (.int .i64) (.int .i64))) (.int .i64))) r_16.2.2.1)), (5, .c (.val (.int .i64 r_16.2.2.2))), (6, .c (.imm (.opt (.pair (.slice (.pair (.int .i64) (.int .i64))) (.int .i64))) r_20.1)), (7, .c (.val (.int .i64 r_20.2))), (8, .c (.imm (.opt (.pair (.slice (.pair (.int .i64) (.int .i64))) (.int .i64))) r_24.1)), (9, .c (.val (.int .i64 r_24.2))), (10, .c (.h 2)), (11, .c (.h 6)), (12, .c (.val (.int .i64 i_49))), (76, .c (.val (.bool (decide ((List.getD r_45 (Int.toNat i_49) ((0 : Int), (0 : Int))).1 < (0 : Int))))))], [(0, .box [.val (.int .i64 d_1), .imm (.slice (.pair (.int .i64) (.pair (.int .i64) .str))) d_2]), (1, .box [.val (.int .i64 r_16.1), .imm (.slice (.pair (.int .i64) (.pair (.int .i64) .str))) r_16.2.1]), (2, .row (.pair (.int .i64) (.int .u8)) r_45), (6, .row (.int .i64) in_60)], 7⟩ [0 ≤ i_49, i_49 < (((List.length r_45) : Nat) : Int)] (by kernel_rfl) rfl rfl (ap2 c_65.1 (ap1 c_65.2)) ?_
            refine VL_cond ((decide ((List.getD r_45 (Int.toNat i_49) ((0 : Int), (0 : Int))).1 < (0 : Int)))) (by kernel_rfl) ?_ ?_
            · intro b_66; have H_158 := of_t H_157 b_66
              obtain ⟨c_67, H_160⟩ := of_if H_158
              refine V_run hN hn 1 7 [1, 3, 4, 5, 6, 7, 8, 9, 10, 11, 12] [0, 1, 2, 8] ⟨[(1, .c (.h 0)), (3, .c (.h 1)), (4, .c (.imm (.opt (.pair (.slice (.pair (.int .i64) (.int .i64))) (.int .i64))) r_16.2.2.1)), (5, .c (.val (.int .i64 r_16.2.2.2))), (6, .c (.imm (.opt (.pair (.slice (.pair (.int .i64) (.int .i64))) (.int .i64))) r_20.1)), (7, .c (.val (.int .i64 r_20.2))), (8, .c (.imm (.opt (.pair (.slice (.pair (.int .i64) (.int .i64))) (.int .i64))) r_24.1)), (9, .c (.val (.int .i64 r_24.2))), (10, .c (.h 2)), (11, .c (.h 8)), (12, .c (.val (.int .i64 i_49)))], [(0, .box [.val (.int .i64 d_1), .imm (.slice (.pair (.int .i64) (.pair (.int .i64) .str))) d_2]), (1, .box [.val (.int .i64 r_16.1), .imm (.slice (.pair (.int .i64) (.pair (.int .i64) .str))) r_16.2.1]), (2, .row (.pair (.int .i64) (.int .u8)) r_45), (8, .row (.int .i64) (in_60 ++ ([(1 : Int)] : List Int)))], 9⟩ [(List.length in_60 + List.length ([(1 : Int)] : List Int)) * 8 ≤ 140737488355328] (by kernel_rfl) rfl rfl (ap1 c_67) ?_
              refine VL_nil (QB_end ?_)
              refine V_run hN hn 1 9 [1, 3, 4, 5, 6, 7, 8, 9, 10, 11, 12] [0, 1, 2, 8] ⟨[(1, .c (.h 0)), (3, .c (.h 1)), (4, .c (.imm (.opt (.pair (.slice (.pair (.int .i64) (.int .i64))) (.int .i64))) r_16.2.2.1)), (5, .c (.val (.int .i64 r_16.2.2.2))), (6, .c (.imm (.opt (.pair (.slice (.pair (.int .i64) (.int .i64))) (.int .i64))) r_20.1)), (7, .c (.val (.int .i64 r_20.2))), (8, .c (.imm (.opt (.pair (.slice (.pair (.int .i64) (.int .i64))) (.int .i64))) r_24.1)), (9, .c (.val (.int .i64 r_24.2))), (10, .c (.h 2)), (11, .c (.h 8)), (12, .c (.val (.int .i64 (IntKind.wrap .i64 (i_49 + (1 : Int))))))], [(0, .box [.val (.int .i64 d_1), .imm (.slice (.pair (.int .i64) (.pair (.int .i64) .str))) d_2]), (1, .box [.val (.int .i64 r_16.1), .imm (.slice (.pair (.int .i64) (.pair (.int .i64) .str))) r_16.2.1]), (2, .row (.pair (.int .i64) (.int .u8)) r_45), (8, .row (.int .i64) (in_60 ++ ([(1 : Int)] : List Int)))], 9⟩ [] (by kernel_rfl) rfl rfl ap0 ?_
              refine VL_nil ?_
              exact V_roundEnd ((in_60 ++ ([(1 : Int)] : List Int)), (IntKind.wrap .i64 (i_49 + (1 : Int)))) H_160 [(0, 0), (1, 1), (2, 2), (6, 8)] hn (by kernel_rfl) (by kernel_rfl) rfl rfl rfl
            · intro b_66; have H_159 := of_f H_157 b_66
              obtain ⟨c_69, H_161⟩ := of_if H_159
              refine V_run hN hn 1 7 [1, 3, 4, 5, 6, 7, 8, 9, 10, 11, 12] [0, 1, 2, 8] ⟨[(1, .c (.h 0)), (3, .c (.h 1)), (4, .c (.imm (.opt (.pair (.slice (.pair (.int .i64) (.int .i64))) (.int .i64))) r_16.2.2.1)), (5, .c (.val (.int .i64 r_16.2.2.2))), (6, .c (.imm (.opt (.pair (.slice (.pair (.int .i64) (.int .i64))) (.int .i64))) r_20.1)), (7, .c (.val (.int .i64 r_20.2))), (8, .c (.imm (.opt (.pair (.slice (.pair (.int .i64) (.int .i64))) (.int .i64))) r_24.1)), (9, .c (.val (.int .i64 r_24.2))), (10, .c (.h 2)), (11, .c (.h 8)), (12, .c (.val (.int .i64 i_49)))], [(0, .box [.val (.int .i64 d_1), .imm (.slice (.pair (.int .i64) (.pair (.int .i64) .str))) d_2]), (1, .box [.val (.int .i64 r_16.1), .imm (.slice (.pair (.int .i64) (.pair (.int .i64) .str))) r_16.2.1]), (2, .row (.pair (.int .i64) (.int .u8)) r_45), (8, .row (.int .i64) (in_60 ++ ([(0 : Int)] : List Int)))], 9⟩ [(List.length in_60 + List.length ([(0 : Int)] : List Int)) * 8 ≤ 140737488355328] (by kernel_rfl) rfl rfl (ap1 c_69) ?_
              refine VL_nil (QB_end ?_)
              refine V_run hN hn 1 9 [1, 3, 4, 5, 6, 7, 8, 9, 10, 11, 12] [0, 1, 2, 8] ⟨[(1, .c (.h 0)), (3, .c (.h 1)), (4, .c (.imm (.opt (.pair (.slice (.pair (.int .i64) (.int .i64))) (.int .i64))) r_16.2.2.1)), (5, .c (.val (.int .i64 r_16.2.2.2))), (6, .c (.imm (.opt (.pair (.slice (.pair (.int .i64) (.int .i64))) (.int .i64))) r_20.1)), (7, .c (.val (.int .i64 r_20.2))), (8, .c (.imm (.opt (.pair (.slice (.pair (.int .i64) (.int .i64))) (.int .i64))) r_24.1)), (9, .c (.val (.int .i64 r_24.2))), (10, .c (.h 2)), (11, .c (.h 8)), (12, .c (.val (.int .i64 (IntKind.wrap .i64 (i_49 + (1 : Int))))))], [(0, .box [.val (.int .i64 d_1), .imm (.slice (.pair (.int .i64) (.pair (.int .i64) .str))) d_2]), (1, .box [.val (.int .i64 r_16.1), .imm (.slice (.pair (.int .i64) (.pair (.int .i64) .str))) r_16.2.1]), (2, .row (.pair (.int .i64) (.int .u8)) r_45), (8, .row (.int .i64) (in_60 ++ ([(0 : Int)] : List Int)))], 9⟩ [] (by kernel_rfl) rfl rfl ap0 ?_
              refine VL_nil ?_
              exact V_roundEnd ((in_60 ++ ([(0 : Int)] : List Int)), (IntKind.wrap .i64 (i_49 + (1 : Int)))) H_161 [(0, 0), (1, 1), (2, 2), (6, 8)] hn (by kernel_rfl) (by kernel_rfl) rfl rfl rfl
          · intro b_63; have H_156 := of_f H_154 b_63
            refine VL_exit ?_
            refine QL_exit ?_
            refine QB_here ?_
            have H_162 := Option.some.inj (show some in_60 = some q_149 from H_156); subst H_162
            refine VL_nil ?_
            exact QP_end in_60 rfl [(0, 0), (1, 1), (6, 6)] hn (by kernel_rfl) (by kernel_rfl) rfl rfl rfl
        · intro y_152 hy; subst hy
          skip
          skip
          refine V_run hN hn 1 7 [1, 3, 4, 5, 6, 7, 8, 9, 11] [0, 1, 6] ⟨[(1, .c (.h 0)), (3, .c (.h 1)), (4, .c (.imm (.opt (.pair (.slice (.pair (.int .i64) (.int .i64))) (.int .i64))) r_16.2.2.1)), (5, .c (.val (.int .i64 r_16.2.2.2))), (6, .c (.imm (.opt (.pair (.slice (.pair (.int .i64) (.int .i64))) (.int .i64))) r_20.1)), (7, .c (.val (.int .i64 r_20.2))), (8, .c (.imm (.opt (.pair (.slice (.pair (.int .i64) (.int .i64))) (.int .i64))) r_24.1)), (9, .c (.val (.int .i64 r_24.2))), (11, .c (.h 6))], [(0, .box [.val (.int .i64 d_1), .imm (.slice (.pair (.int .i64) (.pair (.int .i64) .str))) d_2]), (1, .box [.val (.int .i64 r_16.1), .imm (.slice (.pair (.int .i64) (.pair (.int .i64) .str))) r_16.2.1]), (6, .row (.int .i64) y_152)], 7⟩ [] (by kernel_rfl) rfl rfl ap0 ?_
          obtain ⟨r_73, h_74, H_163⟩ := of_bind H_151
          refine V_reg hN hn [(1, ⟨15, 0, [.agg [.val (.int .i64 d_1), .imm (.slice (.pair (.int .i64) (.pair (.int .i64) .str))) d_2]], [], .tup [(false, [.h 14]), (false, [.h 1])], [(1, .row (.int .i64) r_73.2), (14, .row (.pair (.int .i64) (.int .u8)) r_73.1)], [(1, 8), (14, 7)], 9⟩)] [] (calls_cons (palinoderef11_Split_spec K d_1 d_2 r_73 h_74) (by kernel_rfl) calls_nil) 7 [1, 3, 4, 5, 6, 7, 8, 9, 11, 13, 14] [0, 1, 6, 7, 8] ⟨[(1, .c (.h 0)), (3, .c (.h 1)), (4, .c (.imm (.opt (.pair (.slice (.pair (.int .i64) (.int .i64))) (.int .i64))) r_16.2.2.1)), (5, .c (.val (.int .i64 r_16.2.2.2))), (6, .c (.imm (.opt (.pair (.slice (.pair (.int .i64) (.int .i64))) (.int .i64))) r_20.1)), (7, .c (.val (.int .i64 r_20.2))), (8, .c (.imm (.opt (.pair (.slice (.pair (.int .i64) (.int .i64))) (.int .i64))) r_24.1)), (9, .c (.val (.int .i64 r_24.2))), (11, .c (.h 6)), (13, .c (.h 7)), (14, .c (.h 8))], [(0, .box [.val (.int .i64 d_1), .imm (.slice (.pair (.int .i64) (.pair (.int .i64) .str))) d_2]), (1, .box [.val (.int .i64 r_16.1), .imm (.slice (.pair (.int .i64) (.pair (.int .i64) .str))) r_16.2.1]), (6, .row (.int .i64) y_152), (7, .row (.pair (.int .i64) (.int .u8)) r_73.1), (8, .row (.int .i64) r_73.2)], 9⟩ [] (by kernel_rfl) rfl rfl ap0 (by kernel_rfl) (by kernel_rfl) ?_
          refine V_run hN hn 1 9 [1, 3, 4, 5, 6, 7, 8, 9, 11, 13, 14] [0, 1, 6, 7, 8] ⟨[(1, .c (.h 0)), (3, .c (.h 1)), (4, .c (.imm (.opt (.pair (.slice (.pair (.int .i64) (.int .i64))) (.int .i64))) r_16.2.2.1)), (5, .c (.val (.int .i64 r_16.2.2.2))), (6, .c (.imm (.opt (.pair (.slice (.pair (.int .i64) (.int .i64))) (.int .i64))) r_20.1)), (7, .c (.val (.int .i64 r_20.2))), (8, .c (.imm (.opt (.pair (.slice (.pair (.int .i64) (.int .i64))) (.int .i64))) r_24.1)), (9, .c (.val (.int .i64 r_24.2))), (11, .c (.h 6)), (13, .c (.h 7)), (14, .c (.h 8))], [(0, .box [.val (.int .i64 d_1), .imm (.slice (.pair (.int .i64) (.pair (.int .i64) .str))) d_2]), (1, .box [.val (.int .i64 r_16.1), .imm (.slice (.pair (.int .i64) (.pair (.int .i64) .str))) r_16.2.1]), (6, .row (.int .i64) y_152), (7, .row (.pair (.int .i64) (.int .u8)) r_73.1), (8, .row (.int .i64) r_73.2)], 9⟩ [] (by kernel_rfl) rfl rfl ap0 ?_
          obtain ⟨r_77, h_78, H_164⟩ := of_bind H_163
          refine V_reg hN hn [(3, ⟨16, 1, [.c (.val (.int .i64 d_1)), .c (.h 0)], [(0, .row (.pair (.int .i64) (.int .u8)) r_73.1)], .tup [(true, [.val (.int .i64 r_77.1), .h 12]), (false, [.val (.int .i64 r_77.2.2)])], [(0, .row (.pair (.int .i64) (.int .u8)) r_73.1), (12, .row (.pair (.int .i64) (.pair (.int .i64) .str)) r_77.2.1)], [(0, 7), (12, 9)], 10⟩)] [] (calls_cons (palinoderef11_Told_gr_spec K d_1 r_73.1 r_77 h_78) (by kernel_rfl) calls_nil) 9 [3, 4, 5, 6, 7, 8, 9, 11, 14, 15, 16] [1, 6, 8, 9, 10] ⟨[(3, .c (.h 1)), (4, .c (.imm (.opt (.pair (.slice (.pair (.int .i64) (.int .i64))) (.int .i64))) r_16.2.2.1)), (5, .c (.val (.int .i64 r_16.2.2.2))), (6, .c (.imm (.opt (.pair (.slice (.pair (.int .i64) (.int .i64))) (.int .i64))) r_20.1)), (7, .c (.val (.int .i64 r_20.2))), (8, .c (.imm (.opt (.pair (.slice (.pair (.int .i64) (.int .i64))) (.int .i64))) r_24.1)), (9, .c (.val (.int .i64 r_24.2))), (11, .c (.h 6)), (14, .c (.h 8)), (15, .c (.h 10)), (16, .c (.val (.int .i64 r_77.2.2)))], [(1, .box [.val (.int .i64 r_16.1), .imm (.slice (.pair (.int .i64) (.pair (.int .i64) .str))) r_16.2.1]), (6, .row (.int .i64) y_152), (8, .row (.int .i64) r_73.2), (9, .row (.pair (.int .i64) (.pair (.int .i64) .str)) r_77.2.1), (10, .box [.val (.int .i64 r_77.1), .h 9])], 11⟩ [] (by kernel_rfl) rfl rfl ap0 (by kernel_rfl) (by kernel_rfl) ?_
          refine V_run hN hn 2 11 [3, 4, 5, 6, 7, 8, 9, 11, 14, 15, 16] [1, 6, 8, 9, 10] ⟨[(3, .c (.h 1)), (4, .c (.imm (.opt (.pair (.slice (.pair (.int .i64) (.int .i64))) (.int .i64))) r_16.2.2.1)), (5, .c (.val (.int .i64 r_16.2.2.2))), (6, .c (.imm (.opt (.pair (.slice (.pair (.int .i64) (.int .i64))) (.int .i64))) r_20.1)), (7, .c (.val (.int .i64 r_20.2))), (8, .c (.imm (.opt (.pair (.slice (.pair (.int .i64) (.int .i64))) (.int .i64))) r_24.1)), (9, .c (.val (.int .i64 r_24.2))), (11, .c (.h 6)), (14, .c (.h 8)), (15, .c (.h 10)), (16, .c (.val (.int .i64 r_77.2.2)))], [(1, .box [.val (.int .i64 r_16.1), .imm (.slice (.pair (.int .i64) (.pair (.int .i64) .str))) r_16.2.1]), (6, .row (.int .i64) y_152), (8, .row (.int .i64) r_73.2), (9, .row (.pair (.int .i64) (.pair (.int .i64) .str)) r_77.2.1), (10, .box [.val (.int .i64 r_77.1), .h 9])], 11⟩ [] (by kernel_rfl) rfl rfl ap0 ?_
          obtain ⟨q_165, H_166, H_167⟩ := of_bind H_164
          refine V_cut (Y := Bool) (R := Bool) q_165 (fun y => y) (fun y => [(3, .c (.h 1)), (4, .c (.imm (.opt (.pair (.slice (.pair (.int .i64) (.int .i64))) (.int .i64))) r_16.2.2.1)), (5, .c (.val (.int .i64 r_16.2.2.2))), (14, .c (.h 8)), (15, .c (.h 10)), (117, .c (.val (.bool y)))]) (fun y => [(1, .box [.val (.int .i64 r_16.1), .imm (.slice (.pair (.int .i64) (.pair (.int .i64) .str))) r_16.2.1]), (8, .row (.int .i64) r_73.2), (9, .row (.pair (.int .i64) (.pair (.int .i64) .str)) r_77.2.1), (10, .box [.val (.int .i64 r_77.1), .h 9])]) ?_ ?_
          · skip
            rcases Bool.eq_false_or_eq_true ((r_20.2 != (0 : Int))) with b_81 | b_81
            · have H_169 := of_t H_166 b_81
              refine V_reg hN hn [] [(97, true)] calls_nil 11 [3, 4, 5, 14, 15, 117] [1, 8, 9, 10] ⟨[(3, .c (.h 1)), (4, .c (.imm (.opt (.pair (.slice (.pair (.int .i64) (.int .i64))) (.int .i64))) r_16.2.2.1)), (5, .c (.val (.int .i64 r_16.2.2.2))), (14, .c (.h 8)), (15, .c (.h 10)), (117, .c (.val (.bool true)))], [(1, .box [.val (.int .i64 r_16.1), .imm (.slice (.pair (.int .i64) (.pair (.int .i64) .str))) r_16.2.1]), (8, .row (.int .i64) r_73.2), (9, .row (.pair (.int .i64) (.pair (.int .i64) .str)) r_77.2.1), (10, .box [.val (.int .i64 r_77.1), .h 9])], 11⟩ [(r_20.2 != (0 : Int)) = true] (by kernel_rfl) rfl rfl (ap1 b_81) (by kernel_rfl) (by kernel_rfl) ?_
              have H_171 := Option.some.inj (show some true = some q_165 from H_169); subst H_171
              refine VL_nil ?_
              exact QP_end true rfl [(1, 1), (8, 8), (9, 9), (10, 10)] hn (by kernel_rfl) (by kernel_rfl) rfl rfl rfl
            · have H_170 := of_f H_166 b_81
              rcases Bool.eq_false_or_eq_true ((r_24.2 != (0 : Int))) with b_83 | b_83
              · have H_172 := of_t H_170 b_83
                refine V_reg hN hn [] [(97, false), (101, true)] calls_nil 11 [3, 4, 5, 14, 15, 117] [1, 8, 9, 10] ⟨[(3, .c (.h 1)), (4, .c (.imm (.opt (.pair (.slice (.pair (.int .i64) (.int .i64))) (.int .i64))) r_16.2.2.1)), (5, .c (.val (.int .i64 r_16.2.2.2))), (14, .c (.h 8)), (15, .c (.h 10)), (117, .c (.val (.bool true)))], [(1, .box [.val (.int .i64 r_16.1), .imm (.slice (.pair (.int .i64) (.pair (.int .i64) .str))) r_16.2.1]), (8, .row (.int .i64) r_73.2), (9, .row (.pair (.int .i64) (.pair (.int .i64) .str)) r_77.2.1), (10, .box [.val (.int .i64 r_77.1), .h 9])], 11⟩ [(r_20.2 != (0 : Int)) = false, (r_24.2 != (0 : Int)) = true] (by kernel_rfl) rfl rfl (ap2 b_81 (ap1 b_83)) (by kernel_rfl) (by kernel_rfl) ?_
                have H_174 := Option.some.inj (show some true = some q_165 from H_172); subst H_174
                refine VL_nil ?_
                exact QP_end true rfl [(1, 1), (8, 8), (9, 9), (10, 10)] hn (by kernel_rfl) (by kernel_rfl) rfl rfl rfl
              · have H_173 := of_f H_170 b_83
                obtain ⟨r_85, h_86, H_175⟩ := of_bind H_173
                rcases Bool.eq_false_or_eq_true ((!r_85)) with b_87 | b_87
                · have H_176 := of_t H_175 b_87
                  refine V_reg hN hn [(9, ⟨17, 1, [.c (.imm (.opt (.pair (.slice (.pair (.int .i64) (.int .i64))) (.int .i64))) r_20.1), .c (.h 0)], [(0, .row (.int .i64) y_152)], .c (.val (.bool r_85)), [(0, .row (.int .i64) y_152)], [(0, 6)], 11⟩)] [(97, false), (101, false), (107, true)] (calls_cons (palinodelaw12_is_gr_spec K r_20.1 y_152 r_85 h_86) (by kernel_rfl) calls_nil) 11 [3, 4, 5, 14, 15, 117] [1, 8, 9, 10] ⟨[(3, .c (.h 1)), (4, .c (.imm (.opt (.pair (.slice (.pair (.int .i64) (.int .i64))) (.int .i64))) r_16.2.2.1)), (5, .c (.val (.int .i64 r_16.2.2.2))), (14, .c (.h 8)), (15, .c (.h 10)), (117, .c (.val (.bool true)))], [(1, .box [.val (.int .i64 r_16.1), .imm (.slice (.pair (.int .i64) (.pair (.int .i64) .str))) r_16.2.1]), (8, .row (.int .i64) r_73.2), (9, .row (.pair (.int .i64) (.pair (.int .i64) .str)) r_77.2.1), (10, .box [.val (.int .i64 r_77.1), .h 9])], 11⟩ [(r_20.2 != (0 : Int)) = false, (r_24.2 != (0 : Int)) = false, (!r_85) = true] (by kernel_rfl) rfl rfl (ap2 b_81 (ap2 b_83 (ap1 b_87))) (by kernel_rfl) (by kernel_rfl) ?_
                  have H_178 := Option.some.inj (show some true = some q_165 from H_176); subst H_178
                  refine VL_nil ?_
                  exact QP_end true rfl [(1, 1), (8, 8), (9, 9), (10, 10)] hn (by kernel_rfl) (by kernel_rfl) rfl rfl rfl
                · have H_177 := of_f H_175 b_87
                  obtain ⟨r_89, h_90, H_179⟩ := of_bind H_177
                  rcases Bool.eq_false_or_eq_true ((!r_89)) with b_91 | b_91
                  · have H_180 := of_t H_179 b_91
                    refine V_reg hN hn [(9, ⟨17, 1, [.c (.imm (.opt (.pair (.slice (.pair (.int .i64) (.int .i64))) (.int .i64))) r_20.1), .c (.h 0)], [(0, .row (.int .i64) y_152)], .c (.val (.bool r_85)), [(0, .row (.int .i64) y_152)], [(0, 6)], 11⟩), (15, ⟨17, 1, [.c (.imm (.opt (.pair (.slice (.pair (.int .i64) (.int .i64))) (.int .i64))) r_24.1), .c (.h 0)], [(0, .row (.int .i64) r_73.2)], .c (.val (.bool r_89)), [(0, .row (.int .i64) r_73.2)], [(0, 8)], 11⟩)] [(97, false), (101, false), (107, false), (113, true)] (calls_cons (palinodelaw12_is_gr_spec K r_20.1 y_152 r_85 h_86) (by kernel_rfl) (calls_cons (palinodelaw12_is_gr_spec K r_24.1 r_73.2 r_89 h_90) (by kernel_rfl) calls_nil)) 11 [3, 4, 5, 14, 15, 117] [1, 8, 9, 10] ⟨[(3, .c (.h 1)), (4, .c (.imm (.opt (.pair (.slice (.pair (.int .i64) (.int .i64))) (.int .i64))) r_16.2.2.1)), (5, .c (.val (.int .i64 r_16.2.2.2))), (14, .c (.h 8)), (15, .c (.h 10)), (117, .c (.val (.bool true)))], [(1, .box [.val (.int .i64 r_16.1), .imm (.slice (.pair (.int .i64) (.pair (.int .i64) .str))) r_16.2.1]), (8, .row (.int .i64) r_73.2), (9, .row (.pair (.int .i64) (.pair (.int .i64) .str)) r_77.2.1), (10, .box [.val (.int .i64 r_77.1), .h 9])], 11⟩ [(r_20.2 != (0 : Int)) = false, (r_24.2 != (0 : Int)) = false, (!r_85) = false, (!r_89) = true] (by kernel_rfl) rfl rfl (ap2 b_81 (ap2 b_83 (ap2 b_87 (ap1 b_91)))) (by kernel_rfl) (by kernel_rfl) ?_
                    have H_182 := Option.some.inj (show some true = some q_165 from H_180); subst H_182
                    refine VL_nil ?_
                    exact QP_end true rfl [(1, 1), (8, 8), (9, 9), (10, 10)] hn (by kernel_rfl) (by kernel_rfl) rfl rfl rfl
                  · have H_181 := of_f H_179 b_91
                    refine V_reg hN hn [(9, ⟨17, 1, [.c (.imm (.opt (.pair (.slice (.pair (.int .i64) (.int .i64))) (.int .i64))) r_20.1), .c (.h 0)], [(0, .row (.int .i64) y_152)], .c (.val (.bool r_85)), [(0, .row (.int .i64) y_152)], [(0, 6)], 11⟩), (15, ⟨17, 1, [.c (.imm (.opt (.pair (.slice (.pair (.int .i64) (.int .i64))) (.int .i64))) r_24.1), .c (.h 0)], [(0, .row (.int .i64) r_73.2)], .c (.val (.bool r_89)), [(0, .row (.int .i64) r_73.2)], [(0, 8)], 11⟩)] [(97, false), (101, false), (107, false), (113, false)] (calls_cons (palinodelaw12_is_gr_spec K r_20.1 y_152 r_85 h_86) (by kernel_rfl) (calls_cons (palinodelaw12_is_gr_spec K r_24.1 r_73.2 r_89 h_90) (by kernel_rfl) calls_nil)) 11 [3, 4, 5, 14, 15, 117] [1, 8, 9, 10] ⟨[(3, .c (.h 1)), (4, .c (.imm (.opt (.pair (.slice (.pair (.int .i64) (.int .i64))) (.int .i64))) r_16.2.2.1)), (5, .c (.val (.int .i64 r_16.2.2.2))), (14, .c (.h 8)), (15, .c (.h 10)), (117, .c (.val (.bool (r_16.2.2.2 != r_77.2.2))))], [(1, .box [.val (.int .i64 r_16.1), .imm (.slice (.pair (.int .i64) (.pair (.int .i64) .str))) r_16.2.1]), (8, .row (.int .i64) r_73.2), (9, .row (.pair (.int .i64) (.pair (.int .i64) .str)) r_77.2.1), (10, .box [.val (.int .i64 r_77.1), .h 9])], 11⟩ [(r_20.2 != (0 : Int)) = false, (r_24.2 != (0 : Int)) = false, (!r_85) = false, (!r_89) = false] (by kernel_rfl) rfl rfl (ap2 b_81 (ap2 b_83 (ap2 b_87 (ap1 b_91)))) (by kernel_rfl) (by kernel_rfl) ?_
                    have H_183 := Option.some.inj (show some (r_16.2.2.2 != r_77.2.2) = some q_165 from H_181); subst H_183
                    refine VL_nil ?_
                    exact QP_end (r_16.2.2.2 != r_77.2.2) rfl [(1, 1), (8, 8), (9, 9), (10, 10)] hn (by kernel_rfl) (by kernel_rfl) rfl rfl rfl
          · intro y_168 hy; subst hy
            skip
            skip
            refine VL_cond (y_168) (by kernel_rfl) ?_ ?_
            · intro b_95; have H_184 := of_t H_167 b_95
              refine V_run hN hn 2 11 [2] [] ⟨[(2, .c (.val (.bool false)))], [], 11⟩ [] (by kernel_rfl) rfl rfl ap0 ?_
              have H_186 := Option.some.inj (show some false = some r from H_184); subst H_186
              refine VL_ret ?_
              exact P_to [(2, .c (.val (.bool false)))] [] [] hn (by kernel_rfl) (by kernel_rfl) rfl rfl rfl (QF_retS (by kernel_rfl) (by kernel_rfl) rfl)
            · intro b_95; have H_185 := of_f H_167 b_95
              refine V_run hN hn 2 11 [3, 4, 5, 14, 15, 117] [1, 8, 9, 10] ⟨[(3, .c (.h 1)), (4, .c (.imm (.opt (.pair (.slice (.pair (.int .i64) (.int .i64))) (.int .i64))) r_16.2.2.1)), (5, .c (.val (.int .i64 r_16.2.2.2))), (14, .c (.h 8)), (15, .c (.h 10)), (117, .c (.val (.bool y_168)))], [(1, .box [.val (.int .i64 r_16.1), .imm (.slice (.pair (.int .i64) (.pair (.int .i64) .str))) r_16.2.1]), (8, .row (.int .i64) r_73.2), (9, .row (.pair (.int .i64) (.pair (.int .i64) .str)) r_77.2.1), (10, .box [.val (.int .i64 r_77.1), .h 9])], 11⟩ [] (by kernel_rfl) rfl rfl ap0 ?_
              rcases Bool.eq_false_or_eq_true ((r_16.2.2.2 != (0 : Int))) with b_98 | b_98
              · have H_187 := of_t H_185 b_98
                rcases Bool.eq_false_or_eq_true ((Option.isNone r_16.2.2.1)) with b_99 | b_99
                · have H_189 := of_t H_187 b_99
                  refine V_reg hN hn [] [(120, true), (124, true)] calls_nil 11 [2] [] ⟨[(2, .c (.val (.bool true)))], [], 11⟩ [(r_16.2.2.2 != (0 : Int)) = true, (Option.isNone r_16.2.2.1) = true] (by kernel_rfl) rfl rfl (ap2 b_98 (ap1 b_99)) (by kernel_rfl) (by kernel_rfl) ?_
                  have H_191 := Option.some.inj (show some true = some r from H_189); subst H_191
                  refine VL_ret ?_
                  exact P_to [(2, .c (.val (.bool true)))] [] [] hn (by kernel_rfl) (by kernel_rfl) rfl rfl rfl (QF_retS (by kernel_rfl) (by kernel_rfl) rfl)
                · have H_190 := of_f H_187 b_99
                  obtain ⟨r_101, h_102, H_192⟩ := of_bind H_190
                  rcases Bool.eq_false_or_eq_true (r_101) with b_103 | b_103
                  · have H_193 := of_t H_192 b_103
                    obtain ⟨r_104, h_105, H_195⟩ := of_bind H_193
                    refine V_reg hN hn [(9, ⟨18, 1, [.agg [.val (.int .i64 r_16.1), .imm (.slice (.pair (.int .i64) (.pair (.int .i64) .str))) r_16.2.1], .agg [.val (.int .i64 r_77.1), .h 0]], [(0, .row (.pair (.int .i64) (.pair (.int .i64) .str)) r_77.2.1)], .c (.val (.bool r_101)), [(0, .row (.pair (.int .i64) (.pair (.int .i64) .str)) r_77.2.1)], [(0, 9)], 11⟩), (13, ⟨17, 1, [.c (.imm (.opt (.pair (.slice (.pair (.int .i64) (.int .i64))) (.int .i64))) r_16.2.2.1), .c (.h 0)], [(0, .row (.int .i64) r_73.2)], .c (.val (.bool r_104)), [(0, .row (.int .i64) r_73.2)], [(0, 8)], 11⟩)] [(120, true), (124, false), (128, true)] (calls_cons (palinoderef11_Same_sggsgr_spec K r_16.1 r_16.2.1 r_77.1 r_77.2.1 r_101 h_102) (by kernel_rfl) (calls_cons (palinodelaw12_is_gr_spec K r_16.2.2.1 r_73.2 r_104 h_105) (by kernel_rfl) calls_nil)) 11 [2] [] ⟨[(2, .c (.val (.bool r_104)))], [], 11⟩ [(r_16.2.2.2 != (0 : Int)) = true, (Option.isNone r_16.2.2.1) = false, r_101 = true] (by kernel_rfl) rfl rfl (ap2 b_98 (ap2 b_99 (ap1 b_103))) (by kernel_rfl) (by kernel_rfl) ?_
                    have H_196 := Option.some.inj (show some r_104 = some r from H_195); subst H_196
                    refine VL_ret ?_
                    exact P_to [(2, .c (.val (.bool r_104)))] [] [] hn (by kernel_rfl) (by kernel_rfl) rfl rfl rfl (QF_retS (by kernel_rfl) (by kernel_rfl) rfl)
                  · have H_194 := of_f H_192 b_103
                    refine V_reg hN hn [(9, ⟨18, 1, [.agg [.val (.int .i64 r_16.1), .imm (.slice (.pair (.int .i64) (.pair (.int .i64) .str))) r_16.2.1], .agg [.val (.int .i64 r_77.1), .h 0]], [(0, .row (.pair (.int .i64) (.pair (.int .i64) .str)) r_77.2.1)], .c (.val (.bool r_101)), [(0, .row (.pair (.int .i64) (.pair (.int .i64) .str)) r_77.2.1)], [(0, 9)], 11⟩)] [(120, true), (124, false), (128, false)] (calls_cons (palinoderef11_Same_sggsgr_spec K r_16.1 r_16.2.1 r_77.1 r_77.2.1 r_101 h_102) (by kernel_rfl) calls_nil) 11 [2] [] ⟨[(2, .c (.val (.bool false)))], [], 11⟩ [(r_16.2.2.2 != (0 : Int)) = true, (Option.isNone r_16.2.2.1) = false, r_101 = false] (by kernel_rfl) rfl rfl (ap2 b_98 (ap2 b_99 (ap1 b_103))) (by kernel_rfl) (by kernel_rfl) ?_
                    have H_197 := Option.some.inj (show some false = some r from H_194); subst H_197
                    refine VL_ret ?_
                    exact P_to [(2, .c (.val (.bool false)))] [] [] hn (by kernel_rfl) (by kernel_rfl) rfl rfl rfl (QF_retS (by kernel_rfl) (by kernel_rfl) rfl)
              · have H_188 := of_f H_185 b_98
                obtain ⟨r_108, h_109, H_198⟩ := of_bind H_188
                rcases Bool.eq_false_or_eq_true (r_108) with b_110 | b_110
                · have H_199 := of_t H_198 b_110
                  obtain ⟨r_111, h_112, H_201⟩ := of_bind H_199
                  refine V_reg hN hn [(9, ⟨18, 1, [.agg [.val (.int .i64 r_16.1), .imm (.slice (.pair (.int .i64) (.pair (.int .i64) .str))) r_16.2.1], .agg [.val (.int .i64 r_77.1), .h 0]], [(0, .row (.pair (.int .i64) (.pair (.int .i64) .str)) r_77.2.1)], .c (.val (.bool r_108)), [(0, .row (.pair (.int .i64) (.pair (.int .i64) .str)) r_77.2.1)], [(0, 9)], 11⟩), (13, ⟨17, 1, [.c (.imm (.opt (.pair (.slice (.pair (.int .i64) (.int .i64))) (.int .i64))) r_16.2.2.1), .c (.h 0)], [(0, .row (.int .i64) r_73.2)], .c (.val (.bool r_111)), [(0, .row (.int .i64) r_73.2)], [(0, 8)], 11⟩)] [(120, false), (128, true)] (calls_cons (palinoderef11_Same_sggsgr_spec K r_16.1 r_16.2.1 r_77.1 r_77.2.1 r_108 h_109) (by kernel_rfl) (calls_cons (palinodelaw12_is_gr_spec K r_16.2.2.1 r_73.2 r_111 h_112) (by kernel_rfl) calls_nil)) 11 [2] [] ⟨[(2, .c (.val (.bool r_111)))], [], 11⟩ [(r_16.2.2.2 != (0 : Int)) = false, r_108 = true] (by kernel_rfl) rfl rfl (ap2 b_98 (ap1 b_110)) (by kernel_rfl) (by kernel_rfl) ?_
                  have H_202 := Option.some.inj (show some r_111 = some r from H_201); subst H_202
                  refine VL_ret ?_
                  exact P_to [(2, .c (.val (.bool r_111)))] [] [] hn (by kernel_rfl) (by kernel_rfl) rfl rfl rfl (QF_retS (by kernel_rfl) (by kernel_rfl) rfl)
                · have H_200 := of_f H_198 b_110
                  refine V_reg hN hn [(9, ⟨18, 1, [.agg [.val (.int .i64 r_16.1), .imm (.slice (.pair (.int .i64) (.pair (.int .i64) .str))) r_16.2.1], .agg [.val (.int .i64 r_77.1), .h 0]], [(0, .row (.pair (.int .i64) (.pair (.int .i64) .str)) r_77.2.1)], .c (.val (.bool r_108)), [(0, .row (.pair (.int .i64) (.pair (.int .i64) .str)) r_77.2.1)], [(0, 9)], 11⟩)] [(120, false), (128, false)] (calls_cons (palinoderef11_Same_sggsgr_spec K r_16.1 r_16.2.1 r_77.1 r_77.2.1 r_108 h_109) (by kernel_rfl) calls_nil) 11 [2] [] ⟨[(2, .c (.val (.bool false)))], [], 11⟩ [(r_16.2.2.2 != (0 : Int)) = false, r_108 = false] (by kernel_rfl) rfl rfl (ap2 b_98 (ap1 b_110)) (by kernel_rfl) (by kernel_rfl) ?_
                  have H_203 := Option.some.inj (show some false = some r from H_200); subst H_203
                  refine VL_ret ?_
                  exact P_to [(2, .c (.val (.bool false)))] [] [] hn (by kernel_rfl) (by kernel_rfl) rfl rfl rfl (QF_retS (by kernel_rfl) (by kernel_rfl) rfl)

end Go.Pal
