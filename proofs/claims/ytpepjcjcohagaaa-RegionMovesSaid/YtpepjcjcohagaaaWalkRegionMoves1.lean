/- The Go functions that RegionMoves reaches compute what the plain functions say: part 1, printed by a program of this workplace. -/
import Derived.Test.YtpepjcjcohagaaaChecked
import Derived.Test.YtpepjcjcohagaaaWalkRegionMoves0
namespace Go.Pal
open Go Go.Proofs
set_option maxRecDepth 100000
set_option linter.unusedVariables false

theorem delta_NewMaker_spec (K : Nat) (base_1 : Int) (r : Unit) (H : delta_NewMaker K base_1 = some r) : Spec Try.prog 32 0 [cI base_1] [] (.c (.h 0)) [(0, .box [.val (.int .i64 base_1), .val (.slice none 0 0)])] := by
  refine Spec_mk (fn := Try.f32) (c := (Try.f32.body).get!) Try.func32 (by kernel_rfl) rfl ?_
  intro C hN hn
  replace hN : C.N = 7 := hN
  unfold delta_NewMaker at H
  refine V_run hN hn 4 0 [2] [0] ⟨[(2, .c (.h 0))], [(0, .box [.val (.int .i64 base_1), .val (.slice none 0 0)])], 1⟩ [] (by kernel_rfl) rfl rfl ap0 ?_
  have H_3 := Option.some.inj (show some () = some r from H); subst H_3
  refine VL_ret ?_
  exact P_to [(2, .c (.h 0))] [(0, .box [.val (.int .i64 base_1), .val (.slice none 0 0)])] [(0, 0)] hn (by kernel_rfl) (by kernel_rfl) rfl rfl rfl (QF_retS (by kernel_rfl) (by kernel_rfl) rfl)

theorem delta_Maker_Copy_bgg_48161_spec (K : Nat) (m_1 : Int) (from_2 : Int) (to_3 : Int) (r : (List (Int × (Int × ByteArray)))) (H : delta_Maker_Copy_bgg_48161 K m_1 from_2 to_3 = some r) : Spec Try.prog 33 1 [.c (.h 0), cI from_2, cI to_3] [(0, .box [.val (.int .i64 m_1), .val (.slice none 0 0)])] (.tup []) [(0, .box [.val (.int .i64 m_1), .h 3]), (3, .row kE r)] := by
  refine Spec_mk (fn := Try.f33) (c := (Try.f33.body).get!) Try.func33 (by kernel_rfl) rfl ?_
  intro C hN hn
  replace hN : C.N = 66 := hN
  unfold delta_Maker_Copy_bgg_48161 at H
  refine V_run hN hn 3 1 [0, 1, 2, 9] [0] ⟨[(0, .c (.h 0)), (1, cI from_2), (2, cI to_3), (9, cB (from_2 == to_3))], [(0, .box [.val (.int .i64 m_1), .val (.slice none 0 0)])], 1⟩ [] (by kernel_rfl) rfl rfl ap0 ?_
  refine VL_cond ((from_2 == to_3)) (by kernel_rfl) ?_ ?_
  · intro b_5; have H_11 := of_t H b_5
    have H_13 := Option.some.inj (show some ([] : List (Int × (Int × ByteArray))) = some r from H_11); subst H_13
    refine VL_ret ?_
    refine P_ghost [.nilCell 0 1 kE] 1 hn [] [0, 1] ⟨[], [(0, .box [.val (.int .i64 m_1), .h 1]), (1, .row kE ([] : List (Int × (Int × ByteArray))))], 2⟩ (by kernel_rfl) rfl rfl ?_
    exact P_to [] [(0, .box [.val (.int .i64 m_1), .h 3]), (3, .row kE ([] : List (Int × (Int × ByteArray))))] [(3, 1)] hn (by kernel_rfl) (by kernel_rfl) rfl rfl rfl (QF_retS (by kernel_rfl) (by kernel_rfl) rfl)
  · intro b_5; have H_12 := of_f H b_5
    refine V_run hN hn 4 1 [0, 1, 2, 6] [0] ⟨[(0, .c (.h 0)), (1, cI from_2), (2, cI to_3), (6, cI (-1 : Int))], [(0, .box [.val (.int .i64 m_1), .val (.slice none 0 0)])], 1⟩ [] (by kernel_rfl) rfl rfl ap0 ?_
    obtain ⟨q_14, H_15, H_16⟩ := of_bind H_12
    refine V_cut (Y := Unit) (R := Unit) q_14 (fun y => y) (fun y => [(0, .c (.h 0)), (1, cI from_2), (2, cI to_3), (6, cI (-1 : Int)), (42, cB false)]) (fun y => [(0, .box [.val (.int .i64 m_1), .val (.slice none 0 0)])]) ?_ ?_
    · skip
      refine V_reg hN hn [] [] calls_nil 1 [0, 1, 2, 6, 42] [0] ⟨[(0, .c (.h 0)), (1, cI from_2), (2, cI to_3), (6, cI (-1 : Int)), (42, cB false)], [(0, .box [.val (.int .i64 m_1), .val (.slice none 0 0)])], 1⟩ [] (by kernel_rfl) rfl rfl ap0 (by kernel_rfl) (by kernel_rfl) ?_
      have H_18 := Option.some.inj (show some () = some q_14 from H_15); subst H_18
      refine VL_nil ?_
      exact QP_end () rfl [] hn (by kernel_rfl) (by kernel_rfl) rfl rfl rfl
    · intro y_17 hy; subst hy
      skip
      refine VL_cond (false) (by kernel_rfl) (fun h => absurd h (by decide)) (fun _ => ?_)
      obtain ⟨c_8, H_19⟩ := of_if H_16
      refine V_run hN hn 1 1 [] [0, 2] ⟨[], [(0, .box [.val (.int .i64 m_1), .h 2]), (2, .row kE ([(from_2, (to_3, ByteArray.empty))] : List (Int × (Int × ByteArray))))], 3⟩ [List.length ([(from_2, (to_3, ByteArray.empty))] : List (Int × (Int × ByteArray))) * 32 ≤ 140737488355328] (by kernel_rfl) rfl rfl (ap1 c_8) ?_
      have H_20 := Option.some.inj (show some ([(from_2, (to_3, ByteArray.empty))] : List (Int × (Int × ByteArray))) = some r from H_19); subst H_20
      refine VL_nil ?_
      exact P_to [] [(0, .box [.val (.int .i64 m_1), .h 3]), (3, .row kE ([(from_2, (to_3, ByteArray.empty))] : List (Int × (Int × ByteArray))))] [(3, 2)] hn (by kernel_rfl) (by kernel_rfl) rfl rfl rfl (QF_endS (by kernel_rfl) (by kernel_rfl) rfl)

theorem delta_IsCopy_spec (K : Nat) (x_1 : Int) (x_2 : Int) (x_3 : ByteArray) (r : Bool) (H : delta_IsCopy K x_1 x_2 x_3 = some r) : Spec Try.prog 62 0 [.agg [.val (.int .i64 x_1), .val (.int .i64 x_2), .val (.string x_3)]] [] (cB r) [] := by
  refine Spec_mk (fn := Try.f62) (c := (Try.f62.body).get!) Try.func62 (by kernel_rfl) rfl ?_
  intro C hN hn
  replace hN : C.N = 6 := hN
  unfold delta_IsCopy at H
  refine V_run hN hn 4 0 [2] [] ⟨[(2, cB (ByteArray.toList x_3 == ByteArray.toList (ByteArray.mk #[])))], [], 1⟩ [] (by kernel_rfl) rfl rfl ap0 ?_
  have H_6 := Option.some.inj (show some (ByteArray.toList x_3 == ByteArray.toList (ByteArray.mk #[])) = some r from H); subst H_6
  refine VL_ret ?_
  exact P_to [(2, cB (ByteArray.toList x_3 == ByteArray.toList (ByteArray.mk #[])))] [] [] hn (by kernel_rfl) (by kernel_rfl) rfl rfl rfl (QF_retS (by kernel_rfl) (by kernel_rfl) rfl)

theorem delta_Maker_Put_bg_92925_spec (K : Nat) (m_1 : Int) (m_2 : (List (Int × (Int × ByteArray)))) (s_3 : ByteArray) (r : (List (Int × (Int × ByteArray)))) (H : delta_Maker_Put_bg_92925 K m_1 m_2 s_3 = some r) : Spec Try.prog 34 2 [.c (.h 0), cS s_3] [(0, .box [.val (.int .i64 m_1), .h 1]), (1, .row kE m_2)] (.tup []) [(0, .box [.val (.int .i64 m_1), .h 4]), (4, .row kE r)] := by
  refine Spec_mk (fn := Try.f34) (c := (Try.f34.body).get!) Try.func34 (by kernel_rfl) rfl ?_
  intro C hN hn
  replace hN : C.N = 54 := hN
  unfold delta_Maker_Put_bg_92925 at H
  refine V_run hN hn 3 2 [0, 1, 6] [0, 1] ⟨[(0, .c (.h 0)), (1, cS s_3), (6, cB (ByteArray.toList s_3 == ByteArray.toList (ByteArray.mk #[])))], [(0, .box [.val (.int .i64 m_1), .h 1]), (1, .row kE m_2)], 2⟩ [] (by kernel_rfl) rfl rfl ap0 ?_
  refine VL_cond ((ByteArray.toList s_3 == ByteArray.toList (ByteArray.mk #[]))) (by kernel_rfl) ?_ ?_
  · intro b_5; have H_18 := of_t H b_5
    have H_20 := Option.some.inj (show some m_2 = some r from H_18); subst H_20
    refine VL_ret ?_
    exact P_to [] [(0, .box [.val (.int .i64 m_1), .h 4]), (4, .row kE m_2)] [(4, 1)] hn (by kernel_rfl) (by kernel_rfl) rfl rfl rfl (QF_retS (by kernel_rfl) (by kernel_rfl) rfl)
  · intro b_5; have H_19 := of_f H b_5
    refine V_run hN hn 4 2 [0, 1, 4] [0, 1] ⟨[(0, .c (.h 0)), (1, cS s_3), (4, cI (w6 ((lnI m_2) - (1 : Int))))], [(0, .box [.val (.int .i64 m_1), .h 1]), (1, .row kE m_2)], 2⟩ [] (by kernel_rfl) rfl rfl ap0 ?_
    obtain ⟨q_21, H_22, H_23⟩ := of_bind H_19
    refine V_cut (Y := Bool) (R := Bool) q_21 (fun y => y) (fun y => [(0, .c (.h 0)), (1, cS s_3), (4, cI (w6 ((lnI m_2) - (1 : Int)))), (27, cB y)]) (fun y => [(0, .box [.val (.int .i64 m_1), .h 1]), (1, .row kE m_2)]) ?_ ?_
    · skip
      rcases Bool.eq_false_or_eq_true ((decide ((w6 ((lnI m_2) - (1 : Int))) ≥ (0 : Int)))) with b_7 | b_7
      · have H_25 := of_t H_22 b_7
        obtain ⟨r_8, h_9, H_27⟩ := of_bind H_25
        obtain ⟨c_10, H_28⟩ := of_if H_27
        refine V_reg hN hn [(11, ⟨62, 0, [.agg [.val (.int .i64 (List.getD m_2 (Int.toNat (w6 ((lnI m_2) - (1 : Int)))) zE).1), .val (.int .i64 (List.getD m_2 (Int.toNat (w6 ((lnI m_2) - (1 : Int)))) zE).2.1), .val (.string (List.getD m_2 (Int.toNat (w6 ((lnI m_2) - (1 : Int)))) zE).2.2)]], [], cB r_8, [], [], 2⟩)] [(16, true)] (calls_cons (delta_IsCopy_spec K (List.getD m_2 (Int.toNat (w6 ((lnI m_2) - (1 : Int)))) zE).1 (List.getD m_2 (Int.toNat (w6 ((lnI m_2) - (1 : Int)))) zE).2.1 (List.getD m_2 (Int.toNat (w6 ((lnI m_2) - (1 : Int)))) zE).2.2 r_8 h_9) (by kernel_rfl) calls_nil) 2 [0, 1, 4, 27] [0, 1] ⟨[(0, .c (.h 0)), (1, cS s_3), (4, cI (w6 ((lnI m_2) - (1 : Int)))), (27, cB (!r_8))], [(0, .box [.val (.int .i64 m_1), .h 1]), (1, .row kE m_2)], 2⟩ [(decide ((w6 ((lnI m_2) - (1 : Int))) ≥ (0 : Int))) = true, 0 ≤ (w6 ((lnI m_2) - (1 : Int))), (w6 ((lnI m_2) - (1 : Int))) < (lnI m_2)] (by kernel_rfl) rfl rfl (ap2 b_7 (ap2 c_10.1 (ap1 c_10.2))) (by kernel_rfl) (by kernel_rfl) ?_
        have H_29 := Option.some.inj (show some (!r_8) = some q_21 from H_28); subst H_29
        refine VL_nil ?_
        exact QP_end (!r_8) rfl [] hn (by kernel_rfl) (by kernel_rfl) rfl rfl rfl
      · have H_26 := of_f H_22 b_7
        refine V_reg hN hn [] [(16, false)] calls_nil 2 [0, 1, 4, 27] [0, 1] ⟨[(0, .c (.h 0)), (1, cS s_3), (4, cI (w6 ((lnI m_2) - (1 : Int)))), (27, cB false)], [(0, .box [.val (.int .i64 m_1), .h 1]), (1, .row kE m_2)], 2⟩ [(decide ((w6 ((lnI m_2) - (1 : Int))) ≥ (0 : Int))) = false] (by kernel_rfl) rfl rfl (ap1 b_7) (by kernel_rfl) (by kernel_rfl) ?_
        have H_30 := Option.some.inj (show some false = some q_21 from H_26); subst H_30
        refine VL_nil ?_
        exact QP_end false rfl [] hn (by kernel_rfl) (by kernel_rfl) rfl rfl rfl
    · intro y_24 hy; subst hy
      skip
      skip
      refine VL_cond (y_24) (by kernel_rfl) ?_ ?_
      · intro b_13; have H_31 := of_t H_23 b_13
        obtain ⟨c_14, H_33⟩ := of_if H_31
        refine V_run hN hn 1 2 [] [0, 1] ⟨[], [(0, .box [.val (.int .i64 m_1), .h 1]), (1, .row kE (List.set m_2 (Int.toNat (w6 ((lnI m_2) - (1 : Int)))) ((List.getD m_2 (Int.toNat (w6 ((lnI m_2) - (1 : Int)))) zE).1, ((List.getD m_2 (Int.toNat (w6 ((lnI m_2) - (1 : Int)))) zE).2.1, ((List.getD m_2 (Int.toNat (w6 ((lnI m_2) - (1 : Int)))) zE).2.2 ++ s_3)))))], 2⟩ [0 ≤ (w6 ((lnI m_2) - (1 : Int))), (w6 ((lnI m_2) - (1 : Int))) < (lnI m_2), ByteArray.size (List.getD m_2 (Int.toNat (w6 ((lnI m_2) - (1 : Int)))) zE).2.2 + ByteArray.size s_3 ≤ 9223372036854775807, 0 ≤ (w6 ((lnI m_2) - (1 : Int))), (w6 ((lnI m_2) - (1 : Int))) < (lnI m_2)] (by kernel_rfl) rfl rfl (ap2 c_14.1 (ap2 c_14.2.1 (ap2 c_14.2.2 (ap2 c_14.1 (ap1 c_14.2.1))))) ?_
        have H_34 := Option.some.inj (show some (List.set m_2 (Int.toNat (w6 ((lnI m_2) - (1 : Int)))) ((List.getD m_2 (Int.toNat (w6 ((lnI m_2) - (1 : Int)))) zE).1, ((List.getD m_2 (Int.toNat (w6 ((lnI m_2) - (1 : Int)))) zE).2.1, ((List.getD m_2 (Int.toNat (w6 ((lnI m_2) - (1 : Int)))) zE).2.2 ++ s_3)))) = some r from H_33); subst H_34
        refine VL_nil ?_
        exact P_to [] [(0, .box [.val (.int .i64 m_1), .h 4]), (4, .row kE (List.set m_2 (Int.toNat (w6 ((lnI m_2) - (1 : Int)))) ((List.getD m_2 (Int.toNat (w6 ((lnI m_2) - (1 : Int)))) zE).1, ((List.getD m_2 (Int.toNat (w6 ((lnI m_2) - (1 : Int)))) zE).2.1, ((List.getD m_2 (Int.toNat (w6 ((lnI m_2) - (1 : Int)))) zE).2.2 ++ s_3)))))] [(4, 1)] hn (by kernel_rfl) (by kernel_rfl) rfl rfl rfl (QF_endS (by kernel_rfl) (by kernel_rfl) rfl)
      · intro b_13; have H_32 := of_f H_23 b_13
        obtain ⟨c_15, H_35⟩ := of_if H_32
        refine V_run hN hn 1 2 [] [0, 3] ⟨[], [(0, .box [.val (.int .i64 m_1), .h 3]), (3, .row kE (m_2 ++ ([((0 : Int), ((0 : Int), s_3))] : List (Int × (Int × ByteArray)))))], 4⟩ [(List.length m_2 + List.length ([((0 : Int), ((0 : Int), s_3))] : List (Int × (Int × ByteArray)))) * 32 ≤ 140737488355328] (by kernel_rfl) rfl rfl (ap1 c_15) ?_
        have H_36 := Option.some.inj (show some (m_2 ++ ([((0 : Int), ((0 : Int), s_3))] : List (Int × (Int × ByteArray)))) = some r from H_35); subst H_36
        refine VL_nil ?_
        exact P_to [] [(0, .box [.val (.int .i64 m_1), .h 4]), (4, .row kE (m_2 ++ ([((0 : Int), ((0 : Int), s_3))] : List (Int × (Int × ByteArray)))))] [(4, 3)] hn (by kernel_rfl) (by kernel_rfl) rfl rfl rfl (QF_endS (by kernel_rfl) (by kernel_rfl) rfl)

theorem delta_Maker_Copy_bgg_11dec_spec (K : Nat) (m_1 : Int) (m_2 : (List (Int × (Int × ByteArray)))) (from_3 : Int) (to_4 : Int) (r : (List (Int × (Int × ByteArray)))) (H : delta_Maker_Copy_bgg_11dec K m_1 m_2 from_3 to_4 = some r) : Spec Try.prog 33 2 [.c (.h 0), cI from_3, cI to_4] [(0, .box [.val (.int .i64 m_1), .h 1]), (1, .row kE m_2)] (.tup []) [(0, .box [.val (.int .i64 m_1), .h 4]), (4, .row kE r)] := by
  refine Spec_mk (fn := Try.f33) (c := (Try.f33.body).get!) Try.func33 (by kernel_rfl) rfl ?_
  intro C hN hn
  replace hN : C.N = 66 := hN
  unfold delta_Maker_Copy_bgg_11dec at H
  refine V_run hN hn 3 2 [0, 1, 2, 9] [0, 1] ⟨[(0, .c (.h 0)), (1, cI from_3), (2, cI to_4), (9, cB (from_3 == to_4))], [(0, .box [.val (.int .i64 m_1), .h 1]), (1, .row kE m_2)], 2⟩ [] (by kernel_rfl) rfl rfl ap0 ?_
  refine VL_cond ((from_3 == to_4)) (by kernel_rfl) ?_ ?_
  · intro b_6; have H_21 := of_t H b_6
    have H_23 := Option.some.inj (show some m_2 = some r from H_21); subst H_23
    refine VL_ret ?_
    exact P_to [] [(0, .box [.val (.int .i64 m_1), .h 4]), (4, .row kE m_2)] [(4, 1)] hn (by kernel_rfl) (by kernel_rfl) rfl rfl rfl (QF_retS (by kernel_rfl) (by kernel_rfl) rfl)
  · intro b_6; have H_22 := of_f H b_6
    refine V_run hN hn 4 2 [0, 1, 2, 6] [0, 1] ⟨[(0, .c (.h 0)), (1, cI from_3), (2, cI to_4), (6, cI (w6 ((lnI m_2) - (1 : Int))))], [(0, .box [.val (.int .i64 m_1), .h 1]), (1, .row kE m_2)], 2⟩ [] (by kernel_rfl) rfl rfl ap0 ?_
    obtain ⟨q_24, H_25, H_26⟩ := of_bind H_22
    refine V_cut (Y := Bool) (R := Bool) q_24 (fun y => y) (fun y => [(0, .c (.h 0)), (1, cI from_3), (2, cI to_4), (6, cI (w6 ((lnI m_2) - (1 : Int)))), (42, cB y)]) (fun y => [(0, .box [.val (.int .i64 m_1), .h 1]), (1, .row kE m_2)]) ?_ ?_
    · skip
      rcases Bool.eq_false_or_eq_true ((decide ((w6 ((lnI m_2) - (1 : Int))) ≥ (0 : Int)))) with b_8 | b_8
      · have H_28 := of_t H_25 b_8
        obtain ⟨r_9, h_10, H_30⟩ := of_bind H_28
        rcases Bool.eq_false_or_eq_true (r_9) with b_11 | b_11
        · have H_31 := of_t H_30 b_11
          obtain ⟨c_12, H_33⟩ := of_if H_31
          refine V_reg hN hn [(11, ⟨62, 0, [.agg [.val (.int .i64 (List.getD m_2 (Int.toNat (w6 ((lnI m_2) - (1 : Int)))) zE).1), .val (.int .i64 (List.getD m_2 (Int.toNat (w6 ((lnI m_2) - (1 : Int)))) zE).2.1), .val (.string (List.getD m_2 (Int.toNat (w6 ((lnI m_2) - (1 : Int)))) zE).2.2)]], [], cB r_9, [], [], 2⟩)] [(19, true), (30, true)] (calls_cons (delta_IsCopy_spec K (List.getD m_2 (Int.toNat (w6 ((lnI m_2) - (1 : Int)))) zE).1 (List.getD m_2 (Int.toNat (w6 ((lnI m_2) - (1 : Int)))) zE).2.1 (List.getD m_2 (Int.toNat (w6 ((lnI m_2) - (1 : Int)))) zE).2.2 r_9 h_10) (by kernel_rfl) calls_nil) 2 [0, 1, 2, 6, 42] [0, 1] ⟨[(0, .c (.h 0)), (1, cI from_3), (2, cI to_4), (6, cI (w6 ((lnI m_2) - (1 : Int)))), (42, cB ((List.getD m_2 (Int.toNat (w6 ((lnI m_2) - (1 : Int)))) zE).2.1 == from_3))], [(0, .box [.val (.int .i64 m_1), .h 1]), (1, .row kE m_2)], 2⟩ [(decide ((w6 ((lnI m_2) - (1 : Int))) ≥ (0 : Int))) = true, 0 ≤ (w6 ((lnI m_2) - (1 : Int))), (w6 ((lnI m_2) - (1 : Int))) < (lnI m_2), r_9 = true, 0 ≤ (w6 ((lnI m_2) - (1 : Int))), (w6 ((lnI m_2) - (1 : Int))) < (lnI m_2)] (by kernel_rfl) rfl rfl (ap2 b_8 (ap2 c_12.1 (ap2 c_12.2 (ap2 b_11 (ap2 c_12.1 (ap1 c_12.2)))))) (by kernel_rfl) (by kernel_rfl) ?_
          have H_34 := Option.some.inj (show some ((List.getD m_2 (Int.toNat (w6 ((lnI m_2) - (1 : Int)))) zE).2.1 == from_3) = some q_24 from H_33); subst H_34
          refine VL_nil ?_
          exact QP_end ((List.getD m_2 (Int.toNat (w6 ((lnI m_2) - (1 : Int)))) zE).2.1 == from_3) rfl [] hn (by kernel_rfl) (by kernel_rfl) rfl rfl rfl
        · have H_32 := of_f H_30 b_11
          obtain ⟨c_13, H_35⟩ := of_if H_32
          refine V_reg hN hn [(11, ⟨62, 0, [.agg [.val (.int .i64 (List.getD m_2 (Int.toNat (w6 ((lnI m_2) - (1 : Int)))) zE).1), .val (.int .i64 (List.getD m_2 (Int.toNat (w6 ((lnI m_2) - (1 : Int)))) zE).2.1), .val (.string (List.getD m_2 (Int.toNat (w6 ((lnI m_2) - (1 : Int)))) zE).2.2)]], [], cB r_9, [], [], 2⟩)] [(19, true), (30, false)] (calls_cons (delta_IsCopy_spec K (List.getD m_2 (Int.toNat (w6 ((lnI m_2) - (1 : Int)))) zE).1 (List.getD m_2 (Int.toNat (w6 ((lnI m_2) - (1 : Int)))) zE).2.1 (List.getD m_2 (Int.toNat (w6 ((lnI m_2) - (1 : Int)))) zE).2.2 r_9 h_10) (by kernel_rfl) calls_nil) 2 [0, 1, 2, 6, 42] [0, 1] ⟨[(0, .c (.h 0)), (1, cI from_3), (2, cI to_4), (6, cI (w6 ((lnI m_2) - (1 : Int)))), (42, cB false)], [(0, .box [.val (.int .i64 m_1), .h 1]), (1, .row kE m_2)], 2⟩ [(decide ((w6 ((lnI m_2) - (1 : Int))) ≥ (0 : Int))) = true, 0 ≤ (w6 ((lnI m_2) - (1 : Int))), (w6 ((lnI m_2) - (1 : Int))) < (lnI m_2), r_9 = false] (by kernel_rfl) rfl rfl (ap2 b_8 (ap2 c_13.1 (ap2 c_13.2 (ap1 b_11)))) (by kernel_rfl) (by kernel_rfl) ?_
          have H_36 := Option.some.inj (show some false = some q_24 from H_35); subst H_36
          refine VL_nil ?_
          exact QP_end false rfl [] hn (by kernel_rfl) (by kernel_rfl) rfl rfl rfl
      · have H_29 := of_f H_25 b_8
        refine V_reg hN hn [] [(19, false)] calls_nil 2 [0, 1, 2, 6, 42] [0, 1] ⟨[(0, .c (.h 0)), (1, cI from_3), (2, cI to_4), (6, cI (w6 ((lnI m_2) - (1 : Int)))), (42, cB false)], [(0, .box [.val (.int .i64 m_1), .h 1]), (1, .row kE m_2)], 2⟩ [(decide ((w6 ((lnI m_2) - (1 : Int))) ≥ (0 : Int))) = false] (by kernel_rfl) rfl rfl (ap1 b_8) (by kernel_rfl) (by kernel_rfl) ?_
        have H_37 := Option.some.inj (show some false = some q_24 from H_29); subst H_37
        refine VL_nil ?_
        exact QP_end false rfl [] hn (by kernel_rfl) (by kernel_rfl) rfl rfl rfl
    · intro y_27 hy; subst hy
      skip
      skip
      refine VL_cond (y_27) (by kernel_rfl) ?_ ?_
      · intro b_16; have H_38 := of_t H_26 b_16
        obtain ⟨c_17, H_40⟩ := of_if H_38
        refine V_run hN hn 1 2 [] [0, 1] ⟨[], [(0, .box [.val (.int .i64 m_1), .h 1]), (1, .row kE (List.set m_2 (Int.toNat (w6 ((lnI m_2) - (1 : Int)))) ((List.getD m_2 (Int.toNat (w6 ((lnI m_2) - (1 : Int)))) zE).1, (to_4, (List.getD m_2 (Int.toNat (w6 ((lnI m_2) - (1 : Int)))) zE).2.2))))], 2⟩ [0 ≤ (w6 ((lnI m_2) - (1 : Int))), (w6 ((lnI m_2) - (1 : Int))) < (lnI m_2)] (by kernel_rfl) rfl rfl (ap2 c_17.1 (ap1 c_17.2)) ?_
        have H_41 := Option.some.inj (show some (List.set m_2 (Int.toNat (w6 ((lnI m_2) - (1 : Int)))) ((List.getD m_2 (Int.toNat (w6 ((lnI m_2) - (1 : Int)))) zE).1, (to_4, (List.getD m_2 (Int.toNat (w6 ((lnI m_2) - (1 : Int)))) zE).2.2))) = some r from H_40); subst H_41
        refine VL_nil ?_
        exact P_to [] [(0, .box [.val (.int .i64 m_1), .h 4]), (4, .row kE (List.set m_2 (Int.toNat (w6 ((lnI m_2) - (1 : Int)))) ((List.getD m_2 (Int.toNat (w6 ((lnI m_2) - (1 : Int)))) zE).1, (to_4, (List.getD m_2 (Int.toNat (w6 ((lnI m_2) - (1 : Int)))) zE).2.2))))] [(4, 1)] hn (by kernel_rfl) (by kernel_rfl) rfl rfl rfl (QF_endS (by kernel_rfl) (by kernel_rfl) rfl)
      · intro b_16; have H_39 := of_f H_26 b_16
        obtain ⟨c_18, H_42⟩ := of_if H_39
        refine V_run hN hn 1 2 [] [0, 3] ⟨[], [(0, .box [.val (.int .i64 m_1), .h 3]), (3, .row kE (m_2 ++ ([(from_3, (to_4, ByteArray.empty))] : List (Int × (Int × ByteArray)))))], 4⟩ [(List.length m_2 + List.length ([(from_3, (to_4, ByteArray.empty))] : List (Int × (Int × ByteArray)))) * 32 ≤ 140737488355328] (by kernel_rfl) rfl rfl (ap1 c_18) ?_
        have H_43 := Option.some.inj (show some (m_2 ++ ([(from_3, (to_4, ByteArray.empty))] : List (Int × (Int × ByteArray)))) = some r from H_42); subst H_43
        refine VL_nil ?_
        exact P_to [] [(0, .box [.val (.int .i64 m_1), .h 4]), (4, .row kE (m_2 ++ ([(from_3, (to_4, ByteArray.empty))] : List (Int × (Int × ByteArray)))))] [(4, 3)] hn (by kernel_rfl) (by kernel_rfl) rfl rfl rfl (QF_endS (by kernel_rfl) (by kernel_rfl) rfl)

theorem delta_Maker_Delta_b_ee1c6_spec (K : Nat) (m_1 : Int) (m_2 : (List (Int × (Int × ByteArray)))) (r : (Int × (List (Int × (Int × ByteArray))) × Int)) (H : delta_Maker_Delta_b_ee1c6 K m_1 m_2 = some r) : Spec Try.prog 35 1 [.c (.h 0)] [(0, .box [.val (.int .i64 m_1), .imm (.slice kE) m_2])] (.tup [(true, [.val (.int .i64 r.1), .imm (.slice kE) r.2.1]), (false, [.val (.int .i64 r.2.2)])]) [(0, .box [.val (.int .i64 m_1), .imm (.slice kE) m_2])] := by
  refine Spec_mk (fn := Try.f35) (c := (Try.f35.body).get!) Try.func35 (by kernel_rfl) rfl ?_
  intro C hN hn
  replace hN : C.N = 16 := hN
  unfold delta_Maker_Delta_b_ee1c6 at H
  refine V_run hN hn 5 1 [0, 2, 10] [0, 1] ⟨[(0, .c (.h 0)), (2, .c (.h 1)), (10, cB (decide ((lnI m_2) > (60 : Int))))], [(0, .box [.val (.int .i64 m_1), .imm (.slice kE) m_2]), (1, .box [.val (.int .i64 (0 : Int)), .val (.slice none 0 0)])], 2⟩ [] (by kernel_rfl) rfl rfl ap0 ?_
  refine VL_cond ((decide ((lnI m_2) > (60 : Int)))) (by kernel_rfl) ?_ ?_
  · intro b_4; have H_10 := of_t H b_4
    refine V_run hN hn 2 2 [2, 3] [0, 1] ⟨[(2, .c (.h 1)), (3, cI (70 : Int))], [(0, .box [.val (.int .i64 m_1), .imm (.slice kE) m_2]), (1, .box [.val (.int .i64 (0 : Int)), .val (.slice none 0 0)])], 2⟩ [] (by kernel_rfl) rfl rfl ap0 ?_
    have H_12 := Option.some.inj (show some ((0 : Int), ([] : List (Int × (Int × ByteArray))), (70 : Int)) = some r from H_10); subst H_12
    refine VL_ret ?_
    refine P_ghost [.readCell 1 1 (.slice kE)] 2 hn [2, 3] [0, 1] ⟨[(2, .c (.h 1)), (3, cI (70 : Int))], [(0, .box [.val (.int .i64 m_1), .imm (.slice kE) m_2]), (1, .box [.val (.int .i64 (0 : Int)), .imm (.slice kE) ([] : List (Int × (Int × ByteArray)))])], 2⟩ (by kernel_rfl) rfl rfl ?_
    exact P_to [(2, .c (.h 1)), (3, cI (70 : Int))] [(0, .box [.val (.int .i64 m_1), .imm (.slice kE) m_2]), (1, .box [.val (.int .i64 (0 : Int)), .imm (.slice kE) ([] : List (Int × (Int × ByteArray)))])] [(1, 1)] hn (by kernel_rfl) (by kernel_rfl) rfl rfl rfl (QF_retS (by kernel_rfl) (by kernel_rfl) rfl)
  · intro b_4; have H_11 := of_f H b_4
    refine V_run hN hn 3 2 [2, 3] [0, 1] ⟨[(2, .c (.h 1)), (3, cI (0 : Int))], [(0, .box [.val (.int .i64 m_1), .imm (.slice kE) m_2]), (1, .box [.val (.int .i64 m_1), .imm (.slice kE) m_2])], 2⟩ [] (by kernel_rfl) rfl rfl ap0 ?_
    have H_13 := Option.some.inj (show some (m_1, m_2, (0 : Int)) = some r from H_11); subst H_13
    refine VL_ret ?_
    exact P_to [(2, .c (.h 1)), (3, cI (0 : Int))] [(0, .box [.val (.int .i64 m_1), .imm (.slice kE) m_2]), (1, .box [.val (.int .i64 m_1), .imm (.slice kE) m_2])] [(1, 1)] hn (by kernel_rfl) (by kernel_rfl) rfl rfl rfl (QF_retS (by kernel_rfl) (by kernel_rfl) rfl)

theorem delta_Build_gr_spec (K : Nat) (base_1 : Int) (l_2 : (List (Int × (Int × ByteArray)))) (r : (Int × (List (Int × (Int × ByteArray))) × Int)) (H : delta_Build_gr K base_1 l_2 = some r) : Spec Try.prog 13 1 [cI base_1, .c (.h 0)] [(0, .row kE l_2)] (.tup [(true, [.val (.int .i64 r.1), .imm (.slice kE) r.2.1]), (false, [.val (.int .i64 r.2.2)])]) [(0, .row kE l_2)] := by
  refine Spec_mk (fn := Try.f13) (c := (Try.f13.body).get!) Try.func13 (by kernel_rfl) rfl ?_
  intro C hN hn
  replace hN : C.N = 46 := hN
  unfold delta_Build_gr at H
  refine V_run hN hn 4 1 [0, 1, 4] [0, 1] ⟨[(0, cI base_1), (1, .c (.h 0)), (4, .c (.h 1))], [(0, .row kE l_2), (1, .box [.val (.int .i64 (0 : Int)), .val (.slice none 0 0)])], 2⟩ [] (by kernel_rfl) rfl rfl ap0 ?_
  obtain ⟨r_4, h_5, H_60⟩ := of_bind H
  refine V_reg hN hn [(2, ⟨31, 1, [cI base_1, .c (.h 0)], [(0, .row kE l_2)], cI r_4, [(0, .row kE l_2)], [(0, 0)], 2⟩)] [] (calls_cons (delta_check_gr_spec K base_1 l_2 r_4 h_5) (by kernel_rfl) calls_nil) 2 [0, 1, 4, 6] [0, 1] ⟨[(0, cI base_1), (1, .c (.h 0)), (4, .c (.h 1)), (6, cI r_4)], [(0, .row kE l_2), (1, .box [.val (.int .i64 (0 : Int)), .val (.slice none 0 0)])], 2⟩ [] (by kernel_rfl) rfl rfl ap0 (by kernel_rfl) (by kernel_rfl) ?_
  refine V_run hN hn 2 2 [0, 1, 4, 6, 15] [0, 1] ⟨[(0, cI base_1), (1, .c (.h 0)), (4, .c (.h 1)), (6, cI r_4), (15, cB (r_4 != (0 : Int)))], [(0, .row kE l_2), (1, .box [.val (.int .i64 (0 : Int)), .val (.slice none 0 0)])], 2⟩ [] (by kernel_rfl) rfl rfl ap0 ?_
  refine VL_cond ((r_4 != (0 : Int))) (by kernel_rfl) ?_ ?_
  · intro b_8; have H_61 := of_t H_60 b_8
    refine V_run hN hn 2 2 [4, 5] [0, 1] ⟨[(4, .c (.h 1)), (5, cI r_4)], [(0, .row kE l_2), (1, .box [.val (.int .i64 (0 : Int)), .val (.slice none 0 0)])], 2⟩ [] (by kernel_rfl) rfl rfl ap0 ?_
    have H_63 := Option.some.inj (show some ((0 : Int), ([] : List (Int × (Int × ByteArray))), r_4) = some r from H_61); subst H_63
    refine VL_ret ?_
    refine P_ghost [.readCell 1 1 (.slice kE)] 2 hn [4, 5] [0, 1] ⟨[(4, .c (.h 1)), (5, cI r_4)], [(0, .row kE l_2), (1, .box [.val (.int .i64 (0 : Int)), .imm (.slice kE) ([] : List (Int × (Int × ByteArray)))])], 2⟩ (by kernel_rfl) rfl rfl ?_
    exact P_to [(4, .c (.h 1)), (5, cI r_4)] [(0, .row kE l_2), (1, .box [.val (.int .i64 (0 : Int)), .imm (.slice kE) ([] : List (Int × (Int × ByteArray)))])] [(1, 1)] hn (by kernel_rfl) (by kernel_rfl) rfl rfl rfl (QF_retS (by kernel_rfl) (by kernel_rfl) rfl)
  · intro b_8; have H_62 := of_f H_60 b_8
    refine V_run hN hn 2 2 [0, 1, 4, 6, 15] [0, 1] ⟨[(0, cI base_1), (1, .c (.h 0)), (4, .c (.h 1)), (6, cI r_4), (15, cB (r_4 != (0 : Int)))], [(0, .row kE l_2), (1, .box [.val (.int .i64 (0 : Int)), .val (.slice none 0 0)])], 2⟩ [] (by kernel_rfl) rfl rfl ap0 ?_
    obtain ⟨r_11, h_12, H_64⟩ := of_bind H_62
    refine V_reg hN hn [(1, ⟨32, 0, [cI base_1], [], .c (.h 0), [(0, .box [.val (.int .i64 base_1), .val (.slice none 0 0)])], [(0, 2)], 3⟩)] [] (calls_cons (delta_NewMaker_spec K base_1 r_11 h_12) (by kernel_rfl) calls_nil) 2 [0, 1, 4, 7] [0, 1, 2] ⟨[(0, cI base_1), (1, .c (.h 0)), (4, .c (.h 1)), (7, .c (.h 2))], [(0, .row kE l_2), (1, .box [.val (.int .i64 (0 : Int)), .val (.slice none 0 0)]), (2, .box [.val (.int .i64 base_1), .val (.slice none 0 0)])], 3⟩ [] (by kernel_rfl) rfl rfl ap0 (by kernel_rfl) (by kernel_rfl) ?_
    refine V_run hN hn 5 3 [0, 4, 7, 8, 20, 21, 22] [0, 1, 2] ⟨[(0, cI base_1), (4, .c (.h 1)), (7, .c (.h 2)), (8, cI (0 : Int)), (20, .c (.h 0)), (21, cI (lnI l_2)), (22, cI (0 : Int))], [(0, .row kE l_2), (1, .box [.val (.int .i64 (0 : Int)), .val (.slice none 0 0)]), (2, .box [.val (.int .i64 base_1), .val (.slice none 0 0)])], 3⟩ [] (by kernel_rfl) rfl rfl ap0 ?_
    obtain ⟨q_65, H_66, H_67⟩ := of_bind H_64
    refine V_cut (Y := ((List (Int × (Int × ByteArray))) × Int)) (R := ((List (Int × (Int × ByteArray))) × Int)) q_65 (fun y => y) (fun y => [(0, cI base_1), (4, .c (.h 1)), (7, .c (.h 2)), (8, cI y.2)]) (fun y => [(0, .row kE l_2), (1, .box [.val (.int .i64 (0 : Int)), .val (.slice none 0 0)]), (2, .box [.val (.int .i64 base_1), .h 6]), (6, .row kE y.1)]) ?_ ?_
    · skip
      refine VL_block ?_
      refine V_ghost [.nilCell 2 1 kE] 3 hn [0, 4, 7, 8, 20, 21, 22] [0, 1, 2, 3] ⟨[(0, cI base_1), (4, .c (.h 1)), (7, .c (.h 2)), (8, cI (0 : Int)), (20, .c (.h 0)), (21, cI (lnI l_2)), (22, cI (0 : Int))], [(0, .row kE l_2), (1, .box [.val (.int .i64 (0 : Int)), .val (.slice none 0 0)]), (2, .box [.val (.int .i64 base_1), .h 3]), (3, .row kE ([] : List (Int × (Int × ByteArray))))], 4⟩ (by kernel_rfl) rfl rfl ?_
      refine V_to [(0, cI base_1), (4, .c (.h 1)), (7, .c (.h 2)), (8, cI (0 : Int)), (20, .c (.h 0)), (21, cI (lnI l_2)), (22, cI (0 : Int))] [(0, .row kE l_2), (1, .box [.val (.int .i64 (0 : Int)), .val (.slice none 0 0)]), (2, .box [.val (.int .i64 base_1), .h 6]), (6, .row kE ([] : List (Int × (Int × ByteArray))))] [(1, 1), (2, 2), (6, 3)] hn (by kernel_rfl) (by kernel_rfl) rfl rfl rfl ?_
      refine VL_loop (X := ((List (Int × (Int × ByteArray))) × Int × Int)) (fun x => [(0, cI base_1), (4, .c (.h 1)), (7, .c (.h 2)), (8, cI x.2.1), (20, .c (.h 0)), (21, cI (lnI l_2)), (22, cI x.2.2)]) (fun x => [(0, .row kE l_2), (1, .box [.val (.int .i64 (0 : Int)), .val (.slice none 0 0)]), (2, .box [.val (.int .i64 base_1), .h 6]), (6, .row kE x.1)]) (fun k x => delta_Build_gr.l0 K l_2 base_1 k x.1 x.2.1 x.2.2 = some q_65) K (([] : List (Int × (Int × ByteArray))), (0 : Int), (0 : Int)) H_66 (fun _ h => no_none h) ?_
      intro k_32 x_32 H_69
      obtain ⟨x_31, at_15, t_16⟩ := x_32
      have H_70 : delta_Build_gr.l0 K l_2 base_1 (k_32 + 1) x_31 at_15 t_16 = some q_65 := H_69
      rw [delta_Build_gr.l0] at H_70
      refine V_run hN hn 3 7 [0, 4, 7, 8, 20, 21, 22, 23] [0, 1, 2, 6] ⟨[(0, cI base_1), (4, .c (.h 1)), (7, .c (.h 2)), (8, cI at_15), (20, .c (.h 0)), (21, cI (lnI l_2)), (22, cI t_16), (23, cB (decide (t_16 < (lnI l_2))))], [(0, .row kE l_2), (1, .box [.val (.int .i64 (0 : Int)), .val (.slice none 0 0)]), (2, .box [.val (.int .i64 base_1), .h 6]), (6, .row kE x_31)], 7⟩ [] (by kernel_rfl) rfl rfl ap0 ?_
      refine VL_cond ((decide (t_16 < (lnI l_2)))) (by kernel_rfl) ?_ ?_
      · intro b_34; have H_71 := of_t H_70 b_34
        refine V_run hN hn 2 7 [0, 4, 7, 8, 20, 21, 22, 23] [0, 1, 2, 6] ⟨[(0, cI base_1), (4, .c (.h 1)), (7, .c (.h 2)), (8, cI at_15), (20, .c (.h 0)), (21, cI (lnI l_2)), (22, cI t_16), (23, cB (decide (t_16 < (lnI l_2))))], [(0, .row kE l_2), (1, .box [.val (.int .i64 (0 : Int)), .val (.slice none 0 0)]), (2, .box [.val (.int .i64 base_1), .h 6]), (6, .row kE x_31)], 7⟩ [] (by kernel_rfl) rfl rfl ap0 ?_
        refine VL_block ?_
        obtain ⟨c_36, H_73⟩ := of_if H_71
        refine V_run hN hn 3 7 [0, 4, 7, 8, 10, 20, 21, 22] [0, 1, 2, 6, 7] ⟨[(0, cI base_1), (4, .c (.h 1)), (7, .c (.h 2)), (8, cI at_15), (10, .c (.h 7)), (20, .c (.h 0)), (21, cI (lnI l_2)), (22, cI t_16)], [(0, .row kE l_2), (1, .box [.val (.int .i64 (0 : Int)), .val (.slice none 0 0)]), (2, .box [.val (.int .i64 base_1), .h 6]), (6, .row kE x_31), (7, .box [.val (.int .i64 (List.getD l_2 (Int.toNat t_16) zE).1), .val (.int .i64 (List.getD l_2 (Int.toNat t_16) zE).2.1), .val (.string (List.getD l_2 (Int.toNat t_16) zE).2.2)])], 8⟩ [0 ≤ t_16, t_16 < (lnI l_2)] (by kernel_rfl) rfl rfl (ap2 c_36.1 (ap1 c_36.2)) ?_
        obtain ⟨r_37, h_38, H_74⟩ := of_bind H_73
        refine V_reg hN hn [(4, ⟨33, 2, [.c (.h 0), cI at_15, .c (.val (.int .i64 (List.getD l_2 (Int.toNat t_16) zE).1))], [(0, .box [.val (.int .i64 base_1), .h 1]), (1, .row kE x_31)], .tup [], [(0, .box [.val (.int .i64 base_1), .h 4]), (4, .row kE r_37)], [(0, 2), (1, 6), (4, 8)], 9⟩)] [] (calls_cons (delta_Maker_Copy_bgg_11dec_spec K base_1 x_31 at_15 (List.getD l_2 (Int.toNat t_16) zE).1 r_37 h_38) (by kernel_rfl) calls_nil) 8 [0, 4, 7, 10, 20, 21, 22] [0, 1, 2, 7, 8] ⟨[(0, cI base_1), (4, .c (.h 1)), (7, .c (.h 2)), (10, .c (.h 7)), (20, .c (.h 0)), (21, cI (lnI l_2)), (22, cI t_16)], [(0, .row kE l_2), (1, .box [.val (.int .i64 (0 : Int)), .val (.slice none 0 0)]), (2, .box [.val (.int .i64 base_1), .h 8]), (7, .box [.val (.int .i64 (List.getD l_2 (Int.toNat t_16) zE).1), .val (.int .i64 (List.getD l_2 (Int.toNat t_16) zE).2.1), .val (.string (List.getD l_2 (Int.toNat t_16) zE).2.2)]), (8, .row kE r_37)], 9⟩ [] (by kernel_rfl) rfl rfl ap0 (by kernel_rfl) (by kernel_rfl) ?_
        refine V_run hN hn 1 9 [0, 4, 7, 10, 20, 21, 22] [0, 1, 2, 7, 8] ⟨[(0, cI base_1), (4, .c (.h 1)), (7, .c (.h 2)), (10, .c (.h 7)), (20, .c (.h 0)), (21, cI (lnI l_2)), (22, cI t_16)], [(0, .row kE l_2), (1, .box [.val (.int .i64 (0 : Int)), .val (.slice none 0 0)]), (2, .box [.val (.int .i64 base_1), .h 8]), (7, .box [.val (.int .i64 (List.getD l_2 (Int.toNat t_16) zE).1), .val (.int .i64 (List.getD l_2 (Int.toNat t_16) zE).2.1), .val (.string (List.getD l_2 (Int.toNat t_16) zE).2.2)]), (8, .row kE r_37)], 9⟩ [] (by kernel_rfl) rfl rfl ap0 ?_
        obtain ⟨r_41, h_42, H_75⟩ := of_bind H_74
        refine V_reg hN hn [(3, ⟨34, 2, [.c (.h 0), .c (.val (.string (List.getD l_2 (Int.toNat t_16) zE).2.2))], [(0, .box [.val (.int .i64 base_1), .h 1]), (1, .row kE r_37)], .tup [], [(0, .box [.val (.int .i64 base_1), .h 4]), (4, .row kE r_41)], [(0, 2), (1, 8), (4, 9)], 10⟩)] [] (calls_cons (delta_Maker_Put_bg_92925_spec K base_1 r_37 (List.getD l_2 (Int.toNat t_16) zE).2.2 r_41 h_42) (by kernel_rfl) calls_nil) 9 [0, 4, 7, 10, 20, 21, 22] [0, 1, 2, 7, 9] ⟨[(0, cI base_1), (4, .c (.h 1)), (7, .c (.h 2)), (10, .c (.h 7)), (20, .c (.h 0)), (21, cI (lnI l_2)), (22, cI t_16)], [(0, .row kE l_2), (1, .box [.val (.int .i64 (0 : Int)), .val (.slice none 0 0)]), (2, .box [.val (.int .i64 base_1), .h 9]), (7, .box [.val (.int .i64 (List.getD l_2 (Int.toNat t_16) zE).1), .val (.int .i64 (List.getD l_2 (Int.toNat t_16) zE).2.1), .val (.string (List.getD l_2 (Int.toNat t_16) zE).2.2)]), (9, .row kE r_41)], 10⟩ [] (by kernel_rfl) rfl rfl ap0 (by kernel_rfl) (by kernel_rfl) ?_
        refine V_run hN hn 1 10 [0, 4, 7, 8, 20, 21, 22] [0, 1, 2, 9] ⟨[(0, cI base_1), (4, .c (.h 1)), (7, .c (.h 2)), (8, .c (.val (.int .i64 (List.getD l_2 (Int.toNat t_16) zE).2.1))), (20, .c (.h 0)), (21, cI (lnI l_2)), (22, cI t_16)], [(0, .row kE l_2), (1, .box [.val (.int .i64 (0 : Int)), .val (.slice none 0 0)]), (2, .box [.val (.int .i64 base_1), .h 9]), (9, .row kE r_41)], 10⟩ [] (by kernel_rfl) rfl rfl ap0 ?_
        refine VL_nil (QB_end ?_)
        refine V_run hN hn 1 10 [0, 4, 7, 8, 20, 21, 22] [0, 1, 2, 9] ⟨[(0, cI base_1), (4, .c (.h 1)), (7, .c (.h 2)), (8, .c (.val (.int .i64 (List.getD l_2 (Int.toNat t_16) zE).2.1))), (20, .c (.h 0)), (21, cI (lnI l_2)), (22, cI (w6 (t_16 + (1 : Int))))], [(0, .row kE l_2), (1, .box [.val (.int .i64 (0 : Int)), .val (.slice none 0 0)]), (2, .box [.val (.int .i64 base_1), .h 9]), (9, .row kE r_41)], 10⟩ [] (by kernel_rfl) rfl rfl ap0 ?_
        refine VL_nil ?_
        exact V_roundEnd (r_41, (List.getD l_2 (Int.toNat t_16) zE).2.1, (w6 (t_16 + (1 : Int)))) H_75 [(1, 1), (2, 2), (6, 9)] hn (by kernel_rfl) (by kernel_rfl) rfl rfl rfl
      · intro b_34; have H_72 := of_f H_70 b_34
        refine VL_exit ?_
        refine QL_exit ?_
        refine QB_here ?_
        have H_76 := Option.some.inj (show some (x_31, at_15) = some q_65 from H_72); subst H_76
        refine VL_nil ?_
        exact QP_end (x_31, at_15) rfl [(1, 1), (2, 2), (6, 6)] hn (by kernel_rfl) (by kernel_rfl) rfl rfl rfl
    · intro y_68 hy; subst hy
      obtain ⟨x_46, at_47⟩ := y_68
      refine V_run hN hn 1 7 [0, 4, 7, 8] [0, 1, 2, 6] ⟨[(0, cI base_1), (4, .c (.h 1)), (7, .c (.h 2)), (8, cI at_47)], [(0, .row kE l_2), (1, .box [.val (.int .i64 (0 : Int)), .val (.slice none 0 0)]), (2, .box [.val (.int .i64 base_1), .h 6]), (6, .row kE x_46)], 7⟩ [] (by kernel_rfl) rfl rfl ap0 ?_
      obtain ⟨r_49, h_50, H_77⟩ := of_bind H_67
      refine V_reg hN hn [(3, ⟨33, 2, [.c (.h 0), cI at_47, cI base_1], [(0, .box [.val (.int .i64 base_1), .h 1]), (1, .row kE x_46)], .tup [], [(0, .box [.val (.int .i64 base_1), .h 4]), (4, .row kE r_49)], [(0, 2), (1, 6), (4, 7)], 8⟩)] [] (calls_cons (delta_Maker_Copy_bgg_11dec_spec K base_1 x_46 at_47 base_1 r_49 h_50) (by kernel_rfl) calls_nil) 7 [4, 7] [0, 1, 2, 7] ⟨[(4, .c (.h 1)), (7, .c (.h 2))], [(0, .row kE l_2), (1, .box [.val (.int .i64 (0 : Int)), .val (.slice none 0 0)]), (2, .box [.val (.int .i64 base_1), .h 7]), (7, .row kE r_49)], 8⟩ [] (by kernel_rfl) rfl rfl ap0 (by kernel_rfl) (by kernel_rfl) ?_
      refine V_run hN hn 1 8 [4, 7] [0, 1, 2, 7] ⟨[(4, .c (.h 1)), (7, .c (.h 2))], [(0, .row kE l_2), (1, .box [.val (.int .i64 (0 : Int)), .val (.slice none 0 0)]), (2, .box [.val (.int .i64 base_1), .h 7]), (7, .row kE r_49)], 8⟩ [] (by kernel_rfl) rfl rfl ap0 ?_
      refine V_ghost [.shut 7] 8 hn [4, 7] [0, 1, 2] ⟨[(4, .c (.h 1)), (7, .c (.h 2))], [(0, .row kE l_2), (1, .box [.val (.int .i64 (0 : Int)), .val (.slice none 0 0)]), (2, .box [.val (.int .i64 base_1), .imm (.slice kE) r_49])], 8⟩ (by kernel_rfl) rfl rfl ?_
      obtain ⟨r_53, h_54, H_78⟩ := of_bind H_77
      refine V_reg hN hn [(1, ⟨35, 1, [.c (.h 0)], [(0, .box [.val (.int .i64 base_1), .imm (.slice kE) r_49])], .tup [(true, [.val (.int .i64 r_53.1), .imm (.slice kE) r_53.2.1]), (false, [.val (.int .i64 r_53.2.2)])], [(0, .box [.val (.int .i64 base_1), .imm (.slice kE) r_49])], [(0, 2)], 8⟩)] [] (calls_cons (delta_Maker_Delta_b_ee1c6_spec K base_1 r_49 r_53 h_54) (by kernel_rfl) calls_nil) 8 [4, 5] [0, 1] ⟨[(4, .c (.h 1)), (5, cI r_53.2.2)], [(0, .row kE l_2), (1, .box [.val (.int .i64 r_53.1), .imm (.slice kE) r_53.2.1])], 8⟩ [] (by kernel_rfl) rfl rfl ap0 (by kernel_rfl) (by kernel_rfl) ?_
      have H_79 := Option.some.inj (show some (r_53.1, r_53.2.1, r_53.2.2) = some r from H_78); subst H_79
      refine VL_ret ?_
      exact P_to [(4, .c (.h 1)), (5, cI r_53.2.2)] [(0, .row kE l_2), (1, .box [.val (.int .i64 r_53.1), .imm (.slice kE) r_53.2.1])] [(1, 1)] hn (by kernel_rfl) (by kernel_rfl) rfl rfl rfl (QF_retS (by kernel_rfl) (by kernel_rfl) rfl)

theorem delta_elem_spec (K : Nat) (x_1 : Int) (x_2 : Int) (x_3 : ByteArray) (base_4 : Int) (to_5 : Int) (ahead_6 : Bool) (copied_7 : Bool) (r : Bool) (H : delta_elem K x_1 x_2 x_3 base_4 to_5 ahead_6 copied_7 = some r) : Spec Try.prog 63 0 [.agg [.val (.int .i64 x_1), .val (.int .i64 x_2), .val (.string x_3)], cI base_4, cI to_5, cB ahead_6, cB copied_7] [] (cB r) [] := by
  refine Spec_mk (fn := Try.f63) (c := (Try.f63.body).get!) Try.func63 (by kernel_rfl) rfl ?_
  intro C hN hn
  replace hN : C.N = 65 := hN
  unfold delta_elem at H
  refine V_run hN hn 4 0 [1, 2, 3, 4, 5] [0] ⟨[(1, cI base_4), (2, cI to_5), (3, cB ahead_6), (4, cB copied_7), (5, .c (.h 0))], [(0, .box [.val (.int .i64 x_1), .val (.int .i64 x_2), .val (.string x_3)])], 1⟩ [] (by kernel_rfl) rfl rfl ap0 ?_
  obtain ⟨r_9, h_10, H_42⟩ := of_bind H
  refine V_reg hN hn [(1, ⟨62, 0, [.agg [.val (.int .i64 x_1), .val (.int .i64 x_2), .val (.string x_3)]], [], cB r_9, [], [], 1⟩)] [] (calls_cons (delta_IsCopy_spec K x_1 x_2 x_3 r_9 h_10) (by kernel_rfl) calls_nil) 1 [1, 2, 3, 4, 5, 13] [0] ⟨[(1, cI base_4), (2, cI to_5), (3, cB ahead_6), (4, cB copied_7), (5, .c (.h 0)), (13, cB r_9)], [(0, .box [.val (.int .i64 x_1), .val (.int .i64 x_2), .val (.string x_3)])], 1⟩ [] (by kernel_rfl) rfl rfl ap0 (by kernel_rfl) (by kernel_rfl) ?_
  refine VL_cond (r_9) (by kernel_rfl) ?_ ?_
  · intro b_12; have H_43 := of_t H_42 b_12
    refine V_run hN hn 1 1 [1, 2, 3, 4, 5, 13] [0] ⟨[(1, cI base_4), (2, cI to_5), (3, cB ahead_6), (4, cB copied_7), (5, .c (.h 0)), (13, cB r_9)], [(0, .box [.val (.int .i64 x_1), .val (.int .i64 x_2), .val (.string x_3)])], 1⟩ [] (by kernel_rfl) rfl rfl ap0 ?_
    rcases Bool.eq_false_or_eq_true ((decide (x_1 ≥ to_5))) with b_14 | b_14
    · have H_45 := of_t H_43 b_14
      rcases Bool.eq_false_or_eq_true ((decide (x_1 > to_5))) with b_15 | b_15
      · have H_47 := of_t H_45 b_15
        rcases Bool.eq_false_or_eq_true ((decide (x_1 < x_2))) with b_16 | b_16
        · have H_49 := of_t H_47 b_16
          refine V_reg hN hn [] [(18, true), (23, true), (35, true)] calls_nil 1 [10] [] ⟨[(10, cB (decide (x_2 ≤ base_4)))], [], 1⟩ [(decide (x_1 ≥ to_5)) = true, (decide (x_1 > to_5)) = true, (decide (x_1 < x_2)) = true] (by kernel_rfl) rfl rfl (ap2 b_14 (ap2 b_15 (ap1 b_16))) (by kernel_rfl) (by kernel_rfl) ?_
          have H_51 := Option.some.inj (show some (decide (x_2 ≤ base_4)) = some r from H_49); subst H_51
          refine VL_ret ?_
          exact P_to [(10, cB (decide (x_2 ≤ base_4)))] [] [] hn (by kernel_rfl) (by kernel_rfl) rfl rfl rfl (QF_retS (by kernel_rfl) (by kernel_rfl) rfl)
        · have H_50 := of_f H_47 b_16
          refine V_reg hN hn [] [(18, true), (23, true), (35, false)] calls_nil 1 [10] [] ⟨[(10, cB false)], [], 1⟩ [(decide (x_1 ≥ to_5)) = true, (decide (x_1 > to_5)) = true, (decide (x_1 < x_2)) = false] (by kernel_rfl) rfl rfl (ap2 b_14 (ap2 b_15 (ap1 b_16))) (by kernel_rfl) (by kernel_rfl) ?_
          have H_52 := Option.some.inj (show some false = some r from H_50); subst H_52
          refine VL_ret ?_
          exact P_to [(10, cB false)] [] [] hn (by kernel_rfl) (by kernel_rfl) rfl rfl rfl (QF_retS (by kernel_rfl) (by kernel_rfl) rfl)
      · have H_48 := of_f H_45 b_15
        rcases Bool.eq_false_or_eq_true ((!copied_7)) with b_19 | b_19
        · have H_53 := of_t H_48 b_19
          rcases Bool.eq_false_or_eq_true ((decide (x_1 < x_2))) with b_20 | b_20
          · have H_55 := of_t H_53 b_20
            refine V_reg hN hn [] [(18, true), (23, false), (28, true), (35, true)] calls_nil 1 [10] [] ⟨[(10, cB (decide (x_2 ≤ base_4)))], [], 1⟩ [(decide (x_1 ≥ to_5)) = true, (decide (x_1 > to_5)) = false, (!copied_7) = true, (decide (x_1 < x_2)) = true] (by kernel_rfl) rfl rfl (ap2 b_14 (ap2 b_15 (ap2 b_19 (ap1 b_20)))) (by kernel_rfl) (by kernel_rfl) ?_
            have H_57 := Option.some.inj (show some (decide (x_2 ≤ base_4)) = some r from H_55); subst H_57
            refine VL_ret ?_
            exact P_to [(10, cB (decide (x_2 ≤ base_4)))] [] [] hn (by kernel_rfl) (by kernel_rfl) rfl rfl rfl (QF_retS (by kernel_rfl) (by kernel_rfl) rfl)
          · have H_56 := of_f H_53 b_20
            refine V_reg hN hn [] [(18, true), (23, false), (28, true), (35, false)] calls_nil 1 [10] [] ⟨[(10, cB false)], [], 1⟩ [(decide (x_1 ≥ to_5)) = true, (decide (x_1 > to_5)) = false, (!copied_7) = true, (decide (x_1 < x_2)) = false] (by kernel_rfl) rfl rfl (ap2 b_14 (ap2 b_15 (ap2 b_19 (ap1 b_20)))) (by kernel_rfl) (by kernel_rfl) ?_
            have H_58 := Option.some.inj (show some false = some r from H_56); subst H_58
            refine VL_ret ?_
            exact P_to [(10, cB false)] [] [] hn (by kernel_rfl) (by kernel_rfl) rfl rfl rfl (QF_retS (by kernel_rfl) (by kernel_rfl) rfl)
        · have H_54 := of_f H_48 b_19
          refine V_reg hN hn [] [(18, true), (23, false), (28, false)] calls_nil 1 [10] [] ⟨[(10, cB false)], [], 1⟩ [(decide (x_1 ≥ to_5)) = true, (decide (x_1 > to_5)) = false, (!copied_7) = false] (by kernel_rfl) rfl rfl (ap2 b_14 (ap2 b_15 (ap1 b_19))) (by kernel_rfl) (by kernel_rfl) ?_
          have H_59 := Option.some.inj (show some false = some r from H_54); subst H_59
          refine VL_ret ?_
          exact P_to [(10, cB false)] [] [] hn (by kernel_rfl) (by kernel_rfl) rfl rfl rfl (QF_retS (by kernel_rfl) (by kernel_rfl) rfl)
    · have H_46 := of_f H_43 b_14
      refine V_reg hN hn [] [(18, false)] calls_nil 1 [10] [] ⟨[(10, cB false)], [], 1⟩ [(decide (x_1 ≥ to_5)) = false] (by kernel_rfl) rfl rfl (ap1 b_14) (by kernel_rfl) (by kernel_rfl) ?_
      have H_60 := Option.some.inj (show some false = some r from H_46); subst H_60
      refine VL_ret ?_
      exact P_to [(10, cB false)] [] [] hn (by kernel_rfl) (by kernel_rfl) rfl rfl rfl (QF_retS (by kernel_rfl) (by kernel_rfl) rfl)
  · intro b_12; have H_44 := of_f H_42 b_12
    refine V_run hN hn 4 1 [3, 4, 5, 11] [0, 1] ⟨[(3, cB ahead_6), (4, cB copied_7), (5, .c (.h 0)), (11, .c (.h 1))], [(0, .box [.val (.int .i64 x_1), .val (.int .i64 x_2), .val (.string x_3)]), (1, .box [.val (.int .i64 (0 : Int)), .val (.int .i64 (0 : Int)), .val (.string x_3)])], 2⟩ [] (by kernel_rfl) rfl rfl ap0 ?_
    rcases Bool.eq_false_or_eq_true (((x_1 == (0 : Int)) && ((x_2 == (0 : Int)) && (ByteArray.toList x_3 == ByteArray.toList x_3)))) with b_26 | b_26
    · have H_61 := of_t H_44 b_26
      rcases Bool.eq_false_or_eq_true ((!ahead_6)) with b_27 | b_27
      · have H_63 := of_t H_61 b_27
        rcases Bool.eq_false_or_eq_true ((decide ((((ByteArray.size x_3) : Nat) : Int) ≤ (20000 : Int)))) with b_28 | b_28
        · have H_65 := of_t H_63 b_28
          obtain ⟨r_29, h_30, H_67⟩ := of_bind H_65
          refine V_reg hN hn [(19, ⟨60, 0, [cS x_3], [], cB r_29, [], [], 2⟩)] [(47, true), (50, true), (60, true)] (calls_cons (utf_Valid_spec K x_3 r_29 h_30) (by kernel_rfl) calls_nil) 2 [10] [] ⟨[(10, cB r_29)], [], 2⟩ [((x_1 == (0 : Int)) && ((x_2 == (0 : Int)) && (ByteArray.toList x_3 == ByteArray.toList x_3))) = true, (!ahead_6) = true, (decide ((((ByteArray.size x_3) : Nat) : Int) ≤ (20000 : Int))) = true] (by kernel_rfl) rfl rfl (ap2 b_26 (ap2 b_27 (ap1 b_28))) (by kernel_rfl) (by kernel_rfl) ?_
          have H_68 := Option.some.inj (show some r_29 = some r from H_67); subst H_68
          refine VL_ret ?_
          exact P_to [(10, cB r_29)] [] [] hn (by kernel_rfl) (by kernel_rfl) rfl rfl rfl (QF_retS (by kernel_rfl) (by kernel_rfl) rfl)
        · have H_66 := of_f H_63 b_28
          refine V_reg hN hn [] [(47, true), (50, true), (60, false)] calls_nil 2 [10] [] ⟨[(10, cB false)], [], 2⟩ [((x_1 == (0 : Int)) && ((x_2 == (0 : Int)) && (ByteArray.toList x_3 == ByteArray.toList x_3))) = true, (!ahead_6) = true, (decide ((((ByteArray.size x_3) : Nat) : Int) ≤ (20000 : Int))) = false] (by kernel_rfl) rfl rfl (ap2 b_26 (ap2 b_27 (ap1 b_28))) (by kernel_rfl) (by kernel_rfl) ?_
          have H_69 := Option.some.inj (show some false = some r from H_66); subst H_69
          refine VL_ret ?_
          exact P_to [(10, cB false)] [] [] hn (by kernel_rfl) (by kernel_rfl) rfl rfl rfl (QF_retS (by kernel_rfl) (by kernel_rfl) rfl)
      · have H_64 := of_f H_61 b_27
        rcases Bool.eq_false_or_eq_true (copied_7) with b_33 | b_33
        · have H_70 := of_t H_64 b_33
          rcases Bool.eq_false_or_eq_true ((decide ((((ByteArray.size x_3) : Nat) : Int) ≤ (20000 : Int)))) with b_34 | b_34
          · have H_72 := of_t H_70 b_34
            obtain ⟨r_35, h_36, H_74⟩ := of_bind H_72
            refine V_reg hN hn [(19, ⟨60, 0, [cS x_3], [], cB r_35, [], [], 2⟩)] [(47, true), (50, false), (54, true), (60, true)] (calls_cons (utf_Valid_spec K x_3 r_35 h_36) (by kernel_rfl) calls_nil) 2 [10] [] ⟨[(10, cB r_35)], [], 2⟩ [((x_1 == (0 : Int)) && ((x_2 == (0 : Int)) && (ByteArray.toList x_3 == ByteArray.toList x_3))) = true, (!ahead_6) = false, copied_7 = true, (decide ((((ByteArray.size x_3) : Nat) : Int) ≤ (20000 : Int))) = true] (by kernel_rfl) rfl rfl (ap2 b_26 (ap2 b_27 (ap2 b_33 (ap1 b_34)))) (by kernel_rfl) (by kernel_rfl) ?_
            have H_75 := Option.some.inj (show some r_35 = some r from H_74); subst H_75
            refine VL_ret ?_
            exact P_to [(10, cB r_35)] [] [] hn (by kernel_rfl) (by kernel_rfl) rfl rfl rfl (QF_retS (by kernel_rfl) (by kernel_rfl) rfl)
          · have H_73 := of_f H_70 b_34
            refine V_reg hN hn [] [(47, true), (50, false), (54, true), (60, false)] calls_nil 2 [10] [] ⟨[(10, cB false)], [], 2⟩ [((x_1 == (0 : Int)) && ((x_2 == (0 : Int)) && (ByteArray.toList x_3 == ByteArray.toList x_3))) = true, (!ahead_6) = false, copied_7 = true, (decide ((((ByteArray.size x_3) : Nat) : Int) ≤ (20000 : Int))) = false] (by kernel_rfl) rfl rfl (ap2 b_26 (ap2 b_27 (ap2 b_33 (ap1 b_34)))) (by kernel_rfl) (by kernel_rfl) ?_
            have H_76 := Option.some.inj (show some false = some r from H_73); subst H_76
            refine VL_ret ?_
            exact P_to [(10, cB false)] [] [] hn (by kernel_rfl) (by kernel_rfl) rfl rfl rfl (QF_retS (by kernel_rfl) (by kernel_rfl) rfl)
        · have H_71 := of_f H_64 b_33
          refine V_reg hN hn [] [(47, true), (50, false), (54, false)] calls_nil 2 [10] [] ⟨[(10, cB false)], [], 2⟩ [((x_1 == (0 : Int)) && ((x_2 == (0 : Int)) && (ByteArray.toList x_3 == ByteArray.toList x_3))) = true, (!ahead_6) = false, copied_7 = false] (by kernel_rfl) rfl rfl (ap2 b_26 (ap2 b_27 (ap1 b_33))) (by kernel_rfl) (by kernel_rfl) ?_
          have H_77 := Option.some.inj (show some false = some r from H_71); subst H_77
          refine VL_ret ?_
          exact P_to [(10, cB false)] [] [] hn (by kernel_rfl) (by kernel_rfl) rfl rfl rfl (QF_retS (by kernel_rfl) (by kernel_rfl) rfl)
    · have H_62 := of_f H_44 b_26
      refine V_reg hN hn [] [(47, false)] calls_nil 2 [10] [] ⟨[(10, cB false)], [], 2⟩ [((x_1 == (0 : Int)) && ((x_2 == (0 : Int)) && (ByteArray.toList x_3 == ByteArray.toList x_3))) = false] (by kernel_rfl) rfl rfl (ap1 b_26) (by kernel_rfl) (by kernel_rfl) ?_
      have H_78 := Option.some.inj (show some false = some r from H_62); subst H_78
      refine VL_ret ?_
      exact P_to [(10, cB false)] [] [] hn (by kernel_rfl) (by kernel_rfl) rfl rfl rfl (QF_retS (by kernel_rfl) (by kernel_rfl) rfl)

theorem delta_Is_spec (K : Nat) (d_1 : Int) (d_2 : (List (Int × (Int × ByteArray)))) (r : Bool) (H : delta_Is K d_1 d_2 = some r) : Spec Try.prog 36 0 [.agg [.val (.int .i64 d_1), .imm (.slice kE) d_2]] [] (cB r) [] := by
  refine Spec_mk (fn := Try.f36) (c := (Try.f36.body).get!) Try.func36 (by kernel_rfl) rfl ?_
  intro C hN hn
  replace hN : C.N = 68 := hN
  unfold delta_Is at H
  refine V_run hN hn 4 0 [1] [0] ⟨[(1, .c (.h 0))], [(0, .box [.val (.int .i64 d_1), .imm (.slice kE) d_2])], 1⟩ [] (by kernel_rfl) rfl rfl ap0 ?_
  obtain ⟨q_53, H_54, H_55⟩ := of_bind H
  refine V_cut (Y := Bool) (R := Bool) q_53 (fun y => y) (fun y => [(1, .c (.h 0)), (21, cB y)]) (fun y => [(0, .box [.val (.int .i64 d_1), .imm (.slice kE) d_2])]) ?_ ?_
  · skip
    rcases Bool.eq_false_or_eq_true ((decide (d_1 < (0 : Int)))) with b_4 | b_4
    · have H_57 := of_t H_54 b_4
      refine V_reg hN hn [] [(11, true)] calls_nil 1 [1, 21] [0] ⟨[(1, .c (.h 0)), (21, cB true)], [(0, .box [.val (.int .i64 d_1), .imm (.slice kE) d_2])], 1⟩ [(decide (d_1 < (0 : Int))) = true] (by kernel_rfl) rfl rfl (ap1 b_4) (by kernel_rfl) (by kernel_rfl) ?_
      have H_59 := Option.some.inj (show some true = some q_53 from H_57); subst H_59
      refine VL_nil ?_
      exact QP_end true rfl [(0, 0)] hn (by kernel_rfl) (by kernel_rfl) rfl rfl rfl
    · have H_58 := of_f H_54 b_4
      rcases Bool.eq_false_or_eq_true ((decide (d_1 > (20000 : Int)))) with b_6 | b_6
      · have H_60 := of_t H_58 b_6
        refine V_reg hN hn [] [(11, false), (16, true)] calls_nil 1 [1, 21] [0] ⟨[(1, .c (.h 0)), (21, cB true)], [(0, .box [.val (.int .i64 d_1), .imm (.slice kE) d_2])], 1⟩ [(decide (d_1 < (0 : Int))) = false, (decide (d_1 > (20000 : Int))) = true] (by kernel_rfl) rfl rfl (ap2 b_4 (ap1 b_6)) (by kernel_rfl) (by kernel_rfl) ?_
        have H_62 := Option.some.inj (show some true = some q_53 from H_60); subst H_62
        refine VL_nil ?_
        exact QP_end true rfl [(0, 0)] hn (by kernel_rfl) (by kernel_rfl) rfl rfl rfl
      · have H_61 := of_f H_58 b_6
        refine V_reg hN hn [] [(11, false), (16, false)] calls_nil 1 [1, 21] [0] ⟨[(1, .c (.h 0)), (21, cB (decide ((lnI d_2) > (60 : Int))))], [(0, .box [.val (.int .i64 d_1), .imm (.slice kE) d_2])], 1⟩ [(decide (d_1 < (0 : Int))) = false, (decide (d_1 > (20000 : Int))) = false] (by kernel_rfl) rfl rfl (ap2 b_4 (ap1 b_6)) (by kernel_rfl) (by kernel_rfl) ?_
        have H_63 := Option.some.inj (show some (decide ((lnI d_2) > (60 : Int))) = some q_53 from H_61); subst H_63
        refine VL_nil ?_
        exact QP_end (decide ((lnI d_2) > (60 : Int))) rfl [(0, 0)] hn (by kernel_rfl) (by kernel_rfl) rfl rfl rfl
  · intro y_56 hy; subst hy
    skip
    skip
    refine VL_cond (y_56) (by kernel_rfl) ?_ ?_
    · intro b_10; have H_64 := of_t H_55 b_10
      refine V_run hN hn 2 1 [2] [] ⟨[(2, cB false)], [], 1⟩ [] (by kernel_rfl) rfl rfl ap0 ?_
      have H_66 := Option.some.inj (show some false = some r from H_64); subst H_66
      refine VL_ret ?_
      exact P_to [(2, cB false)] [] [] hn (by kernel_rfl) (by kernel_rfl) rfl rfl rfl (QF_retS (by kernel_rfl) (by kernel_rfl) rfl)
    · intro b_10; have H_65 := of_f H_55 b_10
      refine V_run hN hn 6 1 [1, 3, 4, 23, 24, 25] [0] ⟨[(1, .c (.h 0)), (3, cI (0 : Int)), (4, cI (0 : Int)), (23, .c (.imm (.slice kE) d_2)), (24, cI (lnI d_2)), (25, cI (0 : Int))], [(0, .box [.val (.int .i64 d_1), .imm (.slice kE) d_2])], 1⟩ [] (by kernel_rfl) rfl rfl ap0 ?_
      refine VL_block ?_
      refine V_to [(1, .c (.h 0)), (3, cI (0 : Int)), (4, cI (0 : Int)), (23, .c (.imm (.slice kE) d_2)), (24, cI (lnI d_2)), (25, cI (0 : Int))] [(0, .box [.val (.int .i64 d_1), .imm (.slice kE) d_2])] [(0, 0)] hn (by kernel_rfl) (by kernel_rfl) rfl rfl rfl ?_
      refine VL_loop (X := (Int × Int × Int)) (fun x => [(1, .c (.h 0)), (3, cI x.1), (4, cI x.2.1), (23, .c (.imm (.slice kE) d_2)), (24, cI (lnI d_2)), (25, cI x.2.2)]) (fun x => [(0, .box [.val (.int .i64 d_1), .imm (.slice kE) d_2])]) (fun k x => delta_Is.l0 K d_2 d_1 k x.1 x.2.1 x.2.2 = some r) K ((0 : Int), (0 : Int), (0 : Int)) H_65 (fun _ h => no_none h) ?_
      intro k_16 x_16 H_67
      obtain ⟨size_13, to_14, t_15⟩ := x_16
      have H_68 : delta_Is.l0 K d_2 d_1 (k_16 + 1) size_13 to_14 t_15 = some r := H_67
      rw [delta_Is.l0] at H_68
      refine V_run hN hn 3 1 [1, 3, 4, 23, 24, 25, 26] [0] ⟨[(1, .c (.h 0)), (3, cI size_13), (4, cI to_14), (23, .c (.imm (.slice kE) d_2)), (24, cI (lnI d_2)), (25, cI t_15), (26, cB (decide (t_15 < (lnI d_2))))], [(0, .box [.val (.int .i64 d_1), .imm (.slice kE) d_2])], 1⟩ [] (by kernel_rfl) rfl rfl ap0 ?_
      refine VL_cond ((decide (t_15 < (lnI d_2)))) (by kernel_rfl) ?_ ?_
      · intro b_18; have H_69 := of_t H_68 b_18
        refine V_run hN hn 2 1 [1, 3, 4, 23, 24, 25, 26] [0] ⟨[(1, .c (.h 0)), (3, cI size_13), (4, cI to_14), (23, .c (.imm (.slice kE) d_2)), (24, cI (lnI d_2)), (25, cI t_15), (26, cB (decide (t_15 < (lnI d_2))))], [(0, .box [.val (.int .i64 d_1), .imm (.slice kE) d_2])], 1⟩ [] (by kernel_rfl) rfl rfl ap0 ?_
        refine VL_block ?_
        obtain ⟨c_20, H_71⟩ := of_if H_69
        refine V_run hN hn 3 1 [1, 3, 4, 5, 6, 23, 24, 25] [0, 1] ⟨[(1, .c (.h 0)), (3, cI size_13), (4, cI to_14), (5, cI t_15), (6, .c (.h 1)), (23, .c (.imm (.slice kE) d_2)), (24, cI (lnI d_2)), (25, cI t_15)], [(0, .box [.val (.int .i64 d_1), .imm (.slice kE) d_2]), (1, .box [.val (.int .i64 (List.getD d_2 (Int.toNat t_15) zE).1), .val (.int .i64 (List.getD d_2 (Int.toNat t_15) zE).2.1), .val (.string (List.getD d_2 (Int.toNat t_15) zE).2.2)])], 2⟩ [0 ≤ t_15, t_15 < (lnI d_2)] (by kernel_rfl) rfl rfl (ap2 c_20.1 (ap1 c_20.2)) ?_
        obtain ⟨q_72, H_73, H_74⟩ := of_bind H_71
        refine V_cut (Y := Bool) (R := Bool) q_72 (fun y => y) (fun y => [(1, .c (.h 0)), (3, cI size_13), (4, cI to_14), (5, cI t_15), (6, .c (.h 1)), (7, cB y), (23, .c (.imm (.slice kE) d_2)), (24, cI (lnI d_2)), (25, cI t_15)]) (fun y => [(0, .box [.val (.int .i64 d_1), .imm (.slice kE) d_2]), (1, .box [.val (.int .i64 (List.getD d_2 (Int.toNat t_15) zE).1), .val (.int .i64 (List.getD d_2 (Int.toNat t_15) zE).2.1), .val (.string (List.getD d_2 (Int.toNat t_15) zE).2.2)])]) ?_ ?_
        · skip
          rcases Bool.eq_false_or_eq_true ((decide (t_15 > (0 : Int)))) with b_21 | b_21
          · have H_76 := of_t H_73 b_21
            obtain ⟨r_22, h_23, H_78⟩ := of_bind H_76
            obtain ⟨c_24, H_79⟩ := of_if H_78
            refine V_reg hN hn [(9, ⟨62, 0, [.agg [.val (.int .i64 (List.getD d_2 (Int.toNat (w6 (t_15 - (1 : Int)))) zE).1), .val (.int .i64 (List.getD d_2 (Int.toNat (w6 (t_15 - (1 : Int)))) zE).2.1), .val (.string (List.getD d_2 (Int.toNat (w6 (t_15 - (1 : Int)))) zE).2.2)]], [], cB r_22, [], [], 2⟩)] [(32, true)] (calls_cons (delta_IsCopy_spec K (List.getD d_2 (Int.toNat (w6 (t_15 - (1 : Int)))) zE).1 (List.getD d_2 (Int.toNat (w6 (t_15 - (1 : Int)))) zE).2.1 (List.getD d_2 (Int.toNat (w6 (t_15 - (1 : Int)))) zE).2.2 r_22 h_23) (by kernel_rfl) calls_nil) 2 [1, 3, 4, 5, 6, 7, 23, 24, 25] [0, 1] ⟨[(1, .c (.h 0)), (3, cI size_13), (4, cI to_14), (5, cI t_15), (6, .c (.h 1)), (7, cB r_22), (23, .c (.imm (.slice kE) d_2)), (24, cI (lnI d_2)), (25, cI t_15)], [(0, .box [.val (.int .i64 d_1), .imm (.slice kE) d_2]), (1, .box [.val (.int .i64 (List.getD d_2 (Int.toNat t_15) zE).1), .val (.int .i64 (List.getD d_2 (Int.toNat t_15) zE).2.1), .val (.string (List.getD d_2 (Int.toNat t_15) zE).2.2)])], 2⟩ [(decide (t_15 > (0 : Int))) = true, 0 ≤ (w6 (t_15 - (1 : Int))), (w6 (t_15 - (1 : Int))) < (lnI d_2)] (by kernel_rfl) rfl rfl (ap2 b_21 (ap2 c_24.1 (ap1 c_24.2))) (by kernel_rfl) (by kernel_rfl) ?_
            have H_80 := Option.some.inj (show some r_22 = some q_72 from H_79); subst H_80
            refine VL_nil ?_
            exact QP_end r_22 rfl [(0, 0), (1, 1)] hn (by kernel_rfl) (by kernel_rfl) rfl rfl rfl
          · have H_77 := of_f H_73 b_21
            refine V_reg hN hn [] [(32, false)] calls_nil 2 [1, 3, 4, 5, 6, 7, 23, 24, 25] [0, 1] ⟨[(1, .c (.h 0)), (3, cI size_13), (4, cI to_14), (5, cI t_15), (6, .c (.h 1)), (7, cB false), (23, .c (.imm (.slice kE) d_2)), (24, cI (lnI d_2)), (25, cI t_15)], [(0, .box [.val (.int .i64 d_1), .imm (.slice kE) d_2]), (1, .box [.val (.int .i64 (List.getD d_2 (Int.toNat t_15) zE).1), .val (.int .i64 (List.getD d_2 (Int.toNat t_15) zE).2.1), .val (.string (List.getD d_2 (Int.toNat t_15) zE).2.2)])], 2⟩ [(decide (t_15 > (0 : Int))) = false] (by kernel_rfl) rfl rfl (ap1 b_21) (by kernel_rfl) (by kernel_rfl) ?_
            have H_81 := Option.some.inj (show some false = some q_72 from H_77); subst H_81
            refine VL_nil ?_
            exact QP_end false rfl [(0, 0), (1, 1)] hn (by kernel_rfl) (by kernel_rfl) rfl rfl rfl
        · intro y_75 hy; subst hy
          skip
          skip
          refine V_run hN hn 2 2 [1, 3, 4, 5, 6, 7, 23, 24, 25] [0, 1] ⟨[(1, .c (.h 0)), (3, cI size_13), (4, cI to_14), (5, cI t_15), (6, .c (.h 1)), (7, cB y_75), (23, .c (.imm (.slice kE) d_2)), (24, cI (lnI d_2)), (25, cI t_15)], [(0, .box [.val (.int .i64 d_1), .imm (.slice kE) d_2]), (1, .box [.val (.int .i64 (List.getD d_2 (Int.toNat t_15) zE).1), .val (.int .i64 (List.getD d_2 (Int.toNat t_15) zE).2.1), .val (.string (List.getD d_2 (Int.toNat t_15) zE).2.2)])], 2⟩ [] (by kernel_rfl) rfl rfl ap0 ?_
          obtain ⟨r_28, h_29, H_82⟩ := of_bind H_74
          refine V_reg hN hn [(7, ⟨63, 0, [.agg [.val (.int .i64 (List.getD d_2 (Int.toNat t_15) zE).1), .val (.int .i64 (List.getD d_2 (Int.toNat t_15) zE).2.1), .val (.string (List.getD d_2 (Int.toNat t_15) zE).2.2)], cI d_1, cI to_14, cB (decide (t_15 > (0 : Int))), cB y_75], [], cB r_28, [], [], 2⟩)] [] (calls_cons (delta_elem_spec K (List.getD d_2 (Int.toNat t_15) zE).1 (List.getD d_2 (Int.toNat t_15) zE).2.1 (List.getD d_2 (Int.toNat t_15) zE).2.2 d_1 to_14 (decide (t_15 > (0 : Int))) y_75 r_28 h_29) (by kernel_rfl) calls_nil) 2 [1, 3, 4, 6, 23, 24, 25, 49] [0, 1] ⟨[(1, .c (.h 0)), (3, cI size_13), (4, cI to_14), (6, .c (.h 1)), (23, .c (.imm (.slice kE) d_2)), (24, cI (lnI d_2)), (25, cI t_15), (49, cB (!r_28))], [(0, .box [.val (.int .i64 d_1), .imm (.slice kE) d_2]), (1, .box [.val (.int .i64 (List.getD d_2 (Int.toNat t_15) zE).1), .val (.int .i64 (List.getD d_2 (Int.toNat t_15) zE).2.1), .val (.string (List.getD d_2 (Int.toNat t_15) zE).2.2)])], 2⟩ [] (by kernel_rfl) rfl rfl ap0 (by kernel_rfl) (by kernel_rfl) ?_
          refine VL_cond ((!r_28)) (by kernel_rfl) ?_ ?_
          · intro b_31; have H_83 := of_t H_82 b_31
            refine V_run hN hn 2 2 [2] [] ⟨[(2, cB false)], [], 2⟩ [] (by kernel_rfl) rfl rfl ap0 ?_
            have H_85 := Option.some.inj (show some false = some r from H_83); subst H_85
            refine VL_ret ?_
            refine QB_ret ?_
            refine QL_ret ?_
            refine QB_ret ?_
            exact P_to [(2, cB false)] [] [] hn (by kernel_rfl) (by kernel_rfl) rfl rfl rfl (QF_retS (by kernel_rfl) (by kernel_rfl) rfl)
          · intro b_31; have H_84 := of_f H_82 b_31
            refine V_run hN hn 3 2 [1, 3, 4, 6, 23, 24, 25, 49] [0, 1] ⟨[(1, .c (.h 0)), (3, cI size_13), (4, cI to_14), (6, .c (.h 1)), (23, .c (.imm (.slice kE) d_2)), (24, cI (lnI d_2)), (25, cI t_15), (49, cB (!r_28))], [(0, .box [.val (.int .i64 d_1), .imm (.slice kE) d_2]), (1, .box [.val (.int .i64 (List.getD d_2 (Int.toNat t_15) zE).1), .val (.int .i64 (List.getD d_2 (Int.toNat t_15) zE).2.1), .val (.string (List.getD d_2 (Int.toNat t_15) zE).2.2)])], 2⟩ [] (by kernel_rfl) rfl rfl ap0 ?_
            obtain ⟨r_34, h_35, H_86⟩ := of_bind H_84
            refine V_reg hN hn [(1, ⟨62, 0, [.agg [.val (.int .i64 (List.getD d_2 (Int.toNat t_15) zE).1), .val (.int .i64 (List.getD d_2 (Int.toNat t_15) zE).2.1), .val (.string (List.getD d_2 (Int.toNat t_15) zE).2.2)]], [], cB r_34, [], [], 2⟩)] [] (calls_cons (delta_IsCopy_spec K (List.getD d_2 (Int.toNat t_15) zE).1 (List.getD d_2 (Int.toNat t_15) zE).2.1 (List.getD d_2 (Int.toNat t_15) zE).2.2 r_34 h_35) (by kernel_rfl) calls_nil) 2 [1, 3, 4, 6, 23, 24, 25, 51] [0, 1] ⟨[(1, .c (.h 0)), (3, cI size_13), (4, cI to_14), (6, .c (.h 1)), (23, .c (.imm (.slice kE) d_2)), (24, cI (lnI d_2)), (25, cI t_15), (51, cB r_34)], [(0, .box [.val (.int .i64 d_1), .imm (.slice kE) d_2]), (1, .box [.val (.int .i64 (List.getD d_2 (Int.toNat t_15) zE).1), .val (.int .i64 (List.getD d_2 (Int.toNat t_15) zE).2.1), .val (.string (List.getD d_2 (Int.toNat t_15) zE).2.2)])], 2⟩ [] (by kernel_rfl) rfl rfl ap0 (by kernel_rfl) (by kernel_rfl) ?_
            obtain ⟨q_87, H_88, H_89⟩ := of_bind H_86
            refine V_cut (Y := Int) (R := Int) q_87 (fun y => y) (fun y => [(1, .c (.h 0)), (3, cI size_13), (4, cI y), (6, .c (.h 1)), (23, .c (.imm (.slice kE) d_2)), (24, cI (lnI d_2)), (25, cI t_15)]) (fun y => [(0, .box [.val (.int .i64 d_1), .imm (.slice kE) d_2]), (1, .box [.val (.int .i64 (List.getD d_2 (Int.toNat t_15) zE).1), .val (.int .i64 (List.getD d_2 (Int.toNat t_15) zE).2.1), .val (.string (List.getD d_2 (Int.toNat t_15) zE).2.2)])]) ?_ ?_
            · skip
              refine VL_cond (r_34) (by kernel_rfl) ?_ ?_
              · intro b_37; have H_91 := of_t H_88 b_37
                refine V_run hN hn 1 2 [1, 3, 4, 6, 23, 24, 25] [0, 1] ⟨[(1, .c (.h 0)), (3, cI size_13), (4, .c (.val (.int .i64 (List.getD d_2 (Int.toNat t_15) zE).2.1))), (6, .c (.h 1)), (23, .c (.imm (.slice kE) d_2)), (24, cI (lnI d_2)), (25, cI t_15)], [(0, .box [.val (.int .i64 d_1), .imm (.slice kE) d_2]), (1, .box [.val (.int .i64 (List.getD d_2 (Int.toNat t_15) zE).1), .val (.int .i64 (List.getD d_2 (Int.toNat t_15) zE).2.1), .val (.string (List.getD d_2 (Int.toNat t_15) zE).2.2)])], 2⟩ [] (by kernel_rfl) rfl rfl ap0 ?_
                have H_93 := Option.some.inj (show some (List.getD d_2 (Int.toNat t_15) zE).2.1 = some q_87 from H_91); subst H_93
                refine VL_nil ?_
                exact QP_end (List.getD d_2 (Int.toNat t_15) zE).2.1 rfl [(0, 0), (1, 1)] hn (by kernel_rfl) (by kernel_rfl) rfl rfl rfl
              · intro b_37; have H_92 := of_f H_88 b_37
                refine V_run hN hn 1 2 [1, 3, 4, 6, 23, 24, 25, 51] [0, 1] ⟨[(1, .c (.h 0)), (3, cI size_13), (4, cI to_14), (6, .c (.h 1)), (23, .c (.imm (.slice kE) d_2)), (24, cI (lnI d_2)), (25, cI t_15), (51, cB r_34)], [(0, .box [.val (.int .i64 d_1), .imm (.slice kE) d_2]), (1, .box [.val (.int .i64 (List.getD d_2 (Int.toNat t_15) zE).1), .val (.int .i64 (List.getD d_2 (Int.toNat t_15) zE).2.1), .val (.string (List.getD d_2 (Int.toNat t_15) zE).2.2)])], 2⟩ [] (by kernel_rfl) rfl rfl ap0 ?_
                have H_94 := Option.some.inj (show some to_14 = some q_87 from H_92); subst H_94
                refine VL_nil ?_
                exact QP_end to_14 rfl [(0, 0), (1, 1)] hn (by kernel_rfl) (by kernel_rfl) rfl rfl rfl
            · intro y_90 hy; subst hy
              skip
              skip
              refine V_run hN hn 4 2 [1, 3, 4, 23, 24, 25, 66] [0] ⟨[(1, .c (.h 0)), (3, cI (w6 (size_13 + (w6 ((w6 ((List.getD d_2 (Int.toNat t_15) zE).2.1 - (List.getD d_2 (Int.toNat t_15) zE).1)) + (((ByteArray.size (List.getD d_2 (Int.toNat t_15) zE).2.2) : Nat) : Int)))))), (4, cI y_90), (23, .c (.imm (.slice kE) d_2)), (24, cI (lnI d_2)), (25, cI t_15), (66, cB (decide ((w6 (size_13 + (w6 ((w6 ((List.getD d_2 (Int.toNat t_15) zE).2.1 - (List.getD d_2 (Int.toNat t_15) zE).1)) + (((ByteArray.size (List.getD d_2 (Int.toNat t_15) zE).2.2) : Nat) : Int))))) > (20000 : Int))))], [(0, .box [.val (.int .i64 d_1), .imm (.slice kE) d_2])], 2⟩ [] (by kernel_rfl) rfl rfl ap0 ?_
              refine VL_cond ((decide ((w6 (size_13 + (w6 ((w6 ((List.getD d_2 (Int.toNat t_15) zE).2.1 - (List.getD d_2 (Int.toNat t_15) zE).1)) + (((ByteArray.size (List.getD d_2 (Int.toNat t_15) zE).2.2) : Nat) : Int))))) > (20000 : Int)))) (by kernel_rfl) ?_ ?_
              · intro b_42; have H_95 := of_t H_89 b_42
                refine V_run hN hn 2 2 [2] [] ⟨[(2, cB false)], [], 2⟩ [] (by kernel_rfl) rfl rfl ap0 ?_
                have H_97 := Option.some.inj (show some false = some r from H_95); subst H_97
                refine VL_ret ?_
                refine QB_ret ?_
                refine QL_ret ?_
                refine QB_ret ?_
                exact P_to [(2, cB false)] [] [] hn (by kernel_rfl) (by kernel_rfl) rfl rfl rfl (QF_retS (by kernel_rfl) (by kernel_rfl) rfl)
              · intro b_42; have H_96 := of_f H_89 b_42
                refine V_run hN hn 1 2 [1, 3, 4, 23, 24, 25, 66] [0] ⟨[(1, .c (.h 0)), (3, cI (w6 (size_13 + (w6 ((w6 ((List.getD d_2 (Int.toNat t_15) zE).2.1 - (List.getD d_2 (Int.toNat t_15) zE).1)) + (((ByteArray.size (List.getD d_2 (Int.toNat t_15) zE).2.2) : Nat) : Int)))))), (4, cI y_90), (23, .c (.imm (.slice kE) d_2)), (24, cI (lnI d_2)), (25, cI t_15), (66, cB (decide ((w6 (size_13 + (w6 ((w6 ((List.getD d_2 (Int.toNat t_15) zE).2.1 - (List.getD d_2 (Int.toNat t_15) zE).1)) + (((ByteArray.size (List.getD d_2 (Int.toNat t_15) zE).2.2) : Nat) : Int))))) > (20000 : Int))))], [(0, .box [.val (.int .i64 d_1), .imm (.slice kE) d_2])], 2⟩ [] (by kernel_rfl) rfl rfl ap0 ?_
                refine VL_nil (QB_end ?_)
                refine V_run hN hn 1 2 [1, 3, 4, 23, 24, 25] [0] ⟨[(1, .c (.h 0)), (3, cI (w6 (size_13 + (w6 ((w6 ((List.getD d_2 (Int.toNat t_15) zE).2.1 - (List.getD d_2 (Int.toNat t_15) zE).1)) + (((ByteArray.size (List.getD d_2 (Int.toNat t_15) zE).2.2) : Nat) : Int)))))), (4, cI y_90), (23, .c (.imm (.slice kE) d_2)), (24, cI (lnI d_2)), (25, cI (w6 (t_15 + (1 : Int))))], [(0, .box [.val (.int .i64 d_1), .imm (.slice kE) d_2])], 2⟩ [] (by kernel_rfl) rfl rfl ap0 ?_
                refine VL_nil ?_
                exact V_roundEnd ((w6 (size_13 + (w6 ((w6 ((List.getD d_2 (Int.toNat t_15) zE).2.1 - (List.getD d_2 (Int.toNat t_15) zE).1)) + (((ByteArray.size (List.getD d_2 (Int.toNat t_15) zE).2.2) : Nat) : Int))))), y_90, (w6 (t_15 + (1 : Int)))) H_96 [(0, 0)] hn (by kernel_rfl) (by kernel_rfl) rfl rfl rfl
      · intro b_18; have H_70 := of_f H_68 b_18
        refine VL_exit ?_
        refine QL_exit ?_
        refine QB_here ?_
        refine V_run hN hn 2 1 [2] [] ⟨[(2, cB true)], [], 1⟩ [] (by kernel_rfl) rfl rfl ap0 ?_
        have H_98 := Option.some.inj (show some true = some r from H_70); subst H_98
        refine VL_ret ?_
        exact P_to [(2, cB true)] [] [] hn (by kernel_rfl) (by kernel_rfl) rfl rfl rfl (QF_retS (by kernel_rfl) (by kernel_rfl) rfl)

theorem region_Move_1_sggb_1a382_spec (K : Nat) (r_1 : Int) (r_2 : Int) (p_3 : Int) (p_4 : (List (Int × (Int × ByteArray)))) (r : Bool) (H : region_Move_1_sggb_1a382 K r_1 r_2 p_3 p_4 = some r) : Spec Try.prog 37 1 [.agg [.val (.int .i64 r_1), .val (.int .i64 r_2)], .c (.h 0)] [(0, .box [.val (.int .i64 p_3), .imm (.slice kE) p_4])] (cB r) [(0, .box [.val (.int .i64 p_3), .imm (.slice kE) p_4])] := by
  refine Spec_mk (fn := Try.f37) (c := (Try.f37.body).get!) Try.func37 (by kernel_rfl) rfl ?_
  intro C hN hn
  replace hN : C.N = 9 := hN
  unfold region_Move_1_sggb_1a382 at H
  refine V_run hN hn 3 1 [1, 2] [0, 1] ⟨[(1, .c (.h 0)), (2, .c (.h 1))], [(0, .box [.val (.int .i64 p_3), .imm (.slice kE) p_4]), (1, .box [.val (.int .i64 r_1), .val (.int .i64 r_2)])], 2⟩ [] (by kernel_rfl) rfl rfl ap0 ?_
  obtain ⟨r_6, h_7, H_12⟩ := of_bind H
  obtain ⟨r_8, h_9, H_13⟩ := of_bind H_12
  refine V_draw hN hn (by kernel_rfl) [(1, ⟨21, 0, [.agg [.val (.int .i64 r_1), .val (.int .i64 r_2)]], [], .agg [.val (.int .i64 r_6.1), .val (.int .i64 r_6.2)], [], [], 2⟩), (4, ⟨38, 0, [.agg [.val (.int .i64 r_6.1), .val (.int .i64 r_6.2)], cI p_3], [], cB r_8, [], [], 2⟩)] [] (calls_cons (region_Span_spec K r_1 r_2 r_6 h_7) (by kernel_rfl) (calls_cons (interval_Is_spec K r_6.1 r_6.2 p_3 r_8 h_9) (by kernel_rfl) calls_nil)) 2 [3] [0] ⟨[(3, cB r_8)], [(0, .box [.val (.int .i64 p_3), .imm (.slice kE) p_4])], 2⟩ [] (by kernel_rfl) rfl rfl ap0 (by kernel_rfl) (by kernel_rfl) ?_
  have H_14 := Option.some.inj (show some r_8 = some r from H_13); subst H_14
  refine VL_ret ?_
  exact P_to [(3, cB r_8)] [(0, .box [.val (.int .i64 p_3), .imm (.slice kE) p_4])] [] hn (by kernel_rfl) (by kernel_rfl) rfl rfl rfl (QF_retS (by kernel_rfl) (by kernel_rfl) rfl)

theorem region_every_1_sggb_77714_spec (K : Nat) (x_1 : Int) (x_2 : Int) (p_3 : Int) (p_4 : (List (Int × (Int × ByteArray)))) (r : Bool) (H : region_every_1_sggb_77714 K x_1 x_2 p_3 p_4 = some r) : Spec Try.prog 47 2 [.agg [.val (.int .i64 x_1), .val (.int .i64 x_2)], .c (.h 0)] [(0, .box [.clo 37 [1]]), (1, .box [.val (.int .i64 p_3), .imm (.slice kE) p_4])] (cB r) [(0, .box [.clo 37 [1]]), (1, .box [.val (.int .i64 p_3), .imm (.slice kE) p_4])] := by
  refine Spec_mk (fn := Try.f47) (c := (Try.f47.body).get!) Try.func47 (by kernel_rfl) rfl ?_
  intro C hN hn
  replace hN : C.N = 8 := hN
  unfold region_every_1_sggb_77714 at H
  refine V_run hN hn 3 2 [1, 2] [0, 1, 2] ⟨[(1, .c (.h 0)), (2, .c (.h 2))], [(0, .box [.clo 37 [1]]), (1, .box [.val (.int .i64 p_3), .imm (.slice kE) p_4]), (2, .box [.val (.int .i64 x_1), .val (.int .i64 x_2)])], 3⟩ [] (by kernel_rfl) rfl rfl ap0 ?_
  obtain ⟨r_6, h_7, H_10⟩ := of_bind H
  refine V_reg hN hn [(2, ⟨37, 1, [.agg [.val (.int .i64 x_1), .val (.int .i64 x_2)], .c (.h 0)], [(0, .box [.val (.int .i64 p_3), .imm (.slice kE) p_4])], cB r_6, [(0, .box [.val (.int .i64 p_3), .imm (.slice kE) p_4])], [(0, 1)], 3⟩)] [] (calls_cons (region_Move_1_sggb_1a382_spec K x_1 x_2 p_3 p_4 r_6 h_7) (by kernel_rfl) calls_nil) 3 [3] [0, 1] ⟨[(3, cB (!r_6))], [(0, .box [.clo 37 [1]]), (1, .box [.val (.int .i64 p_3), .imm (.slice kE) p_4])], 3⟩ [] (by kernel_rfl) rfl rfl ap0 (by kernel_rfl) (by kernel_rfl) ?_
  have H_11 := Option.some.inj (show some (!r_6) = some r from H_10); subst H_11
  refine VL_ret ?_
  exact P_to [(3, cB (!r_6))] [(0, .box [.clo 37 [1]]), (1, .box [.val (.int .i64 p_3), .imm (.slice kE) p_4])] [] hn (by kernel_rfl) (by kernel_rfl) rfl rfl rfl (QF_retS (by kernel_rfl) (by kernel_rfl) rfl)

theorem slices_IndexFunc_rcregionevery1_c23b8_spec (K : Nat) (s_1 : (List (Int × Int))) (f_2 : Int) (f_3 : (List (Int × (Int × ByteArray)))) (r : Int) (H : slices_IndexFunc_rcregionevery1_c23b8 K s_1 f_2 f_3 = some r) : Spec Try.prog 66 3 [.c (.h 0), .c (.clo 47 [1])] [(0, .row kP s_1), (1, .box [.clo 37 [2]]), (2, .box [.val (.int .i64 f_2), .imm (.slice kE) f_3])] (cI r) [(0, .row kP s_1), (1, .box [.clo 37 [2]]), (2, .box [.val (.int .i64 f_2), .imm (.slice kE) f_3])] := by
  refine Spec_mk (fn := Try.f66) (c := (Try.f66.body).get!) Try.func66 (by kernel_rfl) rfl ?_
  intro C hN hn
  replace hN : C.N = 19 := hN
  unfold slices_IndexFunc_rcregionevery1_c23b8 at H
  refine V_run hN hn 5 3 [0, 1, 7, 8] [0, 1, 2] ⟨[(0, .c (.h 0)), (1, .c (.clo 47 [1])), (7, cI (lnI s_1)), (8, cI (0 : Int))], [(0, .row kP s_1), (1, .box [.clo 37 [2]]), (2, .box [.val (.int .i64 f_2), .imm (.slice kE) f_3])], 3⟩ [] (by kernel_rfl) rfl rfl ap0 ?_
  refine VL_block ?_
  refine V_to [(0, .c (.h 0)), (1, .c (.clo 47 [1])), (7, cI (lnI s_1)), (8, cI (0 : Int))] [(0, .row kP s_1), (1, .box [.clo 37 [2]]), (2, .box [.val (.int .i64 f_2), .imm (.slice kE) f_3])] [] hn (by kernel_rfl) (by kernel_rfl) rfl rfl rfl ?_
  refine VL_loop (X := Int) (fun x => [(0, .c (.h 0)), (1, .c (.clo 47 [1])), (7, cI (lnI s_1)), (8, cI x)]) (fun x => [(0, .row kP s_1), (1, .box [.clo 37 [2]]), (2, .box [.val (.int .i64 f_2), .imm (.slice kE) f_3])]) (fun k x => slices_IndexFunc_rcregionevery1_c23b8.l0 K s_1 f_2 f_3 k x = some r) K (0 : Int) H (fun _ h => no_none h) ?_
  intro k_6 t_5 H_20
  have H_21 : slices_IndexFunc_rcregionevery1_c23b8.l0 K s_1 f_2 f_3 (k_6 + 1) t_5 = some r := H_20
  rw [slices_IndexFunc_rcregionevery1_c23b8.l0] at H_21
  refine V_run hN hn 3 3 [0, 1, 7, 8, 9] [0, 1, 2] ⟨[(0, .c (.h 0)), (1, .c (.clo 47 [1])), (7, cI (lnI s_1)), (8, cI t_5), (9, cB (decide (t_5 < (lnI s_1))))], [(0, .row kP s_1), (1, .box [.clo 37 [2]]), (2, .box [.val (.int .i64 f_2), .imm (.slice kE) f_3])], 3⟩ [] (by kernel_rfl) rfl rfl ap0 ?_
  refine VL_cond ((decide (t_5 < (lnI s_1)))) (by kernel_rfl) ?_ ?_
  · intro b_8; have H_22 := of_t H_21 b_8
    refine V_run hN hn 2 3 [0, 1, 7, 8, 9] [0, 1, 2] ⟨[(0, .c (.h 0)), (1, .c (.clo 47 [1])), (7, cI (lnI s_1)), (8, cI t_5), (9, cB (decide (t_5 < (lnI s_1))))], [(0, .row kP s_1), (1, .box [.clo 37 [2]]), (2, .box [.val (.int .i64 f_2), .imm (.slice kE) f_3])], 3⟩ [] (by kernel_rfl) rfl rfl ap0 ?_
    refine VL_block ?_
    refine V_run hN hn 3 3 [0, 1, 5, 7, 8] [0, 1, 2] ⟨[(0, .c (.h 0)), (1, .c (.clo 47 [1])), (5, cI t_5), (7, cI (lnI s_1)), (8, cI t_5)], [(0, .row kP s_1), (1, .box [.clo 37 [2]]), (2, .box [.val (.int .i64 f_2), .imm (.slice kE) f_3])], 3⟩ [] (by kernel_rfl) rfl rfl ap0 ?_
    obtain ⟨r_11, h_12, H_24⟩ := of_bind H_22
    obtain ⟨c_13, H_25⟩ := of_if H_24
    refine V_reg hN hn [(5, ⟨47, 2, [.agg [.val (.int .i64 (List.getD s_1 (Int.toNat t_5) zP).1), .val (.int .i64 (List.getD s_1 (Int.toNat t_5) zP).2)], .c (.h 0)], [(0, .box [.clo 37 [1]]), (1, .box [.val (.int .i64 f_2), .imm (.slice kE) f_3])], cB r_11, [(0, .box [.clo 37 [1]]), (1, .box [.val (.int .i64 f_2), .imm (.slice kE) f_3])], [(0, 1), (1, 2)], 3⟩)] [] (calls_cons (region_every_1_sggb_77714_spec K (List.getD s_1 (Int.toNat t_5) zP).1 (List.getD s_1 (Int.toNat t_5) zP).2 f_2 f_3 r_11 h_12) (by kernel_rfl) calls_nil) 3 [0, 1, 5, 7, 8, 16] [0, 1, 2] ⟨[(0, .c (.h 0)), (1, .c (.clo 47 [1])), (5, cI t_5), (7, cI (lnI s_1)), (8, cI t_5), (16, cB r_11)], [(0, .row kP s_1), (1, .box [.clo 37 [2]]), (2, .box [.val (.int .i64 f_2), .imm (.slice kE) f_3])], 3⟩ [0 ≤ t_5, t_5 < (lnI s_1)] (by kernel_rfl) rfl rfl (ap2 c_13.1 (ap1 c_13.2)) (by kernel_rfl) (by kernel_rfl) ?_
    refine VL_cond (r_11) (by kernel_rfl) ?_ ?_
    · intro b_14; have H_26 := of_t H_25 b_14
      refine V_run hN hn 2 3 [4] [0, 1, 2] ⟨[(4, cI t_5)], [(0, .row kP s_1), (1, .box [.clo 37 [2]]), (2, .box [.val (.int .i64 f_2), .imm (.slice kE) f_3])], 3⟩ [] (by kernel_rfl) rfl rfl ap0 ?_
      have H_28 := Option.some.inj (show some t_5 = some r from H_26); subst H_28
      refine VL_ret ?_
      refine QB_ret ?_
      refine QL_ret ?_
      refine QB_ret ?_
      exact P_to [(4, cI t_5)] [(0, .row kP s_1), (1, .box [.clo 37 [2]]), (2, .box [.val (.int .i64 f_2), .imm (.slice kE) f_3])] [] hn (by kernel_rfl) (by kernel_rfl) rfl rfl rfl (QF_retS (by kernel_rfl) (by kernel_rfl) rfl)
    · intro b_14; have H_27 := of_f H_25 b_14
      refine V_run hN hn 1 3 [0, 1, 5, 7, 8, 16] [0, 1, 2] ⟨[(0, .c (.h 0)), (1, .c (.clo 47 [1])), (5, cI t_5), (7, cI (lnI s_1)), (8, cI t_5), (16, cB r_11)], [(0, .row kP s_1), (1, .box [.clo 37 [2]]), (2, .box [.val (.int .i64 f_2), .imm (.slice kE) f_3])], 3⟩ [] (by kernel_rfl) rfl rfl ap0 ?_
      refine VL_nil (QB_end ?_)
      refine V_run hN hn 1 3 [0, 1, 7, 8] [0, 1, 2] ⟨[(0, .c (.h 0)), (1, .c (.clo 47 [1])), (7, cI (lnI s_1)), (8, cI (w6 (t_5 + (1 : Int))))], [(0, .row kP s_1), (1, .box [.clo 37 [2]]), (2, .box [.val (.int .i64 f_2), .imm (.slice kE) f_3])], 3⟩ [] (by kernel_rfl) rfl rfl ap0 ?_
      refine VL_nil ?_
      exact V_roundEnd (w6 (t_5 + (1 : Int))) H_27 [] hn (by kernel_rfl) (by kernel_rfl) rfl rfl rfl
  · intro b_8; have H_23 := of_f H_21 b_8
    refine VL_exit ?_
    refine QL_exit ?_
    refine QB_here ?_
    refine V_run hN hn 2 3 [4] [0, 1, 2] ⟨[(4, cI (-1 : Int))], [(0, .row kP s_1), (1, .box [.clo 37 [2]]), (2, .box [.val (.int .i64 f_2), .imm (.slice kE) f_3])], 3⟩ [] (by kernel_rfl) rfl rfl ap0 ?_
    have H_29 := Option.some.inj (show some (-1 : Int) = some r from H_23); subst H_29
    refine VL_ret ?_
    exact P_to [(4, cI (-1 : Int))] [(0, .row kP s_1), (1, .box [.clo 37 [2]]), (2, .box [.val (.int .i64 f_2), .imm (.slice kE) f_3])] [] hn (by kernel_rfl) (by kernel_rfl) rfl rfl rfl (QF_retS (by kernel_rfl) (by kernel_rfl) rfl)

theorem slices_ContainsFunc_rcregionevery1_c23b8_spec (K : Nat) (s_1 : (List (Int × Int))) (f_2 : Int) (f_3 : (List (Int × (Int × ByteArray)))) (r : Bool) (H : slices_ContainsFunc_rcregionevery1_c23b8 K s_1 f_2 f_3 = some r) : Spec Try.prog 46 3 [.c (.h 0), .c (.clo 47 [1])] [(0, .row kP s_1), (1, .box [.clo 37 [2]]), (2, .box [.val (.int .i64 f_2), .imm (.slice kE) f_3])] (cB r) [(0, .row kP s_1), (1, .box [.clo 37 [2]]), (2, .box [.val (.int .i64 f_2), .imm (.slice kE) f_3])] := by
  refine Spec_mk (fn := Try.f46) (c := (Try.f46.body).get!) Try.func46 (by kernel_rfl) rfl ?_
  intro C hN hn
  replace hN : C.N = 9 := hN
  unfold slices_ContainsFunc_rcregionevery1_c23b8 at H
  refine V_run hN hn 3 3 [0, 1] [0, 1, 2] ⟨[(0, .c (.h 0)), (1, .c (.clo 47 [1]))], [(0, .row kP s_1), (1, .box [.clo 37 [2]]), (2, .box [.val (.int .i64 f_2), .imm (.slice kE) f_3])], 3⟩ [] (by kernel_rfl) rfl rfl ap0 ?_
  obtain ⟨r_5, h_6, H_9⟩ := of_bind H
  refine V_reg hN hn [(2, ⟨66, 3, [.c (.h 0), .c (.clo 47 [1])], [(0, .row kP s_1), (1, .box [.clo 37 [2]]), (2, .box [.val (.int .i64 f_2), .imm (.slice kE) f_3])], cI r_5, [(0, .row kP s_1), (1, .box [.clo 37 [2]]), (2, .box [.val (.int .i64 f_2), .imm (.slice kE) f_3])], [(0, 0), (1, 1), (2, 2)], 3⟩)] [] (calls_cons (slices_IndexFunc_rcregionevery1_c23b8_spec K s_1 f_2 f_3 r_5 h_6) (by kernel_rfl) calls_nil) 3 [4] [0, 1, 2] ⟨[(4, cB (decide (r_5 ≥ (0 : Int))))], [(0, .row kP s_1), (1, .box [.clo 37 [2]]), (2, .box [.val (.int .i64 f_2), .imm (.slice kE) f_3])], 3⟩ [] (by kernel_rfl) rfl rfl ap0 (by kernel_rfl) (by kernel_rfl) ?_
  have H_10 := Option.some.inj (show some (decide (r_5 ≥ (0 : Int))) = some r from H_9); subst H_10
  refine VL_ret ?_
  exact P_to [(4, cB (decide (r_5 ≥ (0 : Int))))] [(0, .row kP s_1), (1, .box [.clo 37 [2]]), (2, .box [.val (.int .i64 f_2), .imm (.slice kE) f_3])] [] hn (by kernel_rfl) (by kernel_rfl) rfl rfl rfl (QF_retS (by kernel_rfl) (by kernel_rfl) rfl)

theorem region_every_rcregionMove1_9db43_spec (K : Nat) (l_1 : (List (Int × Int))) (is_2 : Int) (is_3 : (List (Int × (Int × ByteArray)))) (r : Bool) (H : region_every_rcregionMove1_9db43 K l_1 is_2 is_3 = some r) : Spec Try.prog 27 2 [.c (.h 0), .c (.clo 37 [1])] [(0, .row kP l_1), (1, .box [.val (.int .i64 is_2), .imm (.slice kE) is_3])] (cB r) [(0, .row kP l_1), (1, .box [.val (.int .i64 is_2), .imm (.slice kE) is_3])] := by
  refine Spec_mk (fn := Try.f27) (c := (Try.f27.body).get!) Try.func27 (by kernel_rfl) rfl ?_
  intro C hN hn
  replace hN : C.N = 9 := hN
  unfold region_every_rcregionMove1_9db43 at H
  refine V_run hN hn 3 2 [0, 3] [0, 1, 2] ⟨[(0, .c (.h 0)), (3, .c (.h 2))], [(0, .row kP l_1), (1, .box [.val (.int .i64 is_2), .imm (.slice kE) is_3]), (2, .box [.clo 37 [1]])], 3⟩ [] (by kernel_rfl) rfl rfl ap0 ?_
  obtain ⟨r_5, h_6, H_9⟩ := of_bind H
  refine V_reg hN hn [(2, ⟨46, 3, [.c (.h 0), .c (.clo 47 [1])], [(0, .row kP l_1), (1, .box [.clo 37 [2]]), (2, .box [.val (.int .i64 is_2), .imm (.slice kE) is_3])], cB r_5, [(0, .row kP l_1), (1, .box [.clo 37 [2]]), (2, .box [.val (.int .i64 is_2), .imm (.slice kE) is_3])], [(0, 0), (1, 2), (2, 1)], 3⟩)] [] (calls_cons (slices_ContainsFunc_rcregionevery1_c23b8_spec K l_1 is_2 is_3 r_5 h_6) (by kernel_rfl) calls_nil) 3 [4] [0, 1] ⟨[(4, cB (!r_5))], [(0, .row kP l_1), (1, .box [.val (.int .i64 is_2), .imm (.slice kE) is_3])], 3⟩ [] (by kernel_rfl) rfl rfl ap0 (by kernel_rfl) (by kernel_rfl) ?_
  have H_10 := Option.some.inj (show some (!r_5) = some r from H_9); subst H_10
  refine VL_ret ?_
  exact P_to [(4, cB (!r_5))] [(0, .row kP l_1), (1, .box [.val (.int .i64 is_2), .imm (.slice kE) is_3])] [] hn (by kernel_rfl) (by kernel_rfl) rfl rfl rfl (QF_retS (by kernel_rfl) (by kernel_rfl) rfl)

theorem offset_Move_spec (K : Nat) (d_1 : Int) (d_2 : (List (Int × (Int × ByteArray)))) (at_3 : Int) (after_4 : Bool) (r : Int) (H : offset_Move K d_1 d_2 at_3 after_4 = some r) : Spec Try.prog 39 0 [.agg [.val (.int .i64 d_1), .imm (.slice kE) d_2], cI at_3, cB after_4] [] (cI r) [] := by
  refine Spec_mk (fn := Try.f39) (c := (Try.f39.body).get!) Try.func39 (by kernel_rfl) rfl ?_
  intro C hN hn
  replace hN : C.N = 61 := hN
  unfold offset_Move at H
  refine V_run hN hn 2 0 [1, 2, 3] [0] ⟨[(1, cI at_3), (2, cB after_4), (3, .c (.h 0))], [(0, .box [.val (.int .i64 d_1), .imm (.slice kE) d_2])], 1⟩ [] (by kernel_rfl) rfl rfl ap0 ?_
  refine VL_scope ?_
  refine V_run hN hn 2 1 [1, 2, 3] [0] ⟨[(1, cI at_3), (2, cB after_4), (3, .c (.h 0))], [(0, .box [.val (.int .i64 d_1), .imm (.slice kE) d_2])], 1⟩ [] (by kernel_rfl) rfl rfl ap0 ?_
  obtain ⟨r_7, h_8, H_43⟩ := of_bind H
  refine V_reg hN hn [(1, ⟨36, 0, [.agg [.val (.int .i64 d_1), .imm (.slice kE) d_2]], [], cB r_7, [], [], 1⟩)] [] (calls_cons (delta_Is_spec K d_1 d_2 r_7 h_8) (by kernel_rfl) calls_nil) 1 [1, 2, 3, 13] [0] ⟨[(1, cI at_3), (2, cB after_4), (3, .c (.h 0)), (13, cB (!r_7))], [(0, .box [.val (.int .i64 d_1), .imm (.slice kE) d_2])], 1⟩ [] (by kernel_rfl) rfl rfl ap0 (by kernel_rfl) (by kernel_rfl) ?_
  refine VL_cond ((!r_7)) (by kernel_rfl) ?_ ?_
  · intro b_10; have H_44 := of_t H_43 b_10
    refine V_run hN hn 2 1 [6] [] ⟨[(6, cI (0 : Int))], [], 1⟩ [] (by kernel_rfl) rfl rfl ap0 ?_
    have H_46 := Option.some.inj (show some (0 : Int) = some r from H_44); subst H_46
    refine VL_ret ?_
    refine QG_ret ?_
    exact P_to [(6, cI (0 : Int))] [] [] hn (by kernel_rfl) (by kernel_rfl) rfl rfl rfl (QF_retS (by kernel_rfl) (by kernel_rfl) rfl)
  · intro b_10; have H_45 := of_f H_43 b_10
    refine V_run hN hn 6 1 [1, 2, 3, 7, 8] [0] ⟨[(1, cI (mn2 (mx2 at_3 (0 : Int)) d_1)), (2, cB after_4), (3, .c (.h 0)), (7, cI (0 : Int)), (8, cI (0 : Int))], [(0, .box [.val (.int .i64 d_1), .imm (.slice kE) d_2])], 1⟩ [] (by kernel_rfl) rfl rfl ap0 ?_
    refine VL_label ?_
    refine V_run hN hn 3 1 [1, 2, 7, 8, 20, 21, 22] [] ⟨[(1, cI (mn2 (mx2 at_3 (0 : Int)) d_1)), (2, cB after_4), (7, cI (0 : Int)), (8, cI (0 : Int)), (20, .c (.imm (.slice kE) d_2)), (21, cI (lnI d_2)), (22, cI (0 : Int))], [], 1⟩ [] (by kernel_rfl) rfl rfl ap0 ?_
    obtain ⟨q_47, H_48, H_49⟩ := of_bind H_45
    refine V_cut (Y := (Int × Int)) (R := (Int × Int)) q_47 (fun y => y) (fun y => [(2, cB after_4), (7, cI y.1), (8, cI y.2)]) (fun y => []) ?_ ?_
    · skip
      refine VL_block ?_
      refine V_to [(1, cI (mn2 (mx2 at_3 (0 : Int)) d_1)), (2, cB after_4), (7, cI (0 : Int)), (8, cI (0 : Int)), (20, .c (.imm (.slice kE) d_2)), (21, cI (lnI d_2)), (22, cI (0 : Int))] [] [] hn (by kernel_rfl) (by kernel_rfl) rfl rfl rfl ?_
      refine VL_loop (X := (Int × Int × Int)) (fun x => [(1, cI (mn2 (mx2 at_3 (0 : Int)) d_1)), (2, cB after_4), (7, cI x.1), (8, cI x.2.1), (20, .c (.imm (.slice kE) d_2)), (21, cI (lnI d_2)), (22, cI x.2.2)]) (fun x => []) (fun k x => offset_Move.l0 K d_2 at_3 d_1 k x.1 x.2.1 x.2.2 = some q_47) K ((0 : Int), (0 : Int), (0 : Int)) H_48 (fun _ h => no_none h) ?_
      intro k_17 x_17 H_51
      obtain ⟨n_14, waits_15, t_16⟩ := x_17
      have H_52 : offset_Move.l0 K d_2 at_3 d_1 (k_17 + 1) n_14 waits_15 t_16 = some q_47 := H_51
      rw [offset_Move.l0] at H_52
      refine V_run hN hn 3 1 [1, 2, 7, 8, 20, 21, 22, 23] [] ⟨[(1, cI (mn2 (mx2 at_3 (0 : Int)) d_1)), (2, cB after_4), (7, cI n_14), (8, cI waits_15), (20, .c (.imm (.slice kE) d_2)), (21, cI (lnI d_2)), (22, cI t_16), (23, cB (decide (t_16 < (lnI d_2))))], [], 1⟩ [] (by kernel_rfl) rfl rfl ap0 ?_
      refine VL_cond ((decide (t_16 < (lnI d_2)))) (by kernel_rfl) ?_ ?_
      · intro b_19; have H_53 := of_t H_52 b_19
        refine V_run hN hn 2 1 [1, 2, 7, 8, 20, 21, 22, 23] [] ⟨[(1, cI (mn2 (mx2 at_3 (0 : Int)) d_1)), (2, cB after_4), (7, cI n_14), (8, cI waits_15), (20, .c (.imm (.slice kE) d_2)), (21, cI (lnI d_2)), (22, cI t_16), (23, cB (decide (t_16 < (lnI d_2))))], [], 1⟩ [] (by kernel_rfl) rfl rfl ap0 ?_
        refine VL_block ?_
        obtain ⟨c_21, H_55⟩ := of_if H_53
        refine V_run hN hn 2 1 [1, 2, 7, 8, 10, 20, 21, 22] [1] ⟨[(1, cI (mn2 (mx2 at_3 (0 : Int)) d_1)), (2, cB after_4), (7, cI n_14), (8, cI waits_15), (10, .c (.h 1)), (20, .c (.imm (.slice kE) d_2)), (21, cI (lnI d_2)), (22, cI t_16)], [(1, .box [.val (.int .i64 (List.getD d_2 (Int.toNat t_16) zE).1), .val (.int .i64 (List.getD d_2 (Int.toNat t_16) zE).2.1), .val (.string (List.getD d_2 (Int.toNat t_16) zE).2.2)])], 2⟩ [0 ≤ t_16, t_16 < (lnI d_2)] (by kernel_rfl) rfl rfl (ap2 c_21.1 (ap1 c_21.2)) ?_
        refine VL_block ?_
        refine V_run hN hn 1 2 [1, 2, 7, 8, 10, 20, 21, 22] [1] ⟨[(1, cI (mn2 (mx2 at_3 (0 : Int)) d_1)), (2, cB after_4), (7, cI n_14), (8, cI waits_15), (10, .c (.h 1)), (20, .c (.imm (.slice kE) d_2)), (21, cI (lnI d_2)), (22, cI t_16)], [(1, .box [.val (.int .i64 (List.getD d_2 (Int.toNat t_16) zE).1), .val (.int .i64 (List.getD d_2 (Int.toNat t_16) zE).2.1), .val (.string (List.getD d_2 (Int.toNat t_16) zE).2.2)])], 2⟩ [] (by kernel_rfl) rfl rfl ap0 ?_
        obtain ⟨r_23, h_24, H_56⟩ := of_bind H_55
        refine V_reg hN hn [(1, ⟨62, 0, [.agg [.val (.int .i64 (List.getD d_2 (Int.toNat t_16) zE).1), .val (.int .i64 (List.getD d_2 (Int.toNat t_16) zE).2.1), .val (.string (List.getD d_2 (Int.toNat t_16) zE).2.2)]], [], cB r_23, [], [], 2⟩)] [] (calls_cons (delta_IsCopy_spec K (List.getD d_2 (Int.toNat t_16) zE).1 (List.getD d_2 (Int.toNat t_16) zE).2.1 (List.getD d_2 (Int.toNat t_16) zE).2.2 r_23 h_24) (by kernel_rfl) calls_nil) 2 [1, 2, 7, 8, 10, 20, 21, 22, 41] [1] ⟨[(1, cI (mn2 (mx2 at_3 (0 : Int)) d_1)), (2, cB after_4), (7, cI n_14), (8, cI waits_15), (10, .c (.h 1)), (20, .c (.imm (.slice kE) d_2)), (21, cI (lnI d_2)), (22, cI t_16), (41, cB (!r_23))], [(1, .box [.val (.int .i64 (List.getD d_2 (Int.toNat t_16) zE).1), .val (.int .i64 (List.getD d_2 (Int.toNat t_16) zE).2.1), .val (.string (List.getD d_2 (Int.toNat t_16) zE).2.2)])], 2⟩ [] (by kernel_rfl) rfl rfl ap0 (by kernel_rfl) (by kernel_rfl) ?_
        refine VL_cond ((!r_23)) (by kernel_rfl) ?_ ?_
        · intro b_26; have H_57 := of_t H_56 b_26
          refine V_run hN hn 1 2 [1, 2, 7, 8, 20, 21, 22] [] ⟨[(1, cI (mn2 (mx2 at_3 (0 : Int)) d_1)), (2, cB after_4), (7, cI n_14), (8, cI (w6 (waits_15 + (((ByteArray.size (List.getD d_2 (Int.toNat t_16) zE).2.2) : Nat) : Int)))), (20, .c (.imm (.slice kE) d_2)), (21, cI (lnI d_2)), (22, cI t_16)], [], 2⟩ [] (by kernel_rfl) rfl rfl ap0 ?_
          refine VL_nil (QB_end ?_)
          refine VL_nil (QB_end ?_)
          refine V_run hN hn 1 2 [1, 2, 7, 8, 20, 21, 22] [] ⟨[(1, cI (mn2 (mx2 at_3 (0 : Int)) d_1)), (2, cB after_4), (7, cI n_14), (8, cI (w6 (waits_15 + (((ByteArray.size (List.getD d_2 (Int.toNat t_16) zE).2.2) : Nat) : Int)))), (20, .c (.imm (.slice kE) d_2)), (21, cI (lnI d_2)), (22, cI (w6 (t_16 + (1 : Int))))], [], 2⟩ [] (by kernel_rfl) rfl rfl ap0 ?_
          refine VL_nil ?_
          exact V_roundEnd (n_14, (w6 (waits_15 + (((ByteArray.size (List.getD d_2 (Int.toNat t_16) zE).2.2) : Nat) : Int))), (w6 (t_16 + (1 : Int)))) H_57 [] hn (by kernel_rfl) (by kernel_rfl) rfl rfl rfl
        · intro b_26; have H_58 := of_f H_56 b_26
          refine V_run hN hn 2 2 [1, 2, 7, 8, 10, 20, 21, 22, 50] [1] ⟨[(1, cI (mn2 (mx2 at_3 (0 : Int)) d_1)), (2, cB after_4), (7, cI n_14), (8, cI waits_15), (10, .c (.h 1)), (20, .c (.imm (.slice kE) d_2)), (21, cI (lnI d_2)), (22, cI t_16), (50, cB (decide ((List.getD d_2 (Int.toNat t_16) zE).1 ≥ (mn2 (mx2 at_3 (0 : Int)) d_1))))], [(1, .box [.val (.int .i64 (List.getD d_2 (Int.toNat t_16) zE).1), .val (.int .i64 (List.getD d_2 (Int.toNat t_16) zE).2.1), .val (.string (List.getD d_2 (Int.toNat t_16) zE).2.2)])], 2⟩ [] (by kernel_rfl) rfl rfl ap0 ?_
          refine VL_cond ((decide ((List.getD d_2 (Int.toNat t_16) zE).1 ≥ (mn2 (mx2 at_3 (0 : Int)) d_1)))) (by kernel_rfl) ?_ ?_
          · intro b_30; have H_59 := of_t H_58 b_30
            refine VL_exit ?_
            refine QB_out (by decide) ?_
            refine QB_out (by decide) ?_
            refine QL_exit ?_
            refine QB_here ?_
            have H_61 := Option.some.inj (show some (n_14, waits_15) = some q_47 from H_59); subst H_61
            refine VL_nil ?_
            exact QP_end (n_14, waits_15) rfl [] hn (by kernel_rfl) (by kernel_rfl) rfl rfl rfl
          · intro b_30; have H_60 := of_f H_58 b_30
            refine V_run hN hn 6 2 [1, 2, 7, 8, 20, 21, 22, 40] [] ⟨[(1, cI (mn2 (mx2 at_3 (0 : Int)) d_1)), (2, cB after_4), (7, cI (w6 (n_14 + (w6 ((w6 (waits_15 + (mn2 (List.getD d_2 (Int.toNat t_16) zE).2.1 (mn2 (mx2 at_3 (0 : Int)) d_1)))) - (List.getD d_2 (Int.toNat t_16) zE).1))))), (8, cI (0 : Int)), (20, .c (.imm (.slice kE) d_2)), (21, cI (lnI d_2)), (22, cI t_16), (40, cB (decide ((List.getD d_2 (Int.toNat t_16) zE).2.1 > (mn2 (mx2 at_3 (0 : Int)) d_1))))], [], 2⟩ [] (by kernel_rfl) rfl rfl ap0 ?_
            refine VL_cond ((decide ((List.getD d_2 (Int.toNat t_16) zE).2.1 > (mn2 (mx2 at_3 (0 : Int)) d_1)))) (by kernel_rfl) ?_ ?_
            · intro b_32; have H_62 := of_t H_60 b_32
              refine VL_exit ?_
              refine QB_out (by decide) ?_
              refine QB_out (by decide) ?_
              refine QL_exit ?_
              refine QB_here ?_
              have H_64 := Option.some.inj (show some ((w6 (n_14 + (w6 ((w6 (waits_15 + (mn2 (List.getD d_2 (Int.toNat t_16) zE).2.1 (mn2 (mx2 at_3 (0 : Int)) d_1)))) - (List.getD d_2 (Int.toNat t_16) zE).1)))), (0 : Int)) = some q_47 from H_62); subst H_64
              refine VL_nil ?_
              exact QP_end ((w6 (n_14 + (w6 ((w6 (waits_15 + (mn2 (List.getD d_2 (Int.toNat t_16) zE).2.1 (mn2 (mx2 at_3 (0 : Int)) d_1)))) - (List.getD d_2 (Int.toNat t_16) zE).1)))), (0 : Int)) rfl [] hn (by kernel_rfl) (by kernel_rfl) rfl rfl rfl
            · intro b_32; have H_63 := of_f H_60 b_32
              refine V_run hN hn 1 2 [1, 2, 7, 8, 20, 21, 22, 40] [] ⟨[(1, cI (mn2 (mx2 at_3 (0 : Int)) d_1)), (2, cB after_4), (7, cI (w6 (n_14 + (w6 ((w6 (waits_15 + (mn2 (List.getD d_2 (Int.toNat t_16) zE).2.1 (mn2 (mx2 at_3 (0 : Int)) d_1)))) - (List.getD d_2 (Int.toNat t_16) zE).1))))), (8, cI (0 : Int)), (20, .c (.imm (.slice kE) d_2)), (21, cI (lnI d_2)), (22, cI t_16), (40, cB (decide ((List.getD d_2 (Int.toNat t_16) zE).2.1 > (mn2 (mx2 at_3 (0 : Int)) d_1))))], [], 2⟩ [] (by kernel_rfl) rfl rfl ap0 ?_
              refine VL_nil (QB_end ?_)
              refine VL_nil (QB_end ?_)
              refine V_run hN hn 1 2 [1, 2, 7, 8, 20, 21, 22] [] ⟨[(1, cI (mn2 (mx2 at_3 (0 : Int)) d_1)), (2, cB after_4), (7, cI (w6 (n_14 + (w6 ((w6 (waits_15 + (mn2 (List.getD d_2 (Int.toNat t_16) zE).2.1 (mn2 (mx2 at_3 (0 : Int)) d_1)))) - (List.getD d_2 (Int.toNat t_16) zE).1))))), (8, cI (0 : Int)), (20, .c (.imm (.slice kE) d_2)), (21, cI (lnI d_2)), (22, cI (w6 (t_16 + (1 : Int))))], [], 2⟩ [] (by kernel_rfl) rfl rfl ap0 ?_
              refine VL_nil ?_
              exact V_roundEnd ((w6 (n_14 + (w6 ((w6 (waits_15 + (mn2 (List.getD d_2 (Int.toNat t_16) zE).2.1 (mn2 (mx2 at_3 (0 : Int)) d_1)))) - (List.getD d_2 (Int.toNat t_16) zE).1)))), (0 : Int), (w6 (t_16 + (1 : Int)))) H_63 [] hn (by kernel_rfl) (by kernel_rfl) rfl rfl rfl
      · intro b_19; have H_54 := of_f H_52 b_19
        refine VL_exit ?_
        refine QL_exit ?_
        refine QB_here ?_
        have H_65 := Option.some.inj (show some (n_14, waits_15) = some q_47 from H_54); subst H_65
        refine VL_nil ?_
        exact QP_end (n_14, waits_15) rfl [] hn (by kernel_rfl) (by kernel_rfl) rfl rfl rfl
    · intro y_50 hy; subst hy
      obtain ⟨n_35, waits_36⟩ := y_50
      refine V_run hN hn 3 2 [7, 8, 56] [] ⟨[(7, cI n_35), (8, cI waits_36), (56, cB after_4)], [], 2⟩ [] (by kernel_rfl) rfl rfl ap0 ?_
      refine VL_cond (after_4) (by kernel_rfl) ?_ ?_
      · intro b_38; have H_66 := of_t H_49 b_38
        refine V_run hN hn 3 2 [6] [] ⟨[(6, cI (w6 (n_35 + waits_36)))], [], 2⟩ [] (by kernel_rfl) rfl rfl ap0 ?_
        have H_68 := Option.some.inj (show some (w6 (n_35 + waits_36)) = some r from H_66); subst H_68
        refine VL_ret ?_
        refine QG_ret ?_
        exact P_to [(6, cI (w6 (n_35 + waits_36)))] [] [] hn (by kernel_rfl) (by kernel_rfl) rfl rfl rfl (QF_retS (by kernel_rfl) (by kernel_rfl) rfl)
      · intro b_38; have H_67 := of_f H_49 b_38
        refine V_run hN hn 3 2 [6] [] ⟨[(6, cI n_35)], [], 2⟩ [] (by kernel_rfl) rfl rfl ap0 ?_
        have H_69 := Option.some.inj (show some n_35 = some r from H_67); subst H_69
        refine VL_ret ?_
        refine QG_ret ?_
        exact P_to [(6, cI n_35)] [] [] hn (by kernel_rfl) (by kernel_rfl) rfl rfl rfl (QF_retS (by kernel_rfl) (by kernel_rfl) rfl)

theorem region_Move_rsgg_spec (K : Nat) (l_1 : (List (Int × Int))) (d_2 : Int) (d_3 : (List (Int × (Int × ByteArray)))) (r : ((List (Int × Int)) × Int)) (H : region_Move_rsgg K l_1 d_2 d_3 = some r) : Spec Try.prog 14 1 [.c (.h 0), .agg [.val (.int .i64 d_2), .imm (.slice kE) d_3]] [(0, .row kP l_1)] (.tup [(false, [.h 8]), (false, [.val (.int .i64 r.2)])]) [(0, .row kP l_1), (8, .row kP r.1)] := by
  refine Spec_mk (fn := Try.f14) (c := (Try.f14.body).get!) Try.func14 (by kernel_rfl) rfl ?_
  intro C hN hn
  replace hN : C.N = 50 := hN
  unfold region_Move_rsgg at H
  refine V_run hN hn 4 1 [0, 3] [0, 1] ⟨[(0, .c (.h 0)), (3, .c (.h 1))], [(0, .row kP l_1), (1, .box [.val (.int .i64 d_2), .imm (.slice kE) d_3])], 2⟩ [] (by kernel_rfl) rfl rfl ap0 ?_
  obtain ⟨q_58, H_59, H_60⟩ := of_bind H
  refine V_cut (Y := Bool) (R := Bool) q_58 (fun y => y) (fun y => [(0, .c (.h 0)), (3, .c (.h 1)), (23, cB y)]) (fun y => [(0, .row kP l_1), (1, .box [.val (.int .i64 d_2), .imm (.slice kE) d_3])]) ?_ ?_
  · skip
    obtain ⟨r_5, h_6, H_62⟩ := of_bind H_59
    rcases Bool.eq_false_or_eq_true ((!r_5)) with b_7 | b_7
    · have H_63 := of_t H_62 b_7
      refine V_reg hN hn [(1, ⟨36, 0, [.agg [.val (.int .i64 d_2), .imm (.slice kE) d_3]], [], cB r_5, [], [], 2⟩)] [(13, true)] (calls_cons (delta_Is_spec K d_2 d_3 r_5 h_6) (by kernel_rfl) calls_nil) 2 [0, 3, 23] [0, 1] ⟨[(0, .c (.h 0)), (3, .c (.h 1)), (23, cB true)], [(0, .row kP l_1), (1, .box [.val (.int .i64 d_2), .imm (.slice kE) d_3])], 2⟩ [(!r_5) = true] (by kernel_rfl) rfl rfl (ap1 b_7) (by kernel_rfl) (by kernel_rfl) ?_
      have H_65 := Option.some.inj (show some true = some q_58 from H_63); subst H_65
      refine VL_nil ?_
      exact QP_end true rfl [(1, 1)] hn (by kernel_rfl) (by kernel_rfl) rfl rfl rfl
    · have H_64 := of_f H_62 b_7
      rcases Bool.eq_false_or_eq_true (((lnI l_1) == (0 : Int))) with b_9 | b_9
      · have H_66 := of_t H_64 b_9
        refine V_reg hN hn [(1, ⟨36, 0, [.agg [.val (.int .i64 d_2), .imm (.slice kE) d_3]], [], cB r_5, [], [], 2⟩)] [(13, false), (18, true)] (calls_cons (delta_Is_spec K d_2 d_3 r_5 h_6) (by kernel_rfl) calls_nil) 2 [0, 3, 23] [0, 1] ⟨[(0, .c (.h 0)), (3, .c (.h 1)), (23, cB true)], [(0, .row kP l_1), (1, .box [.val (.int .i64 d_2), .imm (.slice kE) d_3])], 2⟩ [(!r_5) = false, ((lnI l_1) == (0 : Int)) = true] (by kernel_rfl) rfl rfl (ap2 b_7 (ap1 b_9)) (by kernel_rfl) (by kernel_rfl) ?_
        have H_68 := Option.some.inj (show some true = some q_58 from H_66); subst H_68
        refine VL_nil ?_
        exact QP_end true rfl [(1, 1)] hn (by kernel_rfl) (by kernel_rfl) rfl rfl rfl
      · have H_67 := of_f H_64 b_9
        obtain ⟨r_11, h_12, H_69⟩ := of_bind H_67
        refine V_reg hN hn [(1, ⟨36, 0, [.agg [.val (.int .i64 d_2), .imm (.slice kE) d_3]], [], cB r_5, [], [], 2⟩), (11, ⟨27, 2, [.c (.h 0), .c (.clo 37 [1])], [(0, .row kP l_1), (1, .box [.val (.int .i64 d_2), .imm (.slice kE) d_3])], cB r_11, [(0, .row kP l_1), (1, .box [.val (.int .i64 d_2), .imm (.slice kE) d_3])], [(0, 0), (1, 1)], 2⟩)] [(13, false), (18, false)] (calls_cons (delta_Is_spec K d_2 d_3 r_5 h_6) (by kernel_rfl) (calls_cons (region_every_rcregionMove1_9db43_spec K l_1 d_2 d_3 r_11 h_12) (by kernel_rfl) calls_nil)) 2 [0, 3, 23] [0, 1] ⟨[(0, .c (.h 0)), (3, .c (.h 1)), (23, cB (!r_11))], [(0, .row kP l_1), (1, .box [.val (.int .i64 d_2), .imm (.slice kE) d_3])], 2⟩ [(!r_5) = false, ((lnI l_1) == (0 : Int)) = false] (by kernel_rfl) rfl rfl (ap2 b_7 (ap1 b_9)) (by kernel_rfl) (by kernel_rfl) ?_
        have H_70 := Option.some.inj (show some (!r_11) = some q_58 from H_69); subst H_70
        refine VL_nil ?_
        exact QP_end (!r_11) rfl [(1, 1)] hn (by kernel_rfl) (by kernel_rfl) rfl rfl rfl
  · intro y_61 hy; subst hy
    skip
    skip
    refine VL_cond (y_61) (by kernel_rfl) ?_ ?_
    · intro b_15; have H_71 := of_t H_60 b_15
      refine V_run hN hn 2 2 [4, 5] [0] ⟨[(4, .c (.val (.slice none 0 0))), (5, cI (12 : Int))], [(0, .row kP l_1)], 2⟩ [] (by kernel_rfl) rfl rfl ap0 ?_
      have H_73 := Option.some.inj (show some (([] : List (Int × Int)), (12 : Int)) = some r from H_71); subst H_73
      refine VL_ret ?_
      refine P_ghost [.nilSlot 4 kP] 2 hn [4, 5] [0, 2] ⟨[(4, .c (.h 2)), (5, cI (12 : Int))], [(0, .row kP l_1), (2, .row kP ([] : List (Int × Int)))], 3⟩ (by kernel_rfl) rfl rfl ?_
      exact P_to [(4, .c (.h 8)), (5, cI (12 : Int))] [(0, .row kP l_1), (8, .row kP ([] : List (Int × Int)))] [(8, 2)] hn (by kernel_rfl) (by kernel_rfl) rfl rfl rfl (QF_retS (by kernel_rfl) (by kernel_rfl) rfl)
    · intro b_15; have H_72 := of_f H_60 b_15
      refine V_run hN hn 3 2 [0, 3, 23] [0, 1] ⟨[(0, .c (.h 0)), (3, .c (.h 1)), (23, cB y_61)], [(0, .row kP l_1), (1, .box [.val (.int .i64 d_2), .imm (.slice kE) d_3])], 2⟩ [] (by kernel_rfl) rfl rfl ap0 ?_
      obtain ⟨r_18, h_19, H_74⟩ := of_bind H_72
      refine V_reg hN hn [(1, ⟨26, 1, [.c (.h 0)], [(0, .row kP l_1)], cI r_18, [(0, .row kP l_1)], [(0, 0)], 2⟩)] [] (calls_cons (region_count_r_spec K l_1 r_18 h_19) (by kernel_rfl) calls_nil) 2 [0, 3, 6] [0, 1] ⟨[(0, .c (.h 0)), (3, .c (.h 1)), (6, cI r_18)], [(0, .row kP l_1), (1, .box [.val (.int .i64 d_2), .imm (.slice kE) d_3])], 2⟩ [] (by kernel_rfl) rfl rfl ap0 (by kernel_rfl) (by kernel_rfl) ?_
      refine V_run hN hn 2 2 [0, 3, 6, 27] [0, 1] ⟨[(0, .c (.h 0)), (3, .c (.h 1)), (6, cI r_18), (27, cB (r_18 != (0 : Int)))], [(0, .row kP l_1), (1, .box [.val (.int .i64 d_2), .imm (.slice kE) d_3])], 2⟩ [] (by kernel_rfl) rfl rfl ap0 ?_
      refine VL_cond ((r_18 != (0 : Int))) (by kernel_rfl) ?_ ?_
      · intro b_22; have H_75 := of_t H_74 b_22
        refine V_run hN hn 2 2 [4, 5] [0] ⟨[(4, .c (.val (.slice none 0 0))), (5, cI r_18)], [(0, .row kP l_1)], 2⟩ [] (by kernel_rfl) rfl rfl ap0 ?_
        have H_77 := Option.some.inj (show some (([] : List (Int × Int)), r_18) = some r from H_75); subst H_77
        refine VL_ret ?_
        refine P_ghost [.nilSlot 4 kP] 2 hn [4, 5] [0, 2] ⟨[(4, .c (.h 2)), (5, cI r_18)], [(0, .row kP l_1), (2, .row kP ([] : List (Int × Int)))], 3⟩ (by kernel_rfl) rfl rfl ?_
        exact P_to [(4, .c (.h 8)), (5, cI r_18)] [(0, .row kP l_1), (8, .row kP ([] : List (Int × Int)))] [(8, 2)] hn (by kernel_rfl) (by kernel_rfl) rfl rfl rfl (QF_retS (by kernel_rfl) (by kernel_rfl) rfl)
      · intro b_22; have H_76 := of_f H_74 b_22
        refine V_run hN hn 6 2 [3, 7, 29, 30, 31] [0, 1] ⟨[(3, .c (.h 1)), (7, .c (.val (.slice none 0 0))), (29, .c (.h 0)), (30, cI (lnI l_1)), (31, cI (0 : Int))], [(0, .row kP l_1), (1, .box [.val (.int .i64 d_2), .imm (.slice kE) d_3])], 2⟩ [] (by kernel_rfl) rfl rfl ap0 ?_
        obtain ⟨q_78, H_79, H_80⟩ := of_bind H_76
        refine V_cut (Y := (List (Int × Int))) (R := (List (Int × Int))) q_78 (fun y => y) (fun y => [(7, .c (.h 6))]) (fun y => [(0, .row kP l_1), (6, .row kP y)]) ?_ ?_
        · skip
          refine VL_block ?_
          refine V_ghost [.nilSlot 7 kP] 2 hn [3, 7, 29, 30, 31] [0, 1, 2] ⟨[(3, .c (.h 1)), (7, .c (.h 2)), (29, .c (.h 0)), (30, cI (lnI l_1)), (31, cI (0 : Int))], [(0, .row kP l_1), (1, .box [.val (.int .i64 d_2), .imm (.slice kE) d_3]), (2, .row kP ([] : List (Int × Int)))], 3⟩ (by kernel_rfl) rfl rfl ?_
          refine V_to [(3, .c (.h 1)), (7, .c (.h 6)), (29, .c (.h 0)), (30, cI (lnI l_1)), (31, cI (0 : Int))] [(0, .row kP l_1), (1, .box [.val (.int .i64 d_2), .imm (.slice kE) d_3]), (6, .row kP ([] : List (Int × Int)))] [(1, 1), (6, 2)] hn (by kernel_rfl) (by kernel_rfl) rfl rfl rfl ?_
          refine VL_loop (X := ((List (Int × Int)) × Int)) (fun x => [(3, .c (.h 1)), (7, .c (.h 6)), (29, .c (.h 0)), (30, cI (lnI l_1)), (31, cI x.2)]) (fun x => [(0, .row kP l_1), (1, .box [.val (.int .i64 d_2), .imm (.slice kE) d_3]), (6, .row kP x.1)]) (fun k x => region_Move_rsgg.l0 K l_1 d_2 d_3 k x.1 x.2 = some q_78) K (([] : List (Int × Int)), (0 : Int)) H_79 (fun _ h => no_none h) ?_
          intro k_38 x_38 H_82
          obtain ⟨out_37, t_25⟩ := x_38
          have H_83 : region_Move_rsgg.l0 K l_1 d_2 d_3 (k_38 + 1) out_37 t_25 = some q_78 := H_82
          rw [region_Move_rsgg.l0] at H_83
          refine V_run hN hn 3 7 [3, 7, 29, 30, 31, 32] [0, 1, 6] ⟨[(3, .c (.h 1)), (7, .c (.h 6)), (29, .c (.h 0)), (30, cI (lnI l_1)), (31, cI t_25), (32, cB (decide (t_25 < (lnI l_1))))], [(0, .row kP l_1), (1, .box [.val (.int .i64 d_2), .imm (.slice kE) d_3]), (6, .row kP out_37)], 7⟩ [] (by kernel_rfl) rfl rfl ap0 ?_
          refine VL_cond ((decide (t_25 < (lnI l_1)))) (by kernel_rfl) ?_ ?_
          · intro b_40; have H_84 := of_t H_83 b_40
            refine V_run hN hn 2 7 [3, 7, 29, 30, 31, 32] [0, 1, 6] ⟨[(3, .c (.h 1)), (7, .c (.h 6)), (29, .c (.h 0)), (30, cI (lnI l_1)), (31, cI t_25), (32, cB (decide (t_25 < (lnI l_1))))], [(0, .row kP l_1), (1, .box [.val (.int .i64 d_2), .imm (.slice kE) d_3]), (6, .row kP out_37)], 7⟩ [] (by kernel_rfl) rfl rfl ap0 ?_
            refine VL_block ?_
            obtain ⟨c_42, H_86⟩ := of_if H_84
            refine V_run hN hn 2 7 [3, 7, 9, 29, 30, 31] [0, 1, 6, 7] ⟨[(3, .c (.h 1)), (7, .c (.h 6)), (9, .c (.h 7)), (29, .c (.h 0)), (30, cI (lnI l_1)), (31, cI t_25)], [(0, .row kP l_1), (1, .box [.val (.int .i64 d_2), .imm (.slice kE) d_3]), (6, .row kP out_37), (7, .box [.val (.int .i64 (List.getD l_1 (Int.toNat t_25) zP).1), .val (.int .i64 (List.getD l_1 (Int.toNat t_25) zP).2)])], 8⟩ [0 ≤ t_25, t_25 < (lnI l_1)] (by kernel_rfl) rfl rfl (ap2 c_42.1 (ap1 c_42.2)) ?_
            obtain ⟨r_43, h_44, H_87⟩ := of_bind H_86
            obtain ⟨r_45, h_46, H_88⟩ := of_bind H_87
            obtain ⟨c_47, H_89⟩ := of_if H_88
            refine V_draw hN hn (by kernel_rfl) [(4, ⟨39, 0, [.agg [.val (.int .i64 d_2), .imm (.slice kE) d_3], .c (.val (.int .i64 (List.getD l_1 (Int.toNat t_25) zP).1)), cB true], [], cI r_43, [], [], 8⟩), (8, ⟨39, 0, [.agg [.val (.int .i64 d_2), .imm (.slice kE) d_3], .c (.val (.int .i64 (List.getD l_1 (Int.toNat t_25) zP).2)), cB true], [], cI r_45, [], [], 8⟩)] [] (calls_cons (offset_Move_spec K d_2 d_3 (List.getD l_1 (Int.toNat t_25) zP).1 true r_43 h_44) (by kernel_rfl) (calls_cons (offset_Move_spec K d_2 d_3 (List.getD l_1 (Int.toNat t_25) zP).2 true r_45 h_46) (by kernel_rfl) calls_nil)) 8 [3, 7, 29, 30, 31] [0, 1, 9] ⟨[(3, .c (.h 1)), (7, .c (.h 9)), (29, .c (.h 0)), (30, cI (lnI l_1)), (31, cI t_25)], [(0, .row kP l_1), (1, .box [.val (.int .i64 d_2), .imm (.slice kE) d_3]), (9, .row kP (out_37 ++ ([(r_43, r_45)] : List (Int × Int))))], 10⟩ [(List.length out_37 + List.length ([(r_43, r_45)] : List (Int × Int))) * 16 ≤ 140737488355328] (by kernel_rfl) rfl rfl (ap1 c_47) (by kernel_rfl) (by kernel_rfl) ?_
            refine VL_nil (QB_end ?_)
            refine V_run hN hn 1 10 [3, 7, 29, 30, 31] [0, 1, 9] ⟨[(3, .c (.h 1)), (7, .c (.h 9)), (29, .c (.h 0)), (30, cI (lnI l_1)), (31, cI (w6 (t_25 + (1 : Int))))], [(0, .row kP l_1), (1, .box [.val (.int .i64 d_2), .imm (.slice kE) d_3]), (9, .row kP (out_37 ++ ([(r_43, r_45)] : List (Int × Int))))], 10⟩ [] (by kernel_rfl) rfl rfl ap0 ?_
            refine VL_nil ?_
            exact V_roundEnd ((out_37 ++ ([(r_43, r_45)] : List (Int × Int))), (w6 (t_25 + (1 : Int)))) H_89 [(1, 1), (6, 9)] hn (by kernel_rfl) (by kernel_rfl) rfl rfl rfl
          · intro b_40; have H_85 := of_f H_83 b_40
            refine VL_exit ?_
            refine QL_exit ?_
            refine QB_here ?_
            have H_90 := Option.some.inj (show some out_37 = some q_78 from H_85); subst H_90
            refine VL_nil ?_
            exact QP_end out_37 rfl [(6, 6)] hn (by kernel_rfl) (by kernel_rfl) rfl rfl rfl
        · intro y_81 hy; subst hy
          skip
          skip
          refine V_run hN hn 1 7 [7] [0, 6] ⟨[(7, .c (.h 6))], [(0, .row kP l_1), (6, .row kP y_81)], 7⟩ [] (by kernel_rfl) rfl rfl ap0 ?_
          refine V_ghost [.shut 6] 7 hn [7] [0] ⟨[(7, .c (.imm (.slice kP) y_81))], [(0, .row kP l_1)], 7⟩ (by kernel_rfl) rfl rfl ?_
          obtain ⟨r_51, h_52, H_91⟩ := of_bind H_80
          refine V_reg hN hn [(1, ⟨30, 0, [.c (.imm (.slice kP) y_81)], [], .c (.h 1), [(1, .row kP r_51)], [(1, 7)], 8⟩)] [] (calls_cons (region_apart_spec K y_81 r_51 h_52) (by kernel_rfl) calls_nil) 7 [4, 5] [0, 7] ⟨[(4, .c (.h 7)), (5, cI (0 : Int))], [(0, .row kP l_1), (7, .row kP r_51)], 8⟩ [] (by kernel_rfl) rfl rfl ap0 (by kernel_rfl) (by kernel_rfl) ?_
          have H_92 := Option.some.inj (show some (r_51, (0 : Int)) = some r from H_91); subst H_92
          refine VL_ret ?_
          exact P_to [(4, .c (.h 8)), (5, cI (0 : Int))] [(0, .row kP l_1), (8, .row kP r_51)] [(8, 7)] hn (by kernel_rfl) (by kernel_rfl) rfl rfl rfl (QF_retS (by kernel_rfl) (by kernel_rfl) rfl)

theorem region_Is_rg_spec (K : Nat) (l_1 : (List (Int × Int))) (s_2 : ByteArray) (r : Bool) (H : region_Is_rg K l_1 s_2 = some r) : Spec Try.prog 10 1 [.c (.h 0), cS s_2] [(0, .row kP l_1)] (cB r) [(0, .row kP l_1)] := by
  refine Spec_mk (fn := Try.f10) (c := (Try.f10.body).get!) Try.func10 (by kernel_rfl) rfl ?_
  intro C hN hn
  replace hN : C.N = 48 := hN
  unfold region_Is_rg at H
  refine V_run hN hn 4 1 [0, 1] [0] ⟨[(0, .c (.h 0)), (1, cS s_2)], [(0, .row kP l_1)], 1⟩ [] (by kernel_rfl) rfl rfl ap0 ?_
  obtain ⟨q_41, H_42, H_43⟩ := of_bind H
  refine V_cut (Y := Bool) (R := Bool) q_41 (fun y => y) (fun y => [(0, .c (.h 0)), (27, cB y)]) (fun y => [(0, .row kP l_1)]) ?_ ?_
  · skip
    rcases Bool.eq_false_or_eq_true ((decide ((lnI l_1) < (1 : Int)))) with b_4 | b_4
    · have H_45 := of_t H_42 b_4
      refine V_reg hN hn [] [(9, true)] calls_nil 1 [0, 27] [0] ⟨[(0, .c (.h 0)), (27, cB true)], [(0, .row kP l_1)], 1⟩ [(decide ((lnI l_1) < (1 : Int))) = true] (by kernel_rfl) rfl rfl (ap1 b_4) (by kernel_rfl) (by kernel_rfl) ?_
      have H_47 := Option.some.inj (show some true = some q_41 from H_45); subst H_47
      refine VL_nil ?_
      exact QP_end true rfl [] hn (by kernel_rfl) (by kernel_rfl) rfl rfl rfl
    · have H_46 := of_f H_42 b_4
      rcases Bool.eq_false_or_eq_true ((decide ((lnI l_1) > (8 : Int)))) with b_6 | b_6
      · have H_48 := of_t H_46 b_6
        refine V_reg hN hn [] [(9, false), (14, true)] calls_nil 1 [0, 27] [0] ⟨[(0, .c (.h 0)), (27, cB true)], [(0, .row kP l_1)], 1⟩ [(decide ((lnI l_1) < (1 : Int))) = false, (decide ((lnI l_1) > (8 : Int))) = true] (by kernel_rfl) rfl rfl (ap2 b_4 (ap1 b_6)) (by kernel_rfl) (by kernel_rfl) ?_
        have H_50 := Option.some.inj (show some true = some q_41 from H_48); subst H_50
        refine VL_nil ?_
        exact QP_end true rfl [] hn (by kernel_rfl) (by kernel_rfl) rfl rfl rfl
      · have H_49 := of_f H_46 b_6
        obtain ⟨r_8, h_9, H_51⟩ := of_bind H_49
        obtain ⟨r_10, h_11, H_52⟩ := of_bind H_51
        rcases Bool.eq_false_or_eq_true ((!r_10)) with b_12 | b_12
        · have H_53 := of_t H_52 b_12
          refine V_reg hN hn [(11, ⟨28, 0, [cS s_2], [], .c (.clo 48 [0]), [(0, .box [.val (.string s_2)])], [(0, 1)], 2⟩), (12, ⟨27, 2, [.c (.h 0), .c (.clo 48 [1])], [(0, .row kP l_1), (1, .box [.val (.string s_2)])], cB r_10, [(0, .row kP l_1), (1, .box [.val (.string s_2)])], [(0, 0), (1, 1)], 2⟩)] [(9, false), (14, false), (21, true)] (calls_cons (region_inside_spec K s_2 r_8 h_9) (by kernel_rfl) (calls_cons (region_every_rcregioninside1_2e7a3_spec K l_1 s_2 r_10 h_11) (by kernel_rfl) calls_nil)) 1 [0, 27] [0] ⟨[(0, .c (.h 0)), (27, cB true)], [(0, .row kP l_1)], 2⟩ [(decide ((lnI l_1) < (1 : Int))) = false, (decide ((lnI l_1) > (8 : Int))) = false, (!r_10) = true] (by kernel_rfl) rfl rfl (ap2 b_4 (ap2 b_6 (ap1 b_12))) (by kernel_rfl) (by kernel_rfl) ?_
          have H_55 := Option.some.inj (show some true = some q_41 from H_53); subst H_55
          refine VL_nil ?_
          exact QP_end true rfl [] hn (by kernel_rfl) (by kernel_rfl) rfl rfl rfl
        · have H_54 := of_f H_52 b_12
          obtain ⟨r_14, h_15, H_56⟩ := of_bind H_54
          obtain ⟨r_16, h_17, H_57⟩ := of_bind H_56
          refine V_reg hN hn [(11, ⟨28, 0, [cS s_2], [], .c (.clo 48 [0]), [(0, .box [.val (.string s_2)])], [(0, 1)], 2⟩), (12, ⟨27, 2, [.c (.h 0), .c (.clo 48 [1])], [(0, .row kP l_1), (1, .box [.val (.string s_2)])], cB r_10, [(0, .row kP l_1), (1, .box [.val (.string s_2)])], [(0, 0), (1, 1)], 2⟩), (18, ⟨29, 0, [cS s_2], [], .c (.clo 49 [0]), [(0, .box [.val (.string s_2)])], [(0, 2)], 3⟩), (19, ⟨27, 2, [.c (.h 0), .c (.clo 49 [1])], [(0, .row kP l_1), (1, .box [.val (.string s_2)])], cB r_16, [(0, .row kP l_1), (1, .box [.val (.string s_2)])], [(0, 0), (1, 2)], 3⟩)] [(9, false), (14, false), (21, false)] (calls_cons (region_inside_spec K s_2 r_8 h_9) (by kernel_rfl) (calls_cons (region_every_rcregioninside1_2e7a3_spec K l_1 s_2 r_10 h_11) (by kernel_rfl) (calls_cons (region_edges_spec K s_2 r_14 h_15) (by kernel_rfl) (calls_cons (region_every_rcregionedges1_83797_spec K l_1 s_2 r_16 h_17) (by kernel_rfl) calls_nil)))) 1 [0, 27] [0] ⟨[(0, .c (.h 0)), (27, cB (!r_16))], [(0, .row kP l_1)], 3⟩ [(decide ((lnI l_1) < (1 : Int))) = false, (decide ((lnI l_1) > (8 : Int))) = false, (!r_10) = false] (by kernel_rfl) rfl rfl (ap2 b_4 (ap2 b_6 (ap1 b_12))) (by kernel_rfl) (by kernel_rfl) ?_
          have H_58 := Option.some.inj (show some (!r_16) = some q_41 from H_57); subst H_58
          refine VL_nil ?_
          exact QP_end (!r_16) rfl [] hn (by kernel_rfl) (by kernel_rfl) rfl rfl rfl
  · intro y_44 hy; subst hy
    skip
    skip
    refine VL_cond (y_44) (by kernel_rfl) ?_ ?_
    · intro b_20; have H_59 := of_t H_43 b_20
      refine V_run hN hn 2 3 [4] [0] ⟨[(4, cB false)], [(0, .row kP l_1)], 3⟩ [] (by kernel_rfl) rfl rfl ap0 ?_
      have H_61 := Option.some.inj (show some false = some r from H_59); subst H_61
      refine VL_ret ?_
      exact P_to [(4, cB false)] [(0, .row kP l_1)] [] hn (by kernel_rfl) (by kernel_rfl) rfl rfl rfl (QF_retS (by kernel_rfl) (by kernel_rfl) rfl)
    · intro b_20; have H_60 := of_f H_43 b_20
      refine V_run hN hn 4 3 [0, 5] [0] ⟨[(0, .c (.h 0)), (5, cI (1 : Int))], [(0, .row kP l_1)], 3⟩ [] (by kernel_rfl) rfl rfl ap0 ?_
      refine VL_block ?_
      refine V_to [(0, .c (.h 0)), (5, cI (1 : Int))] [(0, .row kP l_1)] [] hn (by kernel_rfl) (by kernel_rfl) rfl rfl rfl ?_
      refine VL_loop (X := Int) (fun x => [(0, .c (.h 0)), (5, cI x)]) (fun x => [(0, .row kP l_1)]) (fun k x => region_Is_rg.l0 K l_1 k x = some r) K (1 : Int) H_60 (fun _ h => no_none h) ?_
      intro k_24 i_23 H_62
      have H_63 : region_Is_rg.l0 K l_1 (k_24 + 1) i_23 = some r := H_62
      rw [region_Is_rg.l0] at H_63
      refine V_run hN hn 3 3 [0, 5, 31] [0] ⟨[(0, .c (.h 0)), (5, cI i_23), (31, cB (decide (i_23 < (lnI l_1))))], [(0, .row kP l_1)], 3⟩ [] (by kernel_rfl) rfl rfl ap0 ?_
      refine VL_cond ((decide (i_23 < (lnI l_1)))) (by kernel_rfl) ?_ ?_
      · intro b_26; have H_64 := of_t H_63 b_26
        refine V_run hN hn 2 3 [0, 5, 31] [0] ⟨[(0, .c (.h 0)), (5, cI i_23), (31, cB (decide (i_23 < (lnI l_1))))], [(0, .row kP l_1)], 3⟩ [] (by kernel_rfl) rfl rfl ap0 ?_
        refine VL_block ?_
        refine V_run hN hn 1 3 [0, 5, 31] [0] ⟨[(0, .c (.h 0)), (5, cI i_23), (31, cB (decide (i_23 < (lnI l_1))))], [(0, .row kP l_1)], 3⟩ [] (by kernel_rfl) rfl rfl ap0 ?_
        obtain ⟨r_29, h_30, H_66⟩ := of_bind H_64
        obtain ⟨r_31, h_32, H_67⟩ := of_bind H_66
        obtain ⟨c_33, H_68⟩ := of_if H_67
        refine V_draw hN hn (by kernel_rfl) [(4, ⟨21, 0, [.agg [.val (.int .i64 (List.getD l_1 (Int.toNat i_23) zP).1), .val (.int .i64 (List.getD l_1 (Int.toNat i_23) zP).2)]], [], .agg [.val (.int .i64 r_29.1), .val (.int .i64 r_29.2)], [], [], 3⟩), (11, ⟨21, 0, [.agg [.val (.int .i64 (List.getD l_1 (Int.toNat (w6 (i_23 - (1 : Int)))) zP).1), .val (.int .i64 (List.getD l_1 (Int.toNat (w6 (i_23 - (1 : Int)))) zP).2)]], [], .agg [.val (.int .i64 r_31.1), .val (.int .i64 r_31.2)], [], [], 3⟩)] [] (calls_cons (region_Span_spec K (List.getD l_1 (Int.toNat i_23) zP).1 (List.getD l_1 (Int.toNat i_23) zP).2 r_29 h_30) (by kernel_rfl) (calls_cons (region_Span_spec K (List.getD l_1 (Int.toNat (w6 (i_23 - (1 : Int)))) zP).1 (List.getD l_1 (Int.toNat (w6 (i_23 - (1 : Int)))) zP).2 r_31 h_32) (by kernel_rfl) calls_nil)) 3 [0, 5, 47] [0] ⟨[(0, .c (.h 0)), (5, cI i_23), (47, cB (decide (r_29.1 ≤ r_31.2)))], [(0, .row kP l_1)], 3⟩ [0 ≤ i_23, i_23 < (lnI l_1), 0 ≤ (w6 (i_23 - (1 : Int))), (w6 (i_23 - (1 : Int))) < (lnI l_1)] (by kernel_rfl) rfl rfl (ap2 c_33.1 (ap2 c_33.2.1 (ap2 c_33.2.2.1 (ap1 c_33.2.2.2)))) (by kernel_rfl) (by kernel_rfl) ?_
        refine VL_cond ((decide (r_29.1 ≤ r_31.2))) (by kernel_rfl) ?_ ?_
        · intro b_34; have H_69 := of_t H_68 b_34
          refine V_run hN hn 2 3 [4] [0] ⟨[(4, cB false)], [(0, .row kP l_1)], 3⟩ [] (by kernel_rfl) rfl rfl ap0 ?_
          have H_71 := Option.some.inj (show some false = some r from H_69); subst H_71
          refine VL_ret ?_
          refine QB_ret ?_
          refine QL_ret ?_
          refine QB_ret ?_
          exact P_to [(4, cB false)] [(0, .row kP l_1)] [] hn (by kernel_rfl) (by kernel_rfl) rfl rfl rfl (QF_retS (by kernel_rfl) (by kernel_rfl) rfl)
        · intro b_34; have H_70 := of_f H_68 b_34
          refine V_run hN hn 1 3 [0, 5, 47] [0] ⟨[(0, .c (.h 0)), (5, cI i_23), (47, cB (decide (r_29.1 ≤ r_31.2)))], [(0, .row kP l_1)], 3⟩ [] (by kernel_rfl) rfl rfl ap0 ?_
          refine VL_nil (QB_end ?_)
          refine V_run hN hn 1 3 [0, 5] [0] ⟨[(0, .c (.h 0)), (5, cI (w6 (i_23 + (1 : Int))))], [(0, .row kP l_1)], 3⟩ [] (by kernel_rfl) rfl rfl ap0 ?_
          refine VL_nil ?_
          exact V_roundEnd (w6 (i_23 + (1 : Int))) H_70 [] hn (by kernel_rfl) (by kernel_rfl) rfl rfl rfl
      · intro b_26; have H_65 := of_f H_63 b_26
        refine VL_exit ?_
        refine QL_exit ?_
        refine QB_here ?_
        refine V_run hN hn 2 3 [4] [0] ⟨[(4, cB true)], [(0, .row kP l_1)], 3⟩ [] (by kernel_rfl) rfl rfl ap0 ?_
        have H_72 := Option.some.inj (show some true = some r from H_65); subst H_72
        refine VL_ret ?_
        exact P_to [(4, cB true)] [(0, .row kP l_1)] [] hn (by kernel_rfl) (by kernel_rfl) rfl rfl rfl (QF_retS (by kernel_rfl) (by kernel_rfl) rfl)

theorem region_Texts_rg_spec (K : Nat) (l_1 : (List (Int × Int))) (s_2 : ByteArray) (r : (List ByteArray)) (H : region_Texts_rg K l_1 s_2 = some r) : Spec Try.prog 20 1 [.c (.h 0), cS s_2] [(0, .row kP l_1)] (.c (.h 7)) [(0, .row kP l_1), (7, .row .str r)] := by
  refine Spec_mk (fn := Try.f20) (c := (Try.f20.body).get!) Try.func20 (by kernel_rfl) rfl ?_
  intro C hN hn
  replace hN : C.N = 32 := hN
  unfold region_Texts_rg at H
  refine V_run hN hn 4 1 [0, 1] [0] ⟨[(0, .c (.h 0)), (1, cS s_2)], [(0, .row kP l_1)], 1⟩ [] (by kernel_rfl) rfl rfl ap0 ?_
  obtain ⟨r_4, h_5, H_35⟩ := of_bind H
  refine V_reg hN hn [(2, ⟨10, 1, [.c (.h 0), cS s_2], [(0, .row kP l_1)], cB r_4, [(0, .row kP l_1)], [(0, 0)], 1⟩)] [] (calls_cons (region_Is_rg_spec K l_1 s_2 r_4 h_5) (by kernel_rfl) calls_nil) 1 [0, 1, 12] [0] ⟨[(0, .c (.h 0)), (1, cS s_2), (12, cB (!r_4))], [(0, .row kP l_1)], 1⟩ [] (by kernel_rfl) rfl rfl ap0 (by kernel_rfl) (by kernel_rfl) ?_
  refine VL_cond ((!r_4)) (by kernel_rfl) ?_ ?_
  · intro b_7; have H_36 := of_t H_35 b_7
    refine V_run hN hn 2 1 [4] [0] ⟨[(4, .c (.val (.slice none 0 0)))], [(0, .row kP l_1)], 1⟩ [] (by kernel_rfl) rfl rfl ap0 ?_
    have H_38 := Option.some.inj (show some ([] : List ByteArray) = some r from H_36); subst H_38
    refine VL_ret ?_
    refine P_ghost [.nilSlot 4 .str] 1 hn [4] [0, 1] ⟨[(4, .c (.h 1))], [(0, .row kP l_1), (1, .row .str ([] : List ByteArray))], 2⟩ (by kernel_rfl) rfl rfl ?_
    exact P_to [(4, .c (.h 7))] [(0, .row kP l_1), (7, .row .str ([] : List ByteArray))] [(7, 1)] hn (by kernel_rfl) (by kernel_rfl) rfl rfl rfl (QF_retS (by kernel_rfl) (by kernel_rfl) rfl)
  · intro b_7; have H_37 := of_f H_35 b_7
    refine V_run hN hn 6 1 [1, 5, 13, 14, 15] [0] ⟨[(1, cS s_2), (5, .c (.val (.slice none 0 0))), (13, .c (.h 0)), (14, cI (lnI l_1)), (15, cI (0 : Int))], [(0, .row kP l_1)], 1⟩ [] (by kernel_rfl) rfl rfl ap0 ?_
    refine VL_block ?_
    refine V_ghost [.nilSlot 5 .str] 1 hn [1, 5, 13, 14, 15] [0, 1] ⟨[(1, cS s_2), (5, .c (.h 1)), (13, .c (.h 0)), (14, cI (lnI l_1)), (15, cI (0 : Int))], [(0, .row kP l_1), (1, .row .str ([] : List ByteArray))], 2⟩ (by kernel_rfl) rfl rfl ?_
    refine V_to [(1, cS s_2), (5, .c (.h 6)), (13, .c (.h 0)), (14, cI (lnI l_1)), (15, cI (0 : Int))] [(0, .row kP l_1), (6, .row .str ([] : List ByteArray))] [(6, 1)] hn (by kernel_rfl) (by kernel_rfl) rfl rfl rfl ?_
    refine VL_loop (X := ((List ByteArray) × Int)) (fun x => [(1, cS s_2), (5, .c (.h 6)), (13, .c (.h 0)), (14, cI (lnI l_1)), (15, cI x.2)]) (fun x => [(0, .row kP l_1), (6, .row .str x.1)]) (fun k x => region_Texts_rg.l0 K l_1 s_2 k x.1 x.2 = some r) K (([] : List ByteArray), (0 : Int)) H_37 (fun _ h => no_none h) ?_
    intro k_23 x_23 H_39
    obtain ⟨out_22, t_10⟩ := x_23
    have H_40 : region_Texts_rg.l0 K l_1 s_2 (k_23 + 1) out_22 t_10 = some r := H_39
    rw [region_Texts_rg.l0] at H_40
    refine V_run hN hn 3 7 [1, 5, 13, 14, 15, 16] [0, 6] ⟨[(1, cS s_2), (5, .c (.h 6)), (13, .c (.h 0)), (14, cI (lnI l_1)), (15, cI t_10), (16, cB (decide (t_10 < (lnI l_1))))], [(0, .row kP l_1), (6, .row .str out_22)], 7⟩ [] (by kernel_rfl) rfl rfl ap0 ?_
    refine VL_cond ((decide (t_10 < (lnI l_1)))) (by kernel_rfl) ?_ ?_
    · intro b_25; have H_41 := of_t H_40 b_25
      refine V_run hN hn 2 7 [1, 5, 13, 14, 15, 16] [0, 6] ⟨[(1, cS s_2), (5, .c (.h 6)), (13, .c (.h 0)), (14, cI (lnI l_1)), (15, cI t_10), (16, cB (decide (t_10 < (lnI l_1))))], [(0, .row kP l_1), (6, .row .str out_22)], 7⟩ [] (by kernel_rfl) rfl rfl ap0 ?_
      refine VL_block ?_
      obtain ⟨c_27, H_43⟩ := of_if H_41
      refine V_run hN hn 3 7 [1, 5, 7, 13, 14, 15] [0, 6, 7] ⟨[(1, cS s_2), (5, .c (.h 6)), (7, .c (.h 7)), (13, .c (.h 0)), (14, cI (lnI l_1)), (15, cI t_10)], [(0, .row kP l_1), (6, .row .str out_22), (7, .box [.val (.int .i64 (List.getD l_1 (Int.toNat t_10) zP).1), .val (.int .i64 (List.getD l_1 (Int.toNat t_10) zP).2)])], 8⟩ [0 ≤ t_10, t_10 < (lnI l_1)] (by kernel_rfl) rfl rfl (ap2 c_27.1 (ap1 c_27.2)) ?_
      obtain ⟨r_28, h_29, H_44⟩ := of_bind H_43
      refine V_reg hN hn [(1, ⟨21, 0, [.agg [.val (.int .i64 (List.getD l_1 (Int.toNat t_10) zP).1), .val (.int .i64 (List.getD l_1 (Int.toNat t_10) zP).2)]], [], .agg [.val (.int .i64 r_28.1), .val (.int .i64 r_28.2)], [], [], 8⟩)] [] (calls_cons (region_Span_spec K (List.getD l_1 (Int.toNat t_10) zP).1 (List.getD l_1 (Int.toNat t_10) zP).2 r_28 h_29) (by kernel_rfl) calls_nil) 8 [1, 5, 8, 13, 14, 15] [0, 6, 8] ⟨[(1, cS s_2), (5, .c (.h 6)), (8, .c (.h 8)), (13, .c (.h 0)), (14, cI (lnI l_1)), (15, cI t_10)], [(0, .row kP l_1), (6, .row .str out_22), (8, .box [.val (.int .i64 r_28.1), .val (.int .i64 r_28.2)])], 9⟩ [] (by kernel_rfl) rfl rfl ap0 (by kernel_rfl) (by kernel_rfl) ?_
      obtain ⟨c_31, H_45⟩ := of_if H_44
      refine V_run hN hn 1 9 [1, 5, 13, 14, 15] [0, 10] ⟨[(1, cS s_2), (5, .c (.h 10)), (13, .c (.h 0)), (14, cI (lnI l_1)), (15, cI t_10)], [(0, .row kP l_1), (10, .row .str (out_22 ++ ([(ByteArray.extract s_2 (Int.toNat r_28.1) (Int.toNat r_28.2))] : List ByteArray)))], 11⟩ [(0 : Int) ≤ r_28.1, r_28.1 ≤ r_28.2, r_28.2 ≤ (((ByteArray.size s_2) : Nat) : Int), (List.length out_22 + List.length ([(ByteArray.extract s_2 (Int.toNat r_28.1) (Int.toNat r_28.2))] : List ByteArray)) * 16 ≤ 140737488355328] (by kernel_rfl) rfl rfl (ap2 c_31.1 (ap2 c_31.2.1 (ap2 c_31.2.2.1 (ap1 c_31.2.2.2)))) ?_
      refine VL_nil (QB_end ?_)
      refine V_run hN hn 1 11 [1, 5, 13, 14, 15] [0, 10] ⟨[(1, cS s_2), (5, .c (.h 10)), (13, .c (.h 0)), (14, cI (lnI l_1)), (15, cI (w6 (t_10 + (1 : Int))))], [(0, .row kP l_1), (10, .row .str (out_22 ++ ([(ByteArray.extract s_2 (Int.toNat r_28.1) (Int.toNat r_28.2))] : List ByteArray)))], 11⟩ [] (by kernel_rfl) rfl rfl ap0 ?_
      refine VL_nil ?_
      exact V_roundEnd ((out_22 ++ ([(ByteArray.extract s_2 (Int.toNat r_28.1) (Int.toNat r_28.2))] : List ByteArray)), (w6 (t_10 + (1 : Int)))) H_45 [(6, 10)] hn (by kernel_rfl) (by kernel_rfl) rfl rfl rfl
    · intro b_25; have H_42 := of_f H_40 b_25
      refine VL_exit ?_
      refine QL_exit ?_
      refine QB_here ?_
      refine V_run hN hn 2 7 [4] [0, 6] ⟨[(4, .c (.h 6))], [(0, .row kP l_1), (6, .row .str out_22)], 7⟩ [] (by kernel_rfl) rfl rfl ap0 ?_
      have H_46 := Option.some.inj (show some out_22 = some r from H_42); subst H_46
      refine VL_ret ?_
      exact P_to [(4, .c (.h 7))] [(0, .row kP l_1), (7, .row .str out_22)] [(7, 6)] hn (by kernel_rfl) (by kernel_rfl) rfl rfl rfl (QF_retS (by kernel_rfl) (by kernel_rfl) rfl)

theorem palinodelaw24_known_spec (K : Nat) (r : Bool) (H : palinodelaw24_known K  = some r) : Spec Try.prog 8 0 [] [] (cB r) [] := by
  refine Spec_mk (fn := Try.f8) (c := (Try.f8.body).get!) Try.func8 (by kernel_rfl) rfl ?_
  intro C hN hn
  replace hN : C.N = 101 := hN
  unfold palinodelaw24_known at H
  refine V_run hN hn 3 0 [] [] ⟨[], [], 0⟩ [] (by kernel_rfl) rfl rfl ap0 ?_
  obtain ⟨r_2, h_3, H_54⟩ := of_bind H
  refine V_reg hN hn [(3, ⟨9, 1, [.c (.h 0), cS (ByteArray.mk #[97, 98, 99, 100, 101, 102])], [(0, .row kP ([((5 : Int), (3 : Int)), ((1 : Int), (3 : Int))] : List (Int × Int)))], .tup [(false, [.h 4]), (false, [.val (.int .i64 r_2.2)])], [(4, .row kP r_2.1)], [(0, 0), (4, 1)], 2⟩)] [] (calls_cons (region_Make_eg_spec K ([((5 : Int), (3 : Int)), ((1 : Int), (3 : Int))] : List (Int × Int)) (ByteArray.mk #[97, 98, 99, 100, 101, 102]) r_2 h_3) (by kernel_rfl) calls_nil) 0 [1, 2] [1] ⟨[(1, .c (.h 1)), (2, cI r_2.2)], [(1, .row kP r_2.1)], 2⟩ [] (by kernel_rfl) rfl rfl ap0 (by kernel_rfl) (by kernel_rfl) ?_
  refine V_run hN hn 1 2 [1, 2] [1] ⟨[(1, .c (.h 1)), (2, cI r_2.2)], [(1, .row kP r_2.1)], 2⟩ [] (by kernel_rfl) rfl rfl ap0 ?_
  obtain ⟨r_6, h_7, H_55⟩ := of_bind H_54
  refine V_reg hN hn [(0, ⟨9, 0, [.c (.val (.slice none 0 0)), cS (ByteArray.mk #[])], [], .tup [(false, [.imm (.slice kP) r_6.1]), (false, [.val (.int .i64 r_6.2)])], [], [], 2⟩)] [] (calls_cons (region_Make_ng_spec K (ByteArray.mk #[]) r_6 h_7) (by kernel_rfl) calls_nil) 2 [1, 2, 4] [1] ⟨[(1, .c (.h 1)), (2, cI r_2.2), (4, cI r_6.2)], [(1, .row kP r_2.1)], 2⟩ [] (by kernel_rfl) rfl rfl ap0 (by kernel_rfl) (by kernel_rfl) ?_
  refine V_run hN hn 1 2 [1, 2, 4] [1] ⟨[(1, .c (.h 1)), (2, cI r_2.2), (4, cI r_6.2)], [(1, .row kP r_2.1)], 2⟩ [] (by kernel_rfl) rfl rfl ap0 ?_
  obtain ⟨r_10, h_11, H_56⟩ := of_bind H_55
  refine V_reg hN hn [(2, ⟨9, 1, [.c (.h 0), cS (ByteArray.mk #[195, 169])], [(0, .row kP ([((1 : Int), (0 : Int))] : List (Int × Int)))], .tup [(false, [.h 4]), (false, [.val (.int .i64 r_10.2)])], [(4, .row kP r_10.1)], [(0, 2), (4, 3)], 4⟩)] [] (calls_cons (region_Make_eg_spec K ([((1 : Int), (0 : Int))] : List (Int × Int)) (ByteArray.mk #[195, 169]) r_10 h_11) (by kernel_rfl) calls_nil) 2 [1, 2, 4, 6] [1] ⟨[(1, .c (.h 1)), (2, cI r_2.2), (4, cI r_6.2), (6, cI r_10.2)], [(1, .row kP r_2.1)], 4⟩ [] (by kernel_rfl) rfl rfl ap0 (by kernel_rfl) (by kernel_rfl) ?_
  refine V_run hN hn 1 4 [1, 2, 4, 6] [1] ⟨[(1, .c (.h 1)), (2, cI r_2.2), (4, cI r_6.2), (6, cI r_10.2)], [(1, .row kP r_2.1)], 4⟩ [] (by kernel_rfl) rfl rfl ap0 ?_
  obtain ⟨r_14, h_15, H_57⟩ := of_bind H_56
  refine V_reg hN hn [(2, ⟨13, 1, [cI (6 : Int), .c (.h 0)], [(0, .row kE ([((1 : Int), ((1 : Int), (ByteArray.mk #[120, 120])))] : List (Int × (Int × ByteArray))))], .tup [(true, [.val (.int .i64 r_14.1), .imm (.slice kE) r_14.2.1]), (false, [.val (.int .i64 r_14.2.2)])], [(0, .row kE ([((1 : Int), ((1 : Int), (ByteArray.mk #[120, 120])))] : List (Int × (Int × ByteArray))))], [(0, 4)], 5⟩)] [] (calls_cons (delta_Build_gr_spec K (6 : Int) ([((1 : Int), ((1 : Int), (ByteArray.mk #[120, 120])))] : List (Int × (Int × ByteArray))) r_14 h_15) (by kernel_rfl) calls_nil) 4 [1, 2, 4, 6, 7] [1, 5] ⟨[(1, .c (.h 1)), (2, cI r_2.2), (4, cI r_6.2), (6, cI r_10.2), (7, .c (.h 5))], [(1, .row kP r_2.1), (5, .box [.val (.int .i64 r_14.1), .imm (.slice kE) r_14.2.1])], 6⟩ [] (by kernel_rfl) rfl rfl ap0 (by kernel_rfl) (by kernel_rfl) ?_
  refine V_run hN hn 1 6 [1, 2, 4, 6, 7] [1, 5] ⟨[(1, .c (.h 1)), (2, cI r_2.2), (4, cI r_6.2), (6, cI r_10.2), (7, .c (.h 5))], [(1, .row kP r_2.1), (5, .box [.val (.int .i64 r_14.1), .imm (.slice kE) r_14.2.1])], 6⟩ [] (by kernel_rfl) rfl rfl ap0 ?_
  obtain ⟨r_18, h_19, H_58⟩ := of_bind H_57
  refine V_reg hN hn [(2, ⟨14, 1, [.c (.h 0), .agg [.val (.int .i64 r_14.1), .imm (.slice kE) r_14.2.1]], [(0, .row kP r_2.1)], .tup [(false, [.h 8]), (false, [.val (.int .i64 r_18.2)])], [(0, .row kP r_2.1), (8, .row kP r_18.1)], [(0, 1), (8, 6)], 7⟩)] [] (calls_cons (region_Move_rsgg_spec K r_2.1 r_14.1 r_14.2.1 r_18 h_19) (by kernel_rfl) calls_nil) 6 [1, 2, 4, 6, 9, 10] [1, 6] ⟨[(1, .c (.h 1)), (2, cI r_2.2), (4, cI r_6.2), (6, cI r_10.2), (9, .c (.h 6)), (10, cI r_18.2)], [(1, .row kP r_2.1), (6, .row kP r_18.1)], 7⟩ [] (by kernel_rfl) rfl rfl ap0 (by kernel_rfl) (by kernel_rfl) ?_
  refine V_run hN hn 1 7 [1, 2, 4, 6, 9, 10] [1, 6] ⟨[(1, .c (.h 1)), (2, cI r_2.2), (4, cI r_6.2), (6, cI r_10.2), (9, .c (.h 6)), (10, cI r_18.2)], [(1, .row kP r_2.1), (6, .row kP r_18.1)], 7⟩ [] (by kernel_rfl) rfl rfl ap0 ?_
  obtain ⟨r_22, h_23, H_59⟩ := of_bind H_58
  refine V_reg hN hn [(1, ⟨20, 1, [.c (.h 0), cS (ByteArray.mk #[97, 98, 99, 100, 101, 102])], [(0, .row kP r_2.1)], .c (.h 7), [(0, .row kP r_2.1), (7, .row .str r_22)], [(0, 1), (7, 7)], 8⟩)] [] (calls_cons (region_Texts_rg_spec K r_2.1 (ByteArray.mk #[97, 98, 99, 100, 101, 102]) r_22 h_23) (by kernel_rfl) calls_nil) 7 [1, 2, 4, 6, 9, 10, 11] [1, 6, 7] ⟨[(1, .c (.h 1)), (2, cI r_2.2), (4, cI r_6.2), (6, cI r_10.2), (9, .c (.h 6)), (10, cI r_18.2), (11, .c (.h 7))], [(1, .row kP r_2.1), (6, .row kP r_18.1), (7, .row .str r_22)], 8⟩ [] (by kernel_rfl) rfl rfl ap0 (by kernel_rfl) (by kernel_rfl) ?_
  refine V_run hN hn 1 8 [1, 2, 4, 6, 9, 10, 11] [1, 6, 7] ⟨[(1, .c (.h 1)), (2, cI r_2.2), (4, cI r_6.2), (6, cI r_10.2), (9, .c (.h 6)), (10, cI r_18.2), (11, .c (.h 7))], [(1, .row kP r_2.1), (6, .row kP r_18.1), (7, .row .str r_22)], 8⟩ [] (by kernel_rfl) rfl rfl ap0 ?_
  rcases Bool.eq_false_or_eq_true ((r_2.2 == (0 : Int))) with b_26 | b_26
  · have H_60 := of_t H_59 b_26
    rcases Bool.eq_false_or_eq_true (((lnI r_2.1) == (1 : Int))) with b_27 | b_27
    · have H_62 := of_t H_60 b_27
      rcases Bool.eq_false_or_eq_true ((((List.getD r_2.1 0 zP).1 == (1 : Int)) && ((List.getD r_2.1 0 zP).2 == (5 : Int)))) with b_28 | b_28
      · have H_64 := of_t H_62 b_28
        rcases Bool.eq_false_or_eq_true ((r_6.2 == (12 : Int))) with b_29 | b_29
        · have H_66 := of_t H_64 b_29
          rcases Bool.eq_false_or_eq_true ((r_10.2 == (11 : Int))) with b_30 | b_30
          · have H_68 := of_t H_66 b_30
            rcases Bool.eq_false_or_eq_true ((r_18.2 == (0 : Int))) with b_31 | b_31
            · have H_70 := of_t H_68 b_31
              rcases Bool.eq_false_or_eq_true (((lnI r_18.1) == (1 : Int))) with b_32 | b_32
              · have H_72 := of_t H_70 b_32
                rcases Bool.eq_false_or_eq_true ((((List.getD r_18.1 0 zP).1 == (3 : Int)) && ((List.getD r_18.1 0 zP).2 == (7 : Int)))) with b_33 | b_33
                · have H_74 := of_t H_72 b_33
                  rcases Bool.eq_false_or_eq_true (((lnI r_22) == (1 : Int))) with b_34 | b_34
                  · have H_76 := of_t H_74 b_34
                    rcases Bool.eq_false_or_eq_true ((ByteArray.toList (List.getD r_22 0 ByteArray.empty) == ByteArray.toList (ByteArray.mk #[98, 99, 100, 101]))) with b_35 | b_35
                    · have H_78 := of_t H_76 b_35
                      obtain ⟨r_36, h_37, H_80⟩ := of_bind H_78
                      rcases Bool.eq_false_or_eq_true (r_36) with b_38 | b_38
                      · have H_81 := of_t H_80 b_38
                        obtain ⟨r_39, h_40, H_83⟩ := of_bind H_81
                        obtain ⟨c_41, H_84⟩ := of_if H_83
                        refine V_reg hN hn [(51, ⟨10, 1, [.c (.h 0), cS (ByteArray.mk #[97, 98, 99, 100, 101, 102])], [(0, .row kP r_2.1)], cB r_36, [(0, .row kP r_2.1)], [(0, 1)], 8⟩), (55, ⟨10, 1, [.c (.h 0), cS (ByteArray.mk #[97, 98, 99])], [(0, .row kP r_2.1)], cB r_39, [(0, .row kP r_2.1)], [(0, 1)], 8⟩)] [(45, true), (50, true), (57, true), (61, true), (65, true), (69, true), (74, true), (81, true), (86, true), (92, true), (96, true)] (calls_cons (region_Is_rg_spec K r_2.1 (ByteArray.mk #[97, 98, 99, 100, 101, 102]) r_36 h_37) (by kernel_rfl) (calls_cons (region_Is_rg_spec K r_2.1 (ByteArray.mk #[97, 98, 99]) r_39 h_40) (by kernel_rfl) calls_nil)) 8 [0] [] ⟨[(0, cB (!r_39))], [], 8⟩ [(r_2.2 == (0 : Int)) = true, ((lnI r_2.1) == (1 : Int)) = true, (0 : Int) ≤ (0 : Int), (0 : Int) < (lnI r_2.1), (((List.getD r_2.1 0 zP).1 == (1 : Int)) && ((List.getD r_2.1 0 zP).2 == (5 : Int))) = true, (r_6.2 == (12 : Int)) = true, (r_10.2 == (11 : Int)) = true, (r_18.2 == (0 : Int)) = true, ((lnI r_18.1) == (1 : Int)) = true, (0 : Int) ≤ (0 : Int), (0 : Int) < (lnI r_18.1), (((List.getD r_18.1 0 zP).1 == (3 : Int)) && ((List.getD r_18.1 0 zP).2 == (7 : Int))) = true, ((lnI r_22) == (1 : Int)) = true, (0 : Int) ≤ (0 : Int), (0 : Int) < (lnI r_22), (ByteArray.toList (List.getD r_22 0 ByteArray.empty) == ByteArray.toList (ByteArray.mk #[98, 99, 100, 101])) = true, r_36 = true] (by kernel_rfl) rfl rfl (ap2 b_26 (ap2 b_27 (ap2 (by decide) (ap2 c_41.1 (ap2 b_28 (ap2 b_29 (ap2 b_30 (ap2 b_31 (ap2 b_32 (ap2 (by decide) (ap2 c_41.2.1 (ap2 b_33 (ap2 b_34 (ap2 (by decide) (ap2 c_41.2.2 (ap2 b_35 (ap1 b_38))))))))))))))))) (by kernel_rfl) (by kernel_rfl) ?_
                        have H_85 := Option.some.inj (show some (!r_39) = some r from H_84); subst H_85
                        refine VL_ret ?_
                        exact P_to [(0, cB (!r_39))] [] [] hn (by kernel_rfl) (by kernel_rfl) rfl rfl rfl (QF_retS (by kernel_rfl) (by kernel_rfl) rfl)
                      · have H_82 := of_f H_80 b_38
                        obtain ⟨c_42, H_86⟩ := of_if H_82
                        refine V_reg hN hn [(51, ⟨10, 1, [.c (.h 0), cS (ByteArray.mk #[97, 98, 99, 100, 101, 102])], [(0, .row kP r_2.1)], cB r_36, [(0, .row kP r_2.1)], [(0, 1)], 8⟩)] [(45, true), (50, true), (57, true), (61, true), (65, true), (69, true), (74, true), (81, true), (86, true), (92, true), (96, false)] (calls_cons (region_Is_rg_spec K r_2.1 (ByteArray.mk #[97, 98, 99, 100, 101, 102]) r_36 h_37) (by kernel_rfl) calls_nil) 8 [0] [] ⟨[(0, cB false)], [], 8⟩ [(r_2.2 == (0 : Int)) = true, ((lnI r_2.1) == (1 : Int)) = true, (0 : Int) ≤ (0 : Int), (0 : Int) < (lnI r_2.1), (((List.getD r_2.1 0 zP).1 == (1 : Int)) && ((List.getD r_2.1 0 zP).2 == (5 : Int))) = true, (r_6.2 == (12 : Int)) = true, (r_10.2 == (11 : Int)) = true, (r_18.2 == (0 : Int)) = true, ((lnI r_18.1) == (1 : Int)) = true, (0 : Int) ≤ (0 : Int), (0 : Int) < (lnI r_18.1), (((List.getD r_18.1 0 zP).1 == (3 : Int)) && ((List.getD r_18.1 0 zP).2 == (7 : Int))) = true, ((lnI r_22) == (1 : Int)) = true, (0 : Int) ≤ (0 : Int), (0 : Int) < (lnI r_22), (ByteArray.toList (List.getD r_22 0 ByteArray.empty) == ByteArray.toList (ByteArray.mk #[98, 99, 100, 101])) = true, r_36 = false] (by kernel_rfl) rfl rfl (ap2 b_26 (ap2 b_27 (ap2 (by decide) (ap2 c_42.1 (ap2 b_28 (ap2 b_29 (ap2 b_30 (ap2 b_31 (ap2 b_32 (ap2 (by decide) (ap2 c_42.2.1 (ap2 b_33 (ap2 b_34 (ap2 (by decide) (ap2 c_42.2.2 (ap2 b_35 (ap1 b_38))))))))))))))))) (by kernel_rfl) (by kernel_rfl) ?_
                        have H_87 := Option.some.inj (show some false = some r from H_86); subst H_87
                        refine VL_ret ?_
                        exact P_to [(0, cB false)] [] [] hn (by kernel_rfl) (by kernel_rfl) rfl rfl rfl (QF_retS (by kernel_rfl) (by kernel_rfl) rfl)
                    · have H_79 := of_f H_76 b_35
                      obtain ⟨c_43, H_88⟩ := of_if H_79
                      refine V_reg hN hn [] [(45, true), (50, true), (57, true), (61, true), (65, true), (69, true), (74, true), (81, true), (86, true), (92, false)] calls_nil 8 [0] [] ⟨[(0, cB false)], [], 8⟩ [(r_2.2 == (0 : Int)) = true, ((lnI r_2.1) == (1 : Int)) = true, (0 : Int) ≤ (0 : Int), (0 : Int) < (lnI r_2.1), (((List.getD r_2.1 0 zP).1 == (1 : Int)) && ((List.getD r_2.1 0 zP).2 == (5 : Int))) = true, (r_6.2 == (12 : Int)) = true, (r_10.2 == (11 : Int)) = true, (r_18.2 == (0 : Int)) = true, ((lnI r_18.1) == (1 : Int)) = true, (0 : Int) ≤ (0 : Int), (0 : Int) < (lnI r_18.1), (((List.getD r_18.1 0 zP).1 == (3 : Int)) && ((List.getD r_18.1 0 zP).2 == (7 : Int))) = true, ((lnI r_22) == (1 : Int)) = true, (0 : Int) ≤ (0 : Int), (0 : Int) < (lnI r_22), (ByteArray.toList (List.getD r_22 0 ByteArray.empty) == ByteArray.toList (ByteArray.mk #[98, 99, 100, 101])) = false] (by kernel_rfl) rfl rfl (ap2 b_26 (ap2 b_27 (ap2 (by decide) (ap2 c_43.1 (ap2 b_28 (ap2 b_29 (ap2 b_30 (ap2 b_31 (ap2 b_32 (ap2 (by decide) (ap2 c_43.2.1 (ap2 b_33 (ap2 b_34 (ap2 (by decide) (ap2 c_43.2.2 (ap1 b_35)))))))))))))))) (by kernel_rfl) (by kernel_rfl) ?_
                      have H_89 := Option.some.inj (show some false = some r from H_88); subst H_89
                      refine VL_ret ?_
                      exact P_to [(0, cB false)] [] [] hn (by kernel_rfl) (by kernel_rfl) rfl rfl rfl (QF_retS (by kernel_rfl) (by kernel_rfl) rfl)
                  · have H_77 := of_f H_74 b_34
                    obtain ⟨c_44, H_90⟩ := of_if H_77
                    refine V_reg hN hn [] [(45, true), (50, true), (57, true), (61, true), (65, true), (69, true), (74, true), (81, true), (86, false)] calls_nil 8 [0] [] ⟨[(0, cB false)], [], 8⟩ [(r_2.2 == (0 : Int)) = true, ((lnI r_2.1) == (1 : Int)) = true, (0 : Int) ≤ (0 : Int), (0 : Int) < (lnI r_2.1), (((List.getD r_2.1 0 zP).1 == (1 : Int)) && ((List.getD r_2.1 0 zP).2 == (5 : Int))) = true, (r_6.2 == (12 : Int)) = true, (r_10.2 == (11 : Int)) = true, (r_18.2 == (0 : Int)) = true, ((lnI r_18.1) == (1 : Int)) = true, (0 : Int) ≤ (0 : Int), (0 : Int) < (lnI r_18.1), (((List.getD r_18.1 0 zP).1 == (3 : Int)) && ((List.getD r_18.1 0 zP).2 == (7 : Int))) = true, ((lnI r_22) == (1 : Int)) = false] (by kernel_rfl) rfl rfl (ap2 b_26 (ap2 b_27 (ap2 (by decide) (ap2 c_44.1 (ap2 b_28 (ap2 b_29 (ap2 b_30 (ap2 b_31 (ap2 b_32 (ap2 (by decide) (ap2 c_44.2 (ap2 b_33 (ap1 b_34))))))))))))) (by kernel_rfl) (by kernel_rfl) ?_
                    have H_91 := Option.some.inj (show some false = some r from H_90); subst H_91
                    refine VL_ret ?_
                    exact P_to [(0, cB false)] [] [] hn (by kernel_rfl) (by kernel_rfl) rfl rfl rfl (QF_retS (by kernel_rfl) (by kernel_rfl) rfl)
                · have H_75 := of_f H_72 b_33
                  obtain ⟨c_45, H_92⟩ := of_if H_75
                  refine V_reg hN hn [] [(45, true), (50, true), (57, true), (61, true), (65, true), (69, true), (74, true), (81, false)] calls_nil 8 [0] [] ⟨[(0, cB false)], [], 8⟩ [(r_2.2 == (0 : Int)) = true, ((lnI r_2.1) == (1 : Int)) = true, (0 : Int) ≤ (0 : Int), (0 : Int) < (lnI r_2.1), (((List.getD r_2.1 0 zP).1 == (1 : Int)) && ((List.getD r_2.1 0 zP).2 == (5 : Int))) = true, (r_6.2 == (12 : Int)) = true, (r_10.2 == (11 : Int)) = true, (r_18.2 == (0 : Int)) = true, ((lnI r_18.1) == (1 : Int)) = true, (0 : Int) ≤ (0 : Int), (0 : Int) < (lnI r_18.1), (((List.getD r_18.1 0 zP).1 == (3 : Int)) && ((List.getD r_18.1 0 zP).2 == (7 : Int))) = false] (by kernel_rfl) rfl rfl (ap2 b_26 (ap2 b_27 (ap2 (by decide) (ap2 c_45.1 (ap2 b_28 (ap2 b_29 (ap2 b_30 (ap2 b_31 (ap2 b_32 (ap2 (by decide) (ap2 c_45.2 (ap1 b_33)))))))))))) (by kernel_rfl) (by kernel_rfl) ?_
                  have H_93 := Option.some.inj (show some false = some r from H_92); subst H_93
                  refine VL_ret ?_
                  exact P_to [(0, cB false)] [] [] hn (by kernel_rfl) (by kernel_rfl) rfl rfl rfl (QF_retS (by kernel_rfl) (by kernel_rfl) rfl)
              · have H_73 := of_f H_70 b_32
                obtain ⟨c_46, H_94⟩ := of_if H_73
                refine V_reg hN hn [] [(45, true), (50, true), (57, true), (61, true), (65, true), (69, true), (74, false)] calls_nil 8 [0] [] ⟨[(0, cB false)], [], 8⟩ [(r_2.2 == (0 : Int)) = true, ((lnI r_2.1) == (1 : Int)) = true, (0 : Int) ≤ (0 : Int), (0 : Int) < (lnI r_2.1), (((List.getD r_2.1 0 zP).1 == (1 : Int)) && ((List.getD r_2.1 0 zP).2 == (5 : Int))) = true, (r_6.2 == (12 : Int)) = true, (r_10.2 == (11 : Int)) = true, (r_18.2 == (0 : Int)) = true, ((lnI r_18.1) == (1 : Int)) = false] (by kernel_rfl) rfl rfl (ap2 b_26 (ap2 b_27 (ap2 (by decide) (ap2 c_46 (ap2 b_28 (ap2 b_29 (ap2 b_30 (ap2 b_31 (ap1 b_32))))))))) (by kernel_rfl) (by kernel_rfl) ?_
                have H_95 := Option.some.inj (show some false = some r from H_94); subst H_95
                refine VL_ret ?_
                exact P_to [(0, cB false)] [] [] hn (by kernel_rfl) (by kernel_rfl) rfl rfl rfl (QF_retS (by kernel_rfl) (by kernel_rfl) rfl)
            · have H_71 := of_f H_68 b_31
              obtain ⟨c_47, H_96⟩ := of_if H_71
              refine V_reg hN hn [] [(45, true), (50, true), (57, true), (61, true), (65, true), (69, false)] calls_nil 8 [0] [] ⟨[(0, cB false)], [], 8⟩ [(r_2.2 == (0 : Int)) = true, ((lnI r_2.1) == (1 : Int)) = true, (0 : Int) ≤ (0 : Int), (0 : Int) < (lnI r_2.1), (((List.getD r_2.1 0 zP).1 == (1 : Int)) && ((List.getD r_2.1 0 zP).2 == (5 : Int))) = true, (r_6.2 == (12 : Int)) = true, (r_10.2 == (11 : Int)) = true, (r_18.2 == (0 : Int)) = false] (by kernel_rfl) rfl rfl (ap2 b_26 (ap2 b_27 (ap2 (by decide) (ap2 c_47 (ap2 b_28 (ap2 b_29 (ap2 b_30 (ap1 b_31)))))))) (by kernel_rfl) (by kernel_rfl) ?_
              have H_97 := Option.some.inj (show some false = some r from H_96); subst H_97
              refine VL_ret ?_
              exact P_to [(0, cB false)] [] [] hn (by kernel_rfl) (by kernel_rfl) rfl rfl rfl (QF_retS (by kernel_rfl) (by kernel_rfl) rfl)
          · have H_69 := of_f H_66 b_30
            obtain ⟨c_48, H_98⟩ := of_if H_69
            refine V_reg hN hn [] [(45, true), (50, true), (57, true), (61, true), (65, false)] calls_nil 8 [0] [] ⟨[(0, cB false)], [], 8⟩ [(r_2.2 == (0 : Int)) = true, ((lnI r_2.1) == (1 : Int)) = true, (0 : Int) ≤ (0 : Int), (0 : Int) < (lnI r_2.1), (((List.getD r_2.1 0 zP).1 == (1 : Int)) && ((List.getD r_2.1 0 zP).2 == (5 : Int))) = true, (r_6.2 == (12 : Int)) = true, (r_10.2 == (11 : Int)) = false] (by kernel_rfl) rfl rfl (ap2 b_26 (ap2 b_27 (ap2 (by decide) (ap2 c_48 (ap2 b_28 (ap2 b_29 (ap1 b_30))))))) (by kernel_rfl) (by kernel_rfl) ?_
            have H_99 := Option.some.inj (show some false = some r from H_98); subst H_99
            refine VL_ret ?_
            exact P_to [(0, cB false)] [] [] hn (by kernel_rfl) (by kernel_rfl) rfl rfl rfl (QF_retS (by kernel_rfl) (by kernel_rfl) rfl)
        · have H_67 := of_f H_64 b_29
          obtain ⟨c_49, H_100⟩ := of_if H_67
          refine V_reg hN hn [] [(45, true), (50, true), (57, true), (61, false)] calls_nil 8 [0] [] ⟨[(0, cB false)], [], 8⟩ [(r_2.2 == (0 : Int)) = true, ((lnI r_2.1) == (1 : Int)) = true, (0 : Int) ≤ (0 : Int), (0 : Int) < (lnI r_2.1), (((List.getD r_2.1 0 zP).1 == (1 : Int)) && ((List.getD r_2.1 0 zP).2 == (5 : Int))) = true, (r_6.2 == (12 : Int)) = false] (by kernel_rfl) rfl rfl (ap2 b_26 (ap2 b_27 (ap2 (by decide) (ap2 c_49 (ap2 b_28 (ap1 b_29)))))) (by kernel_rfl) (by kernel_rfl) ?_
          have H_101 := Option.some.inj (show some false = some r from H_100); subst H_101
          refine VL_ret ?_
          exact P_to [(0, cB false)] [] [] hn (by kernel_rfl) (by kernel_rfl) rfl rfl rfl (QF_retS (by kernel_rfl) (by kernel_rfl) rfl)
      · have H_65 := of_f H_62 b_28
        obtain ⟨c_50, H_102⟩ := of_if H_65
        refine V_reg hN hn [] [(45, true), (50, true), (57, false)] calls_nil 8 [0] [] ⟨[(0, cB false)], [], 8⟩ [(r_2.2 == (0 : Int)) = true, ((lnI r_2.1) == (1 : Int)) = true, (0 : Int) ≤ (0 : Int), (0 : Int) < (lnI r_2.1), (((List.getD r_2.1 0 zP).1 == (1 : Int)) && ((List.getD r_2.1 0 zP).2 == (5 : Int))) = false] (by kernel_rfl) rfl rfl (ap2 b_26 (ap2 b_27 (ap2 (by decide) (ap2 c_50 (ap1 b_28))))) (by kernel_rfl) (by kernel_rfl) ?_
        have H_103 := Option.some.inj (show some false = some r from H_102); subst H_103
        refine VL_ret ?_
        exact P_to [(0, cB false)] [] [] hn (by kernel_rfl) (by kernel_rfl) rfl rfl rfl (QF_retS (by kernel_rfl) (by kernel_rfl) rfl)
    · have H_63 := of_f H_60 b_27
      refine V_reg hN hn [] [(45, true), (50, false)] calls_nil 8 [0] [] ⟨[(0, cB false)], [], 8⟩ [(r_2.2 == (0 : Int)) = true, ((lnI r_2.1) == (1 : Int)) = false] (by kernel_rfl) rfl rfl (ap2 b_26 (ap1 b_27)) (by kernel_rfl) (by kernel_rfl) ?_
      have H_104 := Option.some.inj (show some false = some r from H_63); subst H_104
      refine VL_ret ?_
      exact P_to [(0, cB false)] [] [] hn (by kernel_rfl) (by kernel_rfl) rfl rfl rfl (QF_retS (by kernel_rfl) (by kernel_rfl) rfl)
  · have H_61 := of_f H_59 b_26
    refine V_reg hN hn [] [(45, false)] calls_nil 8 [0] [] ⟨[(0, cB false)], [], 8⟩ [(r_2.2 == (0 : Int)) = false] (by kernel_rfl) rfl rfl (ap1 b_26) (by kernel_rfl) (by kernel_rfl) ?_
    have H_105 := Option.some.inj (show some false = some r from H_61); subst H_105
    refine VL_ret ?_
    exact P_to [(0, cB false)] [] [] hn (by kernel_rfl) (by kernel_rfl) rfl rfl rfl (QF_retS (by kernel_rfl) (by kernel_rfl) rfl)

theorem region_Make_spec (K : Nat) (l_1 : (List (Int × Int))) (s_2 : ByteArray) (r : ((List (Int × Int)) × Int)) (H : region_Make_eg K l_1 s_2 = some r) : Spec Try.prog 9 0 [.c (.imm (.slice kP) l_1), cS s_2] [] (.tup [(false, [.h 3]), (false, [.val (.int .i64 r.2)])]) [(3, .row kP r.1)] := by
  refine Spec_mk (fn := Try.f9) (c := (Try.f9.body).get!) Try.func9 (by kernel_rfl) rfl ?_
  intro C hN hn
  replace hN : C.N = 26 := hN
  unfold region_Make_eg at H
  refine V_run hN hn 4 0 [0, 1] [] ⟨[(0, .c (.imm (.slice kP) l_1)), (1, cS s_2)], [], 0⟩ [] (by kernel_rfl) rfl rfl ap0 ?_
  obtain ⟨r_4, h_5, H_34⟩ := of_bind H
  refine V_reg hN hn [(1, ⟨26, 0, [.c (.imm (.slice kP) l_1)], [], cI r_4, [], [], 0⟩)] [] (calls_cons (region_count_spec K l_1 r_4 h_5) (by kernel_rfl) calls_nil) 0 [0, 1, 6] [] ⟨[(0, .c (.imm (.slice kP) l_1)), (1, cS s_2), (6, cI r_4)], [], 0⟩ [] (by kernel_rfl) rfl rfl ap0 (by kernel_rfl) (by kernel_rfl) ?_
  refine V_run hN hn 2 0 [0, 1, 6, 10] [] ⟨[(0, .c (.imm (.slice kP) l_1)), (1, cS s_2), (6, cI r_4), (10, cB (r_4 != (0 : Int)))], [], 0⟩ [] (by kernel_rfl) rfl rfl ap0 ?_
  refine VL_cond ((r_4 != (0 : Int))) (by kernel_rfl) ?_ ?_
  · intro b_8; have H_35 := of_t H_34 b_8
    refine V_run hN hn 2 0 [4, 5] [] ⟨[(4, .c (.val (.slice none 0 0))), (5, cI r_4)], [], 0⟩ [] (by kernel_rfl) rfl rfl ap0 ?_
    have H_37 := Option.some.inj (show some (([] : List (Int × Int)), r_4) = some r from H_35); subst H_37
    refine VL_ret ?_
    refine P_ghost [.nilSlot 4 kP] 0 hn [4, 5] [0] ⟨[(4, .c (.h 0)), (5, cI r_4)], [(0, .row kP ([] : List (Int × Int)))], 1⟩ (by kernel_rfl) rfl rfl ?_
    exact P_to [(4, .c (.h 3)), (5, cI r_4)] [(3, .row kP ([] : List (Int × Int)))] [(3, 0)] hn (by kernel_rfl) (by kernel_rfl) rfl rfl rfl (QF_retS (by kernel_rfl) (by kernel_rfl) rfl)
  · intro b_8; have H_36 := of_f H_34 b_8
    refine V_run hN hn 2 0 [0, 1, 6, 10] [] ⟨[(0, .c (.imm (.slice kP) l_1)), (1, cS s_2), (6, cI r_4), (10, cB (r_4 != (0 : Int)))], [], 0⟩ [] (by kernel_rfl) rfl rfl ap0 ?_
    refine VL_block ?_
    refine V_run hN hn 1 0 [0, 1, 6, 10] [] ⟨[(0, .c (.imm (.slice kP) l_1)), (1, cS s_2), (6, cI r_4), (10, cB (r_4 != (0 : Int)))], [], 0⟩ [] (by kernel_rfl) rfl rfl ap0 ?_
    obtain ⟨r_12, h_13, H_38⟩ := of_bind H_36
    obtain ⟨r_14, h_15, H_39⟩ := of_bind H_38
    refine V_reg hN hn [(2, ⟨28, 0, [cS s_2], [], .c (.clo 48 [0]), [(0, .box [.val (.string s_2)])], [(0, 0)], 1⟩), (3, ⟨27, 1, [.c (.imm (.slice kP) l_1), .c (.clo 48 [0])], [(0, .box [.val (.string s_2)])], cB r_14, [(0, .box [.val (.string s_2)])], [(0, 0)], 1⟩)] [] (calls_cons (region_inside_spec K s_2 r_12 h_13) (by kernel_rfl) (calls_cons (region_every_gcregioninside1_08bb4_spec K l_1 s_2 r_14 h_15) (by kernel_rfl) calls_nil)) 0 [0, 1, 12] [] ⟨[(0, .c (.imm (.slice kP) l_1)), (1, cS s_2), (12, cB (!r_14))], [], 1⟩ [] (by kernel_rfl) rfl rfl ap0 (by kernel_rfl) (by kernel_rfl) ?_
    refine VL_cond ((!r_14)) (by kernel_rfl) ?_ ?_
    · intro b_17; have H_40 := of_t H_39 b_17
      refine V_run hN hn 2 1 [4, 5] [] ⟨[(4, .c (.val (.slice none 0 0))), (5, cI (10 : Int))], [], 1⟩ [] (by kernel_rfl) rfl rfl ap0 ?_
      have H_42 := Option.some.inj (show some (([] : List (Int × Int)), (10 : Int)) = some r from H_40); subst H_42
      refine VL_ret ?_
      refine QB_ret ?_
      refine P_ghost [.nilSlot 4 kP] 1 hn [4, 5] [1] ⟨[(4, .c (.h 1)), (5, cI (10 : Int))], [(1, .row kP ([] : List (Int × Int)))], 2⟩ (by kernel_rfl) rfl rfl ?_
      exact P_to [(4, .c (.h 3)), (5, cI (10 : Int))] [(3, .row kP ([] : List (Int × Int)))] [(3, 1)] hn (by kernel_rfl) (by kernel_rfl) rfl rfl rfl (QF_retS (by kernel_rfl) (by kernel_rfl) rfl)
    · intro b_17; have H_41 := of_f H_39 b_17
      refine V_run hN hn 1 1 [0, 1, 12] [] ⟨[(0, .c (.imm (.slice kP) l_1)), (1, cS s_2), (12, cB (!r_14))], [], 1⟩ [] (by kernel_rfl) rfl rfl ap0 ?_
      obtain ⟨r_20, h_21, H_43⟩ := of_bind H_41
      obtain ⟨r_22, h_23, H_44⟩ := of_bind H_43
      refine V_reg hN hn [(2, ⟨29, 0, [cS s_2], [], .c (.clo 49 [0]), [(0, .box [.val (.string s_2)])], [(0, 1)], 2⟩), (3, ⟨27, 1, [.c (.imm (.slice kP) l_1), .c (.clo 49 [0])], [(0, .box [.val (.string s_2)])], cB r_22, [(0, .box [.val (.string s_2)])], [(0, 1)], 2⟩)] [] (calls_cons (region_edges_spec K s_2 r_20 h_21) (by kernel_rfl) (calls_cons (region_every_gcregionedges1_96dfe_spec K l_1 s_2 r_22 h_23) (by kernel_rfl) calls_nil)) 1 [0, 18] [] ⟨[(0, .c (.imm (.slice kP) l_1)), (18, cB (!r_22))], [], 2⟩ [] (by kernel_rfl) rfl rfl ap0 (by kernel_rfl) (by kernel_rfl) ?_
      refine VL_cond ((!r_22)) (by kernel_rfl) ?_ ?_
      · intro b_25; have H_45 := of_t H_44 b_25
        refine V_run hN hn 2 2 [4, 5] [] ⟨[(4, .c (.val (.slice none 0 0))), (5, cI (11 : Int))], [], 2⟩ [] (by kernel_rfl) rfl rfl ap0 ?_
        have H_47 := Option.some.inj (show some (([] : List (Int × Int)), (11 : Int)) = some r from H_45); subst H_47
        refine VL_ret ?_
        refine QB_ret ?_
        refine P_ghost [.nilSlot 4 kP] 2 hn [4, 5] [2] ⟨[(4, .c (.h 2)), (5, cI (11 : Int))], [(2, .row kP ([] : List (Int × Int)))], 3⟩ (by kernel_rfl) rfl rfl ?_
        exact P_to [(4, .c (.h 3)), (5, cI (11 : Int))] [(3, .row kP ([] : List (Int × Int)))] [(3, 2)] hn (by kernel_rfl) (by kernel_rfl) rfl rfl rfl (QF_retS (by kernel_rfl) (by kernel_rfl) rfl)
      · intro b_25; have H_46 := of_f H_44 b_25
        refine V_run hN hn 1 2 [0, 18] [] ⟨[(0, .c (.imm (.slice kP) l_1)), (18, cB (!r_22))], [], 2⟩ [] (by kernel_rfl) rfl rfl ap0 ?_
        refine VL_nil (QB_end ?_)
        refine V_run hN hn 1 2 [0, 18] [] ⟨[(0, .c (.imm (.slice kP) l_1)), (18, cB (!r_22))], [], 2⟩ [] (by kernel_rfl) rfl rfl ap0 ?_
        obtain ⟨r_29, h_30, H_48⟩ := of_bind H_46
        refine V_reg hN hn [(1, ⟨30, 0, [.c (.imm (.slice kP) l_1)], [], .c (.h 1), [(1, .row kP r_29)], [(1, 2)], 3⟩)] [] (calls_cons (region_apart_spec K l_1 r_29 h_30) (by kernel_rfl) calls_nil) 2 [4, 5] [2] ⟨[(4, .c (.h 2)), (5, cI (0 : Int))], [(2, .row kP r_29)], 3⟩ [] (by kernel_rfl) rfl rfl ap0 (by kernel_rfl) (by kernel_rfl) ?_
        have H_49 := Option.some.inj (show some (r_29, (0 : Int)) = some r from H_48); subst H_49
        refine VL_ret ?_
        exact P_to [(4, .c (.h 3)), (5, cI (0 : Int))] [(3, .row kP r_29)] [(3, 2)] hn (by kernel_rfl) (by kernel_rfl) rfl rfl rfl (QF_retS (by kernel_rfl) (by kernel_rfl) rfl)

theorem palinoderef1_Size_spec (K : Nat) (s_1 : ByteArray) (at_2 : Int) (r : Int) (H : palinoderef1_Size K s_1 at_2 = some r) : Spec Try.prog 44 0 [cS s_1, cI at_2] [] (cI r) [] := by
  refine Spec_mk (fn := Try.f44) (c := (Try.f44.body).get!) Try.func44 (by kernel_rfl) rfl ?_
  intro C hN hn
  replace hN : C.N = 94 := hN
  unfold palinoderef1_Size at H
  refine V_run hN hn 4 0 [0, 1] [] ⟨[(0, cS s_1), (1, cI at_2)], [], 0⟩ [] (by kernel_rfl) rfl rfl ap0 ?_
  obtain ⟨q_77, H_78, H_79⟩ := of_bind H
  refine V_cut (Y := Bool) (R := Bool) q_77 (fun y => y) (fun y => [(0, cS s_1), (1, cI at_2), (18, cB y)]) (fun y => []) ?_ ?_
  · skip
    rcases Bool.eq_false_or_eq_true ((decide (at_2 < (0 : Int)))) with b_4 | b_4
    · have H_81 := of_t H_78 b_4
      refine V_reg hN hn [] [(13, true)] calls_nil 0 [0, 1, 18] [] ⟨[(0, cS s_1), (1, cI at_2), (18, cB true)], [], 0⟩ [(decide (at_2 < (0 : Int))) = true] (by kernel_rfl) rfl rfl (ap1 b_4) (by kernel_rfl) (by kernel_rfl) ?_
      have H_83 := Option.some.inj (show some true = some q_77 from H_81); subst H_83
      refine VL_nil ?_
      exact QP_end true rfl [] hn (by kernel_rfl) (by kernel_rfl) rfl rfl rfl
    · have H_82 := of_f H_78 b_4
      refine V_reg hN hn [] [(13, false)] calls_nil 0 [0, 1, 18] [] ⟨[(0, cS s_1), (1, cI at_2), (18, cB (decide (at_2 ≥ (((ByteArray.size s_1) : Nat) : Int))))], [], 0⟩ [(decide (at_2 < (0 : Int))) = false] (by kernel_rfl) rfl rfl (ap1 b_4) (by kernel_rfl) (by kernel_rfl) ?_
      have H_84 := Option.some.inj (show some (decide (at_2 ≥ (((ByteArray.size s_1) : Nat) : Int))) = some q_77 from H_82); subst H_84
      refine VL_nil ?_
      exact QP_end (decide (at_2 ≥ (((ByteArray.size s_1) : Nat) : Int))) rfl [] hn (by kernel_rfl) (by kernel_rfl) rfl rfl rfl
  · intro y_80 hy; subst hy
    skip
    skip
    refine VL_cond (y_80) (by kernel_rfl) ?_ ?_
    · intro b_8; have H_85 := of_t H_79 b_8
      refine V_run hN hn 2 0 [4] [] ⟨[(4, cI (0 : Int))], [], 0⟩ [] (by kernel_rfl) rfl rfl ap0 ?_
      have H_87 := Option.some.inj (show some (0 : Int) = some r from H_85); subst H_87
      refine VL_ret ?_
      exact P_to [(4, cI (0 : Int))] [] [] hn (by kernel_rfl) (by kernel_rfl) rfl rfl rfl (QF_retS (by kernel_rfl) (by kernel_rfl) rfl)
    · intro b_8; have H_86 := of_f H_79 b_8
      obtain ⟨c_10, H_88⟩ := of_if H_86
      refine V_run hN hn 6 0 [0, 1, 5] [] ⟨[(0, cS s_1), (1, cI at_2), (5, cI (w6 (bt s_1 at_2)))], [], 0⟩ [0 ≤ at_2, at_2 < (((ByteArray.size s_1) : Nat) : Int)] (by kernel_rfl) rfl rfl (ap2 c_10.1 (ap1 c_10.2)) ?_
      refine VL_block ?_
      refine V_run hN hn 2 0 [0, 1, 5, 23] [] ⟨[(0, cS s_1), (1, cI at_2), (5, cI (w6 (bt s_1 at_2))), (23, cB (decide ((w6 (bt s_1 at_2)) < (128 : Int))))], [], 0⟩ [] (by kernel_rfl) rfl rfl ap0 ?_
      refine VL_cond ((decide ((w6 (bt s_1 at_2)) < (128 : Int)))) (by kernel_rfl) ?_ ?_
      · intro b_12; have H_89 := of_t H_88 b_12
        refine V_run hN hn 2 0 [4] [] ⟨[(4, cI (1 : Int))], [], 0⟩ [] (by kernel_rfl) rfl rfl ap0 ?_
        have H_91 := Option.some.inj (show some (1 : Int) = some r from H_89); subst H_91
        refine VL_ret ?_
        refine QB_ret ?_
        exact P_to [(4, cI (1 : Int))] [] [] hn (by kernel_rfl) (by kernel_rfl) rfl rfl rfl (QF_retS (by kernel_rfl) (by kernel_rfl) rfl)
      · intro b_12; have H_90 := of_f H_88 b_12
        refine V_run hN hn 1 0 [0, 1, 5, 23] [] ⟨[(0, cS s_1), (1, cI at_2), (5, cI (w6 (bt s_1 at_2))), (23, cB (decide ((w6 (bt s_1 at_2)) < (128 : Int))))], [], 0⟩ [] (by kernel_rfl) rfl rfl ap0 ?_
        obtain ⟨q_92, H_93, H_94⟩ := of_bind H_90
        refine V_cut (Y := Bool) (R := Bool) q_92 (fun y => y) (fun y => [(0, cS s_1), (1, cI at_2), (5, cI (w6 (bt s_1 at_2))), (26, cB y)]) (fun y => []) ?_ ?_
        · skip
          rcases Bool.eq_false_or_eq_true ((decide ((w6 (bt s_1 at_2)) ≥ (192 : Int)))) with b_15 | b_15
          · have H_96 := of_t H_93 b_15
            refine V_reg hN hn [] [(29, true)] calls_nil 0 [0, 1, 5, 26] [] ⟨[(0, cS s_1), (1, cI at_2), (5, cI (w6 (bt s_1 at_2))), (26, cB (decide ((w6 (bt s_1 at_2)) < (224 : Int))))], [], 0⟩ [(decide ((w6 (bt s_1 at_2)) ≥ (192 : Int))) = true] (by kernel_rfl) rfl rfl (ap1 b_15) (by kernel_rfl) (by kernel_rfl) ?_
            have H_98 := Option.some.inj (show some (decide ((w6 (bt s_1 at_2)) < (224 : Int))) = some q_92 from H_96); subst H_98
            refine VL_nil ?_
            exact QP_end (decide ((w6 (bt s_1 at_2)) < (224 : Int))) rfl [] hn (by kernel_rfl) (by kernel_rfl) rfl rfl rfl
          · have H_97 := of_f H_93 b_15
            refine V_reg hN hn [] [(29, false)] calls_nil 0 [0, 1, 5, 26] [] ⟨[(0, cS s_1), (1, cI at_2), (5, cI (w6 (bt s_1 at_2))), (26, cB false)], [], 0⟩ [(decide ((w6 (bt s_1 at_2)) ≥ (192 : Int))) = false] (by kernel_rfl) rfl rfl (ap1 b_15) (by kernel_rfl) (by kernel_rfl) ?_
            have H_99 := Option.some.inj (show some false = some q_92 from H_97); subst H_99
            refine VL_nil ?_
            exact QP_end false rfl [] hn (by kernel_rfl) (by kernel_rfl) rfl rfl rfl
        · intro y_95 hy; subst hy
          skip
          skip
          obtain ⟨q_100, H_101, H_102⟩ := of_bind H_94
          refine V_cut (Y := (Int × Int × Int)) (R := (Int ⊕ (Int × Int × Int))) q_100 (fun y => (Sum.inr y)) (fun y => [(0, cS s_1), (1, cI at_2), (6, cI y.1), (7, cI y.2.1), (8, cI y.2.2)]) (fun y => []) ?_ ?_
          · skip
            refine VL_cond (y_95) (by kernel_rfl) ?_ ?_
            · intro b_19; have H_104 := of_t H_101 b_19
              refine V_run hN hn 1 0 [0, 1, 6, 7, 8] [] ⟨[(0, cS s_1), (1, cI at_2), (6, cI (2 : Int)), (7, cI (w6 (BitVec.toNat (BitVec.ofInt (IntKind.bits .i64) (w6 (bt s_1 at_2)) &&& BitVec.ofInt (IntKind.bits .i64) (31 : Int))))), (8, cI (128 : Int))], [], 0⟩ [] (by kernel_rfl) rfl rfl ap0 ?_
              have H_106 := Option.some.inj (show some (Sum.inr ((2 : Int), (w6 (BitVec.toNat (BitVec.ofInt (IntKind.bits .i64) (w6 (bt s_1 at_2)) &&& BitVec.ofInt (IntKind.bits .i64) (31 : Int)))), (128 : Int))) = some q_100 from H_104); subst H_106
              refine VL_nil ?_
              exact QP_end ((2 : Int), (w6 (BitVec.toNat (BitVec.ofInt (IntKind.bits .i64) (w6 (bt s_1 at_2)) &&& BitVec.ofInt (IntKind.bits .i64) (31 : Int)))), (128 : Int)) rfl [] hn (by kernel_rfl) (by kernel_rfl) rfl rfl rfl
            · intro b_19; have H_105 := of_f H_101 b_19
              refine V_run hN hn 1 0 [0, 1, 5, 26] [] ⟨[(0, cS s_1), (1, cI at_2), (5, cI (w6 (bt s_1 at_2))), (26, cB y_95)], [], 0⟩ [] (by kernel_rfl) rfl rfl ap0 ?_
              obtain ⟨q_107, H_108, H_109⟩ := of_bind H_105
              refine V_cut (Y := Bool) (R := Bool) q_107 (fun y => y) (fun y => [(0, cS s_1), (1, cI at_2), (5, cI (w6 (bt s_1 at_2))), (35, cB y)]) (fun y => []) ?_ ?_
              · skip
                rcases Bool.eq_false_or_eq_true ((decide ((w6 (bt s_1 at_2)) ≥ (224 : Int)))) with b_22 | b_22
                · have H_111 := of_t H_108 b_22
                  refine V_reg hN hn [] [(38, true)] calls_nil 0 [0, 1, 5, 35] [] ⟨[(0, cS s_1), (1, cI at_2), (5, cI (w6 (bt s_1 at_2))), (35, cB (decide ((w6 (bt s_1 at_2)) < (240 : Int))))], [], 0⟩ [(decide ((w6 (bt s_1 at_2)) ≥ (224 : Int))) = true] (by kernel_rfl) rfl rfl (ap1 b_22) (by kernel_rfl) (by kernel_rfl) ?_
                  have H_113 := Option.some.inj (show some (decide ((w6 (bt s_1 at_2)) < (240 : Int))) = some q_107 from H_111); subst H_113
                  refine VL_nil ?_
                  exact QP_end (decide ((w6 (bt s_1 at_2)) < (240 : Int))) rfl [] hn (by kernel_rfl) (by kernel_rfl) rfl rfl rfl
                · have H_112 := of_f H_108 b_22
                  refine V_reg hN hn [] [(38, false)] calls_nil 0 [0, 1, 5, 35] [] ⟨[(0, cS s_1), (1, cI at_2), (5, cI (w6 (bt s_1 at_2))), (35, cB false)], [], 0⟩ [(decide ((w6 (bt s_1 at_2)) ≥ (224 : Int))) = false] (by kernel_rfl) rfl rfl (ap1 b_22) (by kernel_rfl) (by kernel_rfl) ?_
                  have H_114 := Option.some.inj (show some false = some q_107 from H_112); subst H_114
                  refine VL_nil ?_
                  exact QP_end false rfl [] hn (by kernel_rfl) (by kernel_rfl) rfl rfl rfl
              · intro y_110 hy; subst hy
                skip
                skip
                refine VL_cond (y_110) (by kernel_rfl) ?_ ?_
                · intro b_26; have H_115 := of_t H_109 b_26
                  refine V_run hN hn 1 0 [0, 1, 6, 7, 8] [] ⟨[(0, cS s_1), (1, cI at_2), (6, cI (3 : Int)), (7, cI (w6 (BitVec.toNat (BitVec.ofInt (IntKind.bits .i64) (w6 (bt s_1 at_2)) &&& BitVec.ofInt (IntKind.bits .i64) (15 : Int))))), (8, cI (2048 : Int))], [], 0⟩ [] (by kernel_rfl) rfl rfl ap0 ?_
                  have H_117 := Option.some.inj (show some (Sum.inr ((3 : Int), (w6 (BitVec.toNat (BitVec.ofInt (IntKind.bits .i64) (w6 (bt s_1 at_2)) &&& BitVec.ofInt (IntKind.bits .i64) (15 : Int)))), (2048 : Int))) = some q_100 from H_115); subst H_117
                  refine VL_nil ?_
                  exact QP_end ((3 : Int), (w6 (BitVec.toNat (BitVec.ofInt (IntKind.bits .i64) (w6 (bt s_1 at_2)) &&& BitVec.ofInt (IntKind.bits .i64) (15 : Int)))), (2048 : Int)) rfl [] hn (by kernel_rfl) (by kernel_rfl) rfl rfl rfl
                · intro b_26; have H_116 := of_f H_109 b_26
                  refine V_run hN hn 1 0 [0, 1, 5, 35] [] ⟨[(0, cS s_1), (1, cI at_2), (5, cI (w6 (bt s_1 at_2))), (35, cB y_110)], [], 0⟩ [] (by kernel_rfl) rfl rfl ap0 ?_
                  obtain ⟨q_118, H_119, H_120⟩ := of_bind H_116
                  refine V_cut (Y := Bool) (R := Bool) q_118 (fun y => y) (fun y => [(0, cS s_1), (1, cI at_2), (5, cI (w6 (bt s_1 at_2))), (44, cB y)]) (fun y => []) ?_ ?_
                  · skip
                    rcases Bool.eq_false_or_eq_true ((decide ((w6 (bt s_1 at_2)) ≥ (240 : Int)))) with b_29 | b_29
                    · have H_122 := of_t H_119 b_29
                      refine V_reg hN hn [] [(47, true)] calls_nil 0 [0, 1, 5, 44] [] ⟨[(0, cS s_1), (1, cI at_2), (5, cI (w6 (bt s_1 at_2))), (44, cB (decide ((w6 (bt s_1 at_2)) < (248 : Int))))], [], 0⟩ [(decide ((w6 (bt s_1 at_2)) ≥ (240 : Int))) = true] (by kernel_rfl) rfl rfl (ap1 b_29) (by kernel_rfl) (by kernel_rfl) ?_
                      have H_124 := Option.some.inj (show some (decide ((w6 (bt s_1 at_2)) < (248 : Int))) = some q_118 from H_122); subst H_124
                      refine VL_nil ?_
                      exact QP_end (decide ((w6 (bt s_1 at_2)) < (248 : Int))) rfl [] hn (by kernel_rfl) (by kernel_rfl) rfl rfl rfl
                    · have H_123 := of_f H_119 b_29
                      refine V_reg hN hn [] [(47, false)] calls_nil 0 [0, 1, 5, 44] [] ⟨[(0, cS s_1), (1, cI at_2), (5, cI (w6 (bt s_1 at_2))), (44, cB false)], [], 0⟩ [(decide ((w6 (bt s_1 at_2)) ≥ (240 : Int))) = false] (by kernel_rfl) rfl rfl (ap1 b_29) (by kernel_rfl) (by kernel_rfl) ?_
                      have H_125 := Option.some.inj (show some false = some q_118 from H_123); subst H_125
                      refine VL_nil ?_
                      exact QP_end false rfl [] hn (by kernel_rfl) (by kernel_rfl) rfl rfl rfl
                  · intro y_121 hy; subst hy
                    skip
                    skip
                    refine VL_cond (y_121) (by kernel_rfl) ?_ ?_
                    · intro b_33; have H_126 := of_t H_120 b_33
                      refine V_run hN hn 1 0 [0, 1, 6, 7, 8] [] ⟨[(0, cS s_1), (1, cI at_2), (6, cI (4 : Int)), (7, cI (w6 (BitVec.toNat (BitVec.ofInt (IntKind.bits .i64) (w6 (bt s_1 at_2)) &&& BitVec.ofInt (IntKind.bits .i64) (7 : Int))))), (8, cI (65536 : Int))], [], 0⟩ [] (by kernel_rfl) rfl rfl ap0 ?_
                      have H_128 := Option.some.inj (show some (Sum.inr ((4 : Int), (w6 (BitVec.toNat (BitVec.ofInt (IntKind.bits .i64) (w6 (bt s_1 at_2)) &&& BitVec.ofInt (IntKind.bits .i64) (7 : Int)))), (65536 : Int))) = some q_100 from H_126); subst H_128
                      refine VL_nil ?_
                      exact QP_end ((4 : Int), (w6 (BitVec.toNat (BitVec.ofInt (IntKind.bits .i64) (w6 (bt s_1 at_2)) &&& BitVec.ofInt (IntKind.bits .i64) (7 : Int)))), (65536 : Int)) rfl [] hn (by kernel_rfl) (by kernel_rfl) rfl rfl rfl
                    · intro b_33; have H_127 := of_f H_120 b_33
                      refine V_run hN hn 2 0 [4] [] ⟨[(4, cI (0 : Int))], [], 0⟩ [] (by kernel_rfl) rfl rfl ap0 ?_
                      have H_129 := Option.some.inj (show some (Sum.inl (0 : Int)) = some q_100 from H_127); subst H_129
                      have H_130 := Option.some.inj (show some (0 : Int) = some r from H_102); subst H_130
                      refine VL_ret ?_
                      refine QP_ret ?_
                      refine QB_ret ?_
                      exact P_to [(4, cI (0 : Int))] [] [] hn (by kernel_rfl) (by kernel_rfl) rfl rfl rfl (QF_retS (by kernel_rfl) (by kernel_rfl) rfl)
          · intro y_103 hy; subst hy
            obtain ⟨n_36, v_37, least_38⟩ := y_103
            refine VL_nil (QB_end ?_)
            refine V_run hN hn 3 0 [0, 1, 6, 7, 8, 58] [] ⟨[(0, cS s_1), (1, cI at_2), (6, cI n_36), (7, cI v_37), (8, cI least_38), (58, cB (decide ((w6 ((((ByteArray.size s_1) : Nat) : Int) - at_2)) < n_36)))], [], 0⟩ [] (by kernel_rfl) rfl rfl ap0 ?_
            refine VL_cond ((decide ((w6 ((((ByteArray.size s_1) : Nat) : Int) - at_2)) < n_36))) (by kernel_rfl) ?_ ?_
            · intro b_40; have H_131 := of_t H_102 b_40
              refine V_run hN hn 2 0 [4] [] ⟨[(4, cI (0 : Int))], [], 0⟩ [] (by kernel_rfl) rfl rfl ap0 ?_
              have H_133 := Option.some.inj (show some (0 : Int) = some r from H_131); subst H_133
              refine VL_ret ?_
              exact P_to [(4, cI (0 : Int))] [] [] hn (by kernel_rfl) (by kernel_rfl) rfl rfl rfl (QF_retS (by kernel_rfl) (by kernel_rfl) rfl)
            · intro b_40; have H_132 := of_f H_102 b_40
              refine V_run hN hn 4 0 [0, 1, 6, 7, 8, 9] [] ⟨[(0, cS s_1), (1, cI at_2), (6, cI n_36), (7, cI v_37), (8, cI least_38), (9, cI (1 : Int))], [], 0⟩ [] (by kernel_rfl) rfl rfl ap0 ?_
              obtain ⟨q_134, H_135, H_136⟩ := of_bind H_132
              refine V_cut (Y := Int) (R := (Int ⊕ Int)) q_134 (fun y => (Sum.inr y)) (fun y => [(6, cI n_36), (7, cI y), (8, cI least_38)]) (fun y => []) ?_ ?_
              · skip
                refine VL_block ?_
                refine V_to [(0, cS s_1), (1, cI at_2), (6, cI n_36), (7, cI v_37), (8, cI least_38), (9, cI (1 : Int))] [] [] hn (by kernel_rfl) (by kernel_rfl) rfl rfl rfl ?_
                refine VL_loop (X := (Int × Int)) (fun x => [(0, cS s_1), (1, cI at_2), (6, cI n_36), (7, cI x.1), (8, cI least_38), (9, cI x.2)]) (fun x => []) (fun k x => palinoderef1_Size.l0 K n_36 at_2 s_1 k x.1 x.2 = some q_134) K (v_37, (1 : Int)) H_135 (fun _ h => no_none h) ?_
                intro k_45 x_45 H_138
                obtain ⟨v_43, i_44⟩ := x_45
                have H_139 : palinoderef1_Size.l0 K n_36 at_2 s_1 (k_45 + 1) v_43 i_44 = some q_134 := H_138
                rw [palinoderef1_Size.l0] at H_139
                refine V_run hN hn 3 0 [0, 1, 6, 7, 8, 9, 61] [] ⟨[(0, cS s_1), (1, cI at_2), (6, cI n_36), (7, cI v_43), (8, cI least_38), (9, cI i_44), (61, cB (decide (i_44 < n_36)))], [], 0⟩ [] (by kernel_rfl) rfl rfl ap0 ?_
                refine VL_cond ((decide (i_44 < n_36))) (by kernel_rfl) ?_ ?_
                · intro b_47; have H_140 := of_t H_139 b_47
                  refine V_run hN hn 2 0 [0, 1, 6, 7, 8, 9, 61] [] ⟨[(0, cS s_1), (1, cI at_2), (6, cI n_36), (7, cI v_43), (8, cI least_38), (9, cI i_44), (61, cB (decide (i_44 < n_36)))], [], 0⟩ [] (by kernel_rfl) rfl rfl ap0 ?_
                  refine VL_block ?_
                  obtain ⟨c_49, H_142⟩ := of_if H_140
                  refine V_run hN hn 5 0 [0, 1, 6, 7, 8, 9, 10, 72] [] ⟨[(0, cS s_1), (1, cI at_2), (6, cI n_36), (7, cI v_43), (8, cI least_38), (9, cI i_44), (10, cI (w6 (bt s_1 (w6 (at_2 + i_44))))), (72, cB ((Int.fdiv (w6 (bt s_1 (w6 (at_2 + i_44)))) (64 : Int)) != (2 : Int)))], [], 0⟩ [0 ≤ (w6 (at_2 + i_44)), (w6 (at_2 + i_44)) < (((ByteArray.size s_1) : Nat) : Int), (0 : Int) ≤ (6 : Int)] (by kernel_rfl) rfl rfl (ap2 c_49.1 (ap2 c_49.2 (ap1 (by decide)))) ?_
                  refine VL_cond (((Int.fdiv (w6 (bt s_1 (w6 (at_2 + i_44)))) (64 : Int)) != (2 : Int))) (by kernel_rfl) ?_ ?_
                  · intro b_50; have H_143 := of_t H_142 b_50
                    refine V_run hN hn 2 0 [4] [] ⟨[(4, cI (0 : Int))], [], 0⟩ [] (by kernel_rfl) rfl rfl ap0 ?_
                    have H_145 := Option.some.inj (show some (Sum.inl (0 : Int)) = some q_134 from H_143); subst H_145
                    have H_146 := Option.some.inj (show some (0 : Int) = some r from H_136); subst H_146
                    refine VL_ret ?_
                    refine QB_ret ?_
                    refine QL_ret ?_
                    refine QB_ret ?_
                    refine QP_ret ?_
                    exact P_to [(4, cI (0 : Int))] [] [] hn (by kernel_rfl) (by kernel_rfl) rfl rfl rfl (QF_retS (by kernel_rfl) (by kernel_rfl) rfl)
                  · intro b_50; have H_144 := of_f H_142 b_50
                    refine V_run hN hn 2 0 [0, 1, 6, 7, 8, 9] [] ⟨[(0, cS s_1), (1, cI at_2), (6, cI n_36), (7, cI (w6 (BitVec.toNat (BitVec.ofInt (IntKind.bits .i64) (w6 (v_43 * (64 : Int))) ||| BitVec.ofInt (IntKind.bits .i64) (w6 (BitVec.toNat (BitVec.ofInt (IntKind.bits .i64) (w6 (bt s_1 (w6 (at_2 + i_44)))) &&& BitVec.ofInt (IntKind.bits .i64) (63 : Int)))))))), (8, cI least_38), (9, cI i_44)], [], 0⟩ [(0 : Int) ≤ (6 : Int)] (by kernel_rfl) rfl rfl (ap1 (by decide)) ?_
                    refine VL_nil (QB_end ?_)
                    refine V_run hN hn 1 0 [0, 1, 6, 7, 8, 9] [] ⟨[(0, cS s_1), (1, cI at_2), (6, cI n_36), (7, cI (w6 (BitVec.toNat (BitVec.ofInt (IntKind.bits .i64) (w6 (v_43 * (64 : Int))) ||| BitVec.ofInt (IntKind.bits .i64) (w6 (BitVec.toNat (BitVec.ofInt (IntKind.bits .i64) (w6 (bt s_1 (w6 (at_2 + i_44)))) &&& BitVec.ofInt (IntKind.bits .i64) (63 : Int)))))))), (8, cI least_38), (9, cI (w6 (i_44 + (1 : Int))))], [], 0⟩ [] (by kernel_rfl) rfl rfl ap0 ?_
                    refine VL_nil ?_
                    exact V_roundEnd ((w6 (BitVec.toNat (BitVec.ofInt (IntKind.bits .i64) (w6 (v_43 * (64 : Int))) ||| BitVec.ofInt (IntKind.bits .i64) (w6 (BitVec.toNat (BitVec.ofInt (IntKind.bits .i64) (w6 (bt s_1 (w6 (at_2 + i_44)))) &&& BitVec.ofInt (IntKind.bits .i64) (63 : Int))))))), (w6 (i_44 + (1 : Int)))) H_144 [] hn (by kernel_rfl) (by kernel_rfl) rfl rfl rfl
                · intro b_47; have H_141 := of_f H_139 b_47
                  refine VL_exit ?_
                  refine QL_exit ?_
                  refine QB_here ?_
                  have H_147 := Option.some.inj (show some (Sum.inr v_43) = some q_134 from H_141); subst H_147
                  refine VL_nil ?_
                  exact QP_end v_43 rfl [] hn (by kernel_rfl) (by kernel_rfl) rfl rfl rfl
              · intro y_137 hy; subst hy
                skip
                skip
                refine V_run hN hn 2 0 [6, 7, 8] [] ⟨[(6, cI n_36), (7, cI y_137), (8, cI least_38)], [], 0⟩ [] (by kernel_rfl) rfl rfl ap0 ?_
                obtain ⟨q_148, H_149, H_150⟩ := of_bind H_136
                refine V_cut (Y := Bool) (R := Bool) q_148 (fun y => y) (fun y => [(6, cI n_36), (92, cB y)]) (fun y => []) ?_ ?_
                · skip
                  rcases Bool.eq_false_or_eq_true ((decide (y_137 < least_38))) with b_56 | b_56
                  · have H_152 := of_t H_149 b_56
                    refine V_reg hN hn [] [(81, true)] calls_nil 0 [6, 92] [] ⟨[(6, cI n_36), (92, cB true)], [], 0⟩ [(decide (y_137 < least_38)) = true] (by kernel_rfl) rfl rfl (ap1 b_56) (by kernel_rfl) (by kernel_rfl) ?_
                    have H_154 := Option.some.inj (show some true = some q_148 from H_152); subst H_154
                    refine VL_nil ?_
                    exact QP_end true rfl [] hn (by kernel_rfl) (by kernel_rfl) rfl rfl rfl
                  · have H_153 := of_f H_149 b_56
                    rcases Bool.eq_false_or_eq_true ((decide (y_137 > (1114111 : Int)))) with b_58 | b_58
                    · have H_155 := of_t H_153 b_58
                      refine V_reg hN hn [] [(81, false), (85, true)] calls_nil 0 [6, 92] [] ⟨[(6, cI n_36), (92, cB true)], [], 0⟩ [(decide (y_137 < least_38)) = false, (decide (y_137 > (1114111 : Int))) = true] (by kernel_rfl) rfl rfl (ap2 b_56 (ap1 b_58)) (by kernel_rfl) (by kernel_rfl) ?_
                      have H_157 := Option.some.inj (show some true = some q_148 from H_155); subst H_157
                      refine VL_nil ?_
                      exact QP_end true rfl [] hn (by kernel_rfl) (by kernel_rfl) rfl rfl rfl
                    · have H_156 := of_f H_153 b_58
                      rcases Bool.eq_false_or_eq_true ((decide (y_137 ≥ (55296 : Int)))) with b_60 | b_60
                      · have H_158 := of_t H_156 b_60
                        refine V_reg hN hn [] [(81, false), (85, false), (88, true)] calls_nil 0 [6, 92] [] ⟨[(6, cI n_36), (92, cB (decide (y_137 < (57344 : Int))))], [], 0⟩ [(decide (y_137 < least_38)) = false, (decide (y_137 > (1114111 : Int))) = false, (decide (y_137 ≥ (55296 : Int))) = true] (by kernel_rfl) rfl rfl (ap2 b_56 (ap2 b_58 (ap1 b_60))) (by kernel_rfl) (by kernel_rfl) ?_
                        have H_160 := Option.some.inj (show some (decide (y_137 < (57344 : Int))) = some q_148 from H_158); subst H_160
                        refine VL_nil ?_
                        exact QP_end (decide (y_137 < (57344 : Int))) rfl [] hn (by kernel_rfl) (by kernel_rfl) rfl rfl rfl
                      · have H_159 := of_f H_156 b_60
                        refine V_reg hN hn [] [(81, false), (85, false), (88, false)] calls_nil 0 [6, 92] [] ⟨[(6, cI n_36), (92, cB false)], [], 0⟩ [(decide (y_137 < least_38)) = false, (decide (y_137 > (1114111 : Int))) = false, (decide (y_137 ≥ (55296 : Int))) = false] (by kernel_rfl) rfl rfl (ap2 b_56 (ap2 b_58 (ap1 b_60))) (by kernel_rfl) (by kernel_rfl) ?_
                        have H_161 := Option.some.inj (show some false = some q_148 from H_159); subst H_161
                        refine VL_nil ?_
                        exact QP_end false rfl [] hn (by kernel_rfl) (by kernel_rfl) rfl rfl rfl
                · intro y_151 hy; subst hy
                  skip
                  skip
                  refine VL_cond (y_151) (by kernel_rfl) ?_ ?_
                  · intro b_64; have H_162 := of_t H_150 b_64
                    refine V_run hN hn 2 0 [4] [] ⟨[(4, cI (0 : Int))], [], 0⟩ [] (by kernel_rfl) rfl rfl ap0 ?_
                    have H_164 := Option.some.inj (show some (0 : Int) = some r from H_162); subst H_164
                    refine VL_ret ?_
                    exact P_to [(4, cI (0 : Int))] [] [] hn (by kernel_rfl) (by kernel_rfl) rfl rfl rfl (QF_retS (by kernel_rfl) (by kernel_rfl) rfl)
                  · intro b_64; have H_163 := of_f H_150 b_64
                    refine V_run hN hn 3 0 [4] [] ⟨[(4, cI n_36)], [], 0⟩ [] (by kernel_rfl) rfl rfl ap0 ?_
                    have H_165 := Option.some.inj (show some n_36 = some r from H_163); subst H_165
                    refine VL_ret ?_
                    exact P_to [(4, cI n_36)] [] [] hn (by kernel_rfl) (by kernel_rfl) rfl rfl rfl (QF_retS (by kernel_rfl) (by kernel_rfl) rfl)

theorem palinoderef1_Valid_spec (K : Nat) (s_1 : ByteArray) (r : Bool) (H : palinoderef1_Valid K s_1 = some r) : Spec Try.prog 22 0 [cS s_1] [] (cB r) [] := by
  refine Spec_mk (fn := Try.f22) (c := (Try.f22.body).get!) Try.func22 (by kernel_rfl) rfl ?_
  intro C hN hn
  replace hN : C.N = 17 := hN
  unfold palinoderef1_Valid at H
  refine V_run hN hn 5 0 [0, 3] [] ⟨[(0, cS s_1), (3, cI (0 : Int))], [], 0⟩ [] (by kernel_rfl) rfl rfl ap0 ?_
  refine VL_block ?_
  refine V_to [(0, cS s_1), (3, cI (0 : Int))] [] [] hn (by kernel_rfl) (by kernel_rfl) rfl rfl rfl ?_
  refine VL_loop (X := Int) (fun x => [(0, cS s_1), (3, cI x)]) (fun x => []) (fun k x => palinoderef1_Valid.l0 K s_1 k x = some r) K (0 : Int) H (fun _ h => no_none h) ?_
  intro k_4 at_3 H_18
  have H_19 : palinoderef1_Valid.l0 K s_1 (k_4 + 1) at_3 = some r := H_18
  rw [palinoderef1_Valid.l0] at H_19
  refine V_run hN hn 3 0 [0, 3, 8] [] ⟨[(0, cS s_1), (3, cI at_3), (8, cB (decide (at_3 < (((ByteArray.size s_1) : Nat) : Int))))], [], 0⟩ [] (by kernel_rfl) rfl rfl ap0 ?_
  refine VL_cond ((decide (at_3 < (((ByteArray.size s_1) : Nat) : Int)))) (by kernel_rfl) ?_ ?_
  · intro b_6; have H_20 := of_t H_19 b_6
    refine V_run hN hn 1 0 [0, 3, 8] [] ⟨[(0, cS s_1), (3, cI at_3), (8, cB (decide (at_3 < (((ByteArray.size s_1) : Nat) : Int))))], [], 0⟩ [] (by kernel_rfl) rfl rfl ap0 ?_
    refine VL_block ?_
    refine V_run hN hn 1 0 [0, 3, 8] [] ⟨[(0, cS s_1), (3, cI at_3), (8, cB (decide (at_3 < (((ByteArray.size s_1) : Nat) : Int))))], [], 0⟩ [] (by kernel_rfl) rfl rfl ap0 ?_
    obtain ⟨r_9, h_10, H_22⟩ := of_bind H_20
    refine V_reg hN hn [(2, ⟨44, 0, [cS s_1, cI at_3], [], cI r_9, [], [], 0⟩)] [] (calls_cons (palinoderef1_Size_spec K s_1 at_3 r_9 h_10) (by kernel_rfl) calls_nil) 0 [0, 3, 4] [] ⟨[(0, cS s_1), (3, cI at_3), (4, cI r_9)], [], 0⟩ [] (by kernel_rfl) rfl rfl ap0 (by kernel_rfl) (by kernel_rfl) ?_
    refine V_run hN hn 3 0 [0, 3, 4, 13] [] ⟨[(0, cS s_1), (3, cI at_3), (4, cI r_9), (13, cB (r_9 == (0 : Int)))], [], 0⟩ [] (by kernel_rfl) rfl rfl ap0 ?_
    refine VL_cond ((r_9 == (0 : Int))) (by kernel_rfl) ?_ ?_
    · intro b_13; have H_23 := of_t H_22 b_13
      refine V_run hN hn 2 0 [2] [] ⟨[(2, cB false)], [], 0⟩ [] (by kernel_rfl) rfl rfl ap0 ?_
      have H_25 := Option.some.inj (show some false = some r from H_23); subst H_25
      refine VL_ret ?_
      refine QB_ret ?_
      refine QL_ret ?_
      refine QB_ret ?_
      exact P_to [(2, cB false)] [] [] hn (by kernel_rfl) (by kernel_rfl) rfl rfl rfl (QF_retS (by kernel_rfl) (by kernel_rfl) rfl)
    · intro b_13; have H_24 := of_f H_22 b_13
      refine V_run hN hn 2 0 [0, 3] [] ⟨[(0, cS s_1), (3, cI (w6 (at_3 + r_9)))], [], 0⟩ [] (by kernel_rfl) rfl rfl ap0 ?_
      refine VL_nil (QB_end ?_)
      refine VL_nil ?_
      exact V_roundEnd (w6 (at_3 + r_9)) H_24 [] hn (by kernel_rfl) (by kernel_rfl) rfl rfl rfl
  · intro b_6; have H_21 := of_f H_19 b_6
    refine VL_exit ?_
    refine QL_exit ?_
    refine QB_here ?_
    refine V_run hN hn 2 0 [2] [] ⟨[(2, cB true)], [], 0⟩ [] (by kernel_rfl) rfl rfl ap0 ?_
    have H_26 := Option.some.inj (show some true = some r from H_21); subst H_26
    refine VL_ret ?_
    exact P_to [(2, cB true)] [] [] hn (by kernel_rfl) (by kernel_rfl) rfl rfl rfl (QF_retS (by kernel_rfl) (by kernel_rfl) rfl)

theorem palinoderef1_IsEdge_spec (K : Nat) (s_1 : ByteArray) (at_2 : Int) (r : Bool) (H : palinoderef1_IsEdge K s_1 at_2 = some r) : Spec Try.prog 23 0 [cS s_1, cI at_2] [] (cB r) [] := by
  refine Spec_mk (fn := Try.f23) (c := (Try.f23.body).get!) Try.func23 (by kernel_rfl) rfl ?_
  intro C hN hn
  replace hN : C.N = 30 := hN
  unfold palinoderef1_IsEdge at H
  refine V_run hN hn 4 0 [0, 1] [] ⟨[(0, cS s_1), (1, cI at_2)], [], 0⟩ [] (by kernel_rfl) rfl rfl ap0 ?_
  obtain ⟨q_20, H_21, H_22⟩ := of_bind H
  refine V_cut (Y := Bool) (R := Bool) q_20 (fun y => y) (fun y => [(0, cS s_1), (1, cI at_2), (17, cB y)]) (fun y => []) ?_ ?_
  · skip
    rcases Bool.eq_false_or_eq_true ((decide (at_2 < (0 : Int)))) with b_4 | b_4
    · have H_24 := of_t H_21 b_4
      refine V_reg hN hn [] [(7, true)] calls_nil 0 [0, 1, 17] [] ⟨[(0, cS s_1), (1, cI at_2), (17, cB true)], [], 0⟩ [(decide (at_2 < (0 : Int))) = true] (by kernel_rfl) rfl rfl (ap1 b_4) (by kernel_rfl) (by kernel_rfl) ?_
      have H_26 := Option.some.inj (show some true = some q_20 from H_24); subst H_26
      refine VL_nil ?_
      exact QP_end true rfl [] hn (by kernel_rfl) (by kernel_rfl) rfl rfl rfl
    · have H_25 := of_f H_21 b_4
      rcases Bool.eq_false_or_eq_true ((decide (at_2 > (((ByteArray.size s_1) : Nat) : Int)))) with b_6 | b_6
      · have H_27 := of_t H_25 b_6
        refine V_reg hN hn [] [(7, false), (13, true)] calls_nil 0 [0, 1, 17] [] ⟨[(0, cS s_1), (1, cI at_2), (17, cB true)], [], 0⟩ [(decide (at_2 < (0 : Int))) = false, (decide (at_2 > (((ByteArray.size s_1) : Nat) : Int))) = true] (by kernel_rfl) rfl rfl (ap2 b_4 (ap1 b_6)) (by kernel_rfl) (by kernel_rfl) ?_
        have H_29 := Option.some.inj (show some true = some q_20 from H_27); subst H_29
        refine VL_nil ?_
        exact QP_end true rfl [] hn (by kernel_rfl) (by kernel_rfl) rfl rfl rfl
      · have H_28 := of_f H_25 b_6
        obtain ⟨r_8, h_9, H_30⟩ := of_bind H_28
        refine V_reg hN hn [(10, ⟨22, 0, [cS s_1], [], cB r_8, [], [], 0⟩)] [(7, false), (13, false)] (calls_cons (palinoderef1_Valid_spec K s_1 r_8 h_9) (by kernel_rfl) calls_nil) 0 [0, 1, 17] [] ⟨[(0, cS s_1), (1, cI at_2), (17, cB (!r_8))], [], 0⟩ [(decide (at_2 < (0 : Int))) = false, (decide (at_2 > (((ByteArray.size s_1) : Nat) : Int))) = false] (by kernel_rfl) rfl rfl (ap2 b_4 (ap1 b_6)) (by kernel_rfl) (by kernel_rfl) ?_
        have H_31 := Option.some.inj (show some (!r_8) = some q_20 from H_30); subst H_31
        refine VL_nil ?_
        exact QP_end (!r_8) rfl [] hn (by kernel_rfl) (by kernel_rfl) rfl rfl rfl
  · intro y_23 hy; subst hy
    skip
    skip
    refine VL_cond (y_23) (by kernel_rfl) ?_ ?_
    · intro b_12; have H_32 := of_t H_22 b_12
      refine V_run hN hn 2 0 [4] [] ⟨[(4, cB false)], [], 0⟩ [] (by kernel_rfl) rfl rfl ap0 ?_
      have H_34 := Option.some.inj (show some false = some r from H_32); subst H_34
      refine VL_ret ?_
      exact P_to [(4, cB false)] [] [] hn (by kernel_rfl) (by kernel_rfl) rfl rfl rfl (QF_retS (by kernel_rfl) (by kernel_rfl) rfl)
    · intro b_12; have H_33 := of_f H_22 b_12
      refine V_run hN hn 2 0 [0, 1, 17] [] ⟨[(0, cS s_1), (1, cI at_2), (17, cB y_23)], [], 0⟩ [] (by kernel_rfl) rfl rfl ap0 ?_
      rcases Bool.eq_false_or_eq_true ((at_2 == (((ByteArray.size s_1) : Nat) : Int))) with b_15 | b_15
      · have H_35 := of_t H_33 b_15
        refine V_reg hN hn [] [(22, true)] calls_nil 0 [4] [] ⟨[(4, cB true)], [], 0⟩ [(at_2 == (((ByteArray.size s_1) : Nat) : Int)) = true] (by kernel_rfl) rfl rfl (ap1 b_15) (by kernel_rfl) (by kernel_rfl) ?_
        have H_37 := Option.some.inj (show some true = some r from H_35); subst H_37
        refine VL_ret ?_
        exact P_to [(4, cB true)] [] [] hn (by kernel_rfl) (by kernel_rfl) rfl rfl rfl (QF_retS (by kernel_rfl) (by kernel_rfl) rfl)
      · have H_36 := of_f H_33 b_15
        obtain ⟨c_17, H_38⟩ := of_if H_36
        refine V_reg hN hn [] [(22, false)] calls_nil 0 [4] [] ⟨[(4, cB ((Int.fdiv (w6 (bt s_1 at_2)) (64 : Int)) != (2 : Int)))], [], 0⟩ [(at_2 == (((ByteArray.size s_1) : Nat) : Int)) = false, 0 ≤ at_2, at_2 < (((ByteArray.size s_1) : Nat) : Int), (0 : Int) ≤ (6 : Int)] (by kernel_rfl) rfl rfl (ap2 b_15 (ap2 c_17.1 (ap2 c_17.2 (ap1 (by decide))))) (by kernel_rfl) (by kernel_rfl) ?_
        have H_39 := Option.some.inj (show some ((Int.fdiv (w6 (bt s_1 at_2)) (64 : Int)) != (2 : Int)) = some r from H_38); subst H_39
        refine VL_ret ?_
        exact P_to [(4, cB ((Int.fdiv (w6 (bt s_1 at_2)) (64 : Int)) != (2 : Int)))] [] [] hn (by kernel_rfl) (by kernel_rfl) rfl rfl rfl (QF_retS (by kernel_rfl) (by kernel_rfl) rfl)

theorem palinodelaw24_same_rr_spec (K : Nat) (a_1 : (List (Int × Int))) (b_2 : (List (Int × Int))) (r : Bool) (H : palinodelaw24_same_rg K a_1 b_2 = some r) : Spec Try.prog 11 2 [.c (.h 0), .c (.h 1)] [(0, .row kP a_1), (1, .row kP b_2)] (cB r) [(0, .row kP a_1), (1, .row kP b_2)] := by
  refine Spec_mk (fn := Try.f11) (c := (Try.f11.body).get!) Try.func11 (by kernel_rfl) rfl ?_
  intro C hN hn
  replace hN : C.N = 26 := hN
  unfold palinodelaw24_same_rg at H
  refine V_run hN hn 5 2 [0, 1, 10] [0, 1] ⟨[(0, .c (.h 0)), (1, .c (.h 1)), (10, cB ((lnI a_1) != (lnI b_2)))], [(0, .row kP a_1), (1, .row kP b_2)], 2⟩ [] (by kernel_rfl) rfl rfl ap0 ?_
  refine VL_cond (((lnI a_1) != (lnI b_2))) (by kernel_rfl) ?_ ?_
  · intro b_4; have H_20 := of_t H b_4
    refine V_run hN hn 2 2 [4] [0, 1] ⟨[(4, cB false)], [(0, .row kP a_1), (1, .row kP b_2)], 2⟩ [] (by kernel_rfl) rfl rfl ap0 ?_
    have H_22 := Option.some.inj (show some false = some r from H_20); subst H_22
    refine VL_ret ?_
    exact P_to [(4, cB false)] [(0, .row kP a_1), (1, .row kP b_2)] [] hn (by kernel_rfl) (by kernel_rfl) rfl rfl rfl (QF_retS (by kernel_rfl) (by kernel_rfl) rfl)
  · intro b_4; have H_21 := of_f H b_4
    refine V_run hN hn 4 2 [0, 1, 5] [0, 1] ⟨[(0, .c (.h 0)), (1, .c (.h 1)), (5, cI (0 : Int))], [(0, .row kP a_1), (1, .row kP b_2)], 2⟩ [] (by kernel_rfl) rfl rfl ap0 ?_
    refine VL_block ?_
    refine V_to [(0, .c (.h 0)), (1, .c (.h 1)), (5, cI (0 : Int))] [(0, .row kP a_1), (1, .row kP b_2)] [] hn (by kernel_rfl) (by kernel_rfl) rfl rfl rfl ?_
    refine VL_loop (X := Int) (fun x => [(0, .c (.h 0)), (1, .c (.h 1)), (5, cI x)]) (fun x => [(0, .row kP a_1), (1, .row kP b_2)]) (fun k x => palinodelaw24_same_rg.l0 K a_1 b_2 k x = some r) K (0 : Int) H_21 (fun _ h => no_none h) ?_
    intro k_8 i_7 H_23
    have H_24 : palinodelaw24_same_rg.l0 K a_1 b_2 (k_8 + 1) i_7 = some r := H_23
    rw [palinodelaw24_same_rg.l0] at H_24
    refine V_run hN hn 3 2 [0, 1, 5, 14] [0, 1] ⟨[(0, .c (.h 0)), (1, .c (.h 1)), (5, cI i_7), (14, cB (decide (i_7 < (lnI a_1))))], [(0, .row kP a_1), (1, .row kP b_2)], 2⟩ [] (by kernel_rfl) rfl rfl ap0 ?_
    refine VL_cond ((decide (i_7 < (lnI a_1)))) (by kernel_rfl) ?_ ?_
    · intro b_10; have H_25 := of_t H_24 b_10
      refine V_run hN hn 2 2 [0, 1, 5, 14] [0, 1] ⟨[(0, .c (.h 0)), (1, .c (.h 1)), (5, cI i_7), (14, cB (decide (i_7 < (lnI a_1))))], [(0, .row kP a_1), (1, .row kP b_2)], 2⟩ [] (by kernel_rfl) rfl rfl ap0 ?_
      refine VL_block ?_
      refine V_run hN hn 1 2 [0, 1, 5, 14] [0, 1] ⟨[(0, .c (.h 0)), (1, .c (.h 1)), (5, cI i_7), (14, cB (decide (i_7 < (lnI a_1))))], [(0, .row kP a_1), (1, .row kP b_2)], 2⟩ [] (by kernel_rfl) rfl rfl ap0 ?_
      obtain ⟨c_13, H_27⟩ := of_if H_25
      refine V_draw hN hn (by kernel_rfl) [] [] calls_nil 2 [0, 1, 5, 25] [0, 1] ⟨[(0, .c (.h 0)), (1, .c (.h 1)), (5, cI i_7), (25, cB (!(((List.getD a_1 (Int.toNat i_7) zP).1 == (List.getD b_2 (Int.toNat i_7) zP).1) && ((List.getD a_1 (Int.toNat i_7) zP).2 == (List.getD b_2 (Int.toNat i_7) zP).2))))], [(0, .row kP a_1), (1, .row kP b_2)], 2⟩ [0 ≤ i_7, i_7 < (lnI a_1), 0 ≤ i_7, i_7 < (lnI b_2)] (by kernel_rfl) rfl rfl (ap2 c_13.1 (ap2 c_13.2.1 (ap2 c_13.1 (ap1 c_13.2.2)))) (by kernel_rfl) (by kernel_rfl) ?_
      refine VL_cond ((!(((List.getD a_1 (Int.toNat i_7) zP).1 == (List.getD b_2 (Int.toNat i_7) zP).1) && ((List.getD a_1 (Int.toNat i_7) zP).2 == (List.getD b_2 (Int.toNat i_7) zP).2)))) (by kernel_rfl) ?_ ?_
      · intro b_14; have H_28 := of_t H_27 b_14
        refine V_run hN hn 2 2 [4] [0, 1] ⟨[(4, cB false)], [(0, .row kP a_1), (1, .row kP b_2)], 2⟩ [] (by kernel_rfl) rfl rfl ap0 ?_
        have H_30 := Option.some.inj (show some false = some r from H_28); subst H_30
        refine VL_ret ?_
        refine QB_ret ?_
        refine QL_ret ?_
        refine QB_ret ?_
        exact P_to [(4, cB false)] [(0, .row kP a_1), (1, .row kP b_2)] [] hn (by kernel_rfl) (by kernel_rfl) rfl rfl rfl (QF_retS (by kernel_rfl) (by kernel_rfl) rfl)
      · intro b_14; have H_29 := of_f H_27 b_14
        refine V_run hN hn 1 2 [0, 1, 5, 25] [0, 1] ⟨[(0, .c (.h 0)), (1, .c (.h 1)), (5, cI i_7), (25, cB (!(((List.getD a_1 (Int.toNat i_7) zP).1 == (List.getD b_2 (Int.toNat i_7) zP).1) && ((List.getD a_1 (Int.toNat i_7) zP).2 == (List.getD b_2 (Int.toNat i_7) zP).2))))], [(0, .row kP a_1), (1, .row kP b_2)], 2⟩ [] (by kernel_rfl) rfl rfl ap0 ?_
        refine VL_nil (QB_end ?_)
        refine V_run hN hn 1 2 [0, 1, 5] [0, 1] ⟨[(0, .c (.h 0)), (1, .c (.h 1)), (5, cI (w6 (i_7 + (1 : Int))))], [(0, .row kP a_1), (1, .row kP b_2)], 2⟩ [] (by kernel_rfl) rfl rfl ap0 ?_
        refine VL_nil ?_
        exact V_roundEnd (w6 (i_7 + (1 : Int))) H_29 [] hn (by kernel_rfl) (by kernel_rfl) rfl rfl rfl
    · intro b_10; have H_26 := of_f H_24 b_10
      refine VL_exit ?_
      refine QL_exit ?_
      refine QB_here ?_
      refine V_run hN hn 2 2 [4] [0, 1] ⟨[(4, cB true)], [(0, .row kP a_1), (1, .row kP b_2)], 2⟩ [] (by kernel_rfl) rfl rfl ap0 ?_
      have H_31 := Option.some.inj (show some true = some r from H_26); subst H_31
      refine VL_ret ?_
      exact P_to [(4, cB true)] [(0, .row kP a_1), (1, .row kP b_2)] [] hn (by kernel_rfl) (by kernel_rfl) rfl rfl rfl (QF_retS (by kernel_rfl) (by kernel_rfl) rfl)

theorem delta_Ordered_spec (K : Nat) (l_1 : (List (Int × (Int × ByteArray)))) (r : Bool) (H : delta_Ordered_r K l_1 = some r) : Spec Try.prog 59 0 [.c (.imm (.slice kE) l_1)] [] (cB r) [] := by
  refine Spec_mk (fn := Try.f59) (c := (Try.f59.body).get!) Try.func59 (by kernel_rfl) rfl ?_
  intro C hN hn
  replace hN : C.N = 40 := hN
  unfold delta_Ordered_r at H
  refine V_run hN hn 5 0 [0, 3] [] ⟨[(0, .c (.imm (.slice kE) l_1)), (3, cI (1 : Int))], [], 0⟩ [] (by kernel_rfl) rfl rfl ap0 ?_
  refine VL_block ?_
  refine V_to [(0, .c (.imm (.slice kE) l_1)), (3, cI (1 : Int))] [] [] hn (by kernel_rfl) (by kernel_rfl) rfl rfl rfl ?_
  refine VL_loop (X := Int) (fun x => [(0, .c (.imm (.slice kE) l_1)), (3, cI x)]) (fun x => []) (fun k x => delta_Ordered_r.l0 K l_1 k x = some r) K (1 : Int) H (fun _ h => no_none h) ?_
  intro k_4 i_3 H_25
  have H_26 : delta_Ordered_r.l0 K l_1 (k_4 + 1) i_3 = some r := H_25
  rw [delta_Ordered_r.l0] at H_26
  refine V_run hN hn 3 0 [0, 3, 9] [] ⟨[(0, .c (.imm (.slice kE) l_1)), (3, cI i_3), (9, cB (decide (i_3 < (lnI l_1))))], [], 0⟩ [] (by kernel_rfl) rfl rfl ap0 ?_
  refine VL_cond ((decide (i_3 < (lnI l_1)))) (by kernel_rfl) ?_ ?_
  · intro b_6; have H_27 := of_t H_26 b_6
    refine V_run hN hn 2 0 [0, 3, 9] [] ⟨[(0, .c (.imm (.slice kE) l_1)), (3, cI i_3), (9, cB (decide (i_3 < (lnI l_1))))], [], 0⟩ [] (by kernel_rfl) rfl rfl ap0 ?_
    refine VL_block ?_
    refine V_run hN hn 1 0 [0, 3, 9] [] ⟨[(0, .c (.imm (.slice kE) l_1)), (3, cI i_3), (9, cB (decide (i_3 < (lnI l_1))))], [], 0⟩ [] (by kernel_rfl) rfl rfl ap0 ?_
    obtain ⟨c_9, H_29⟩ := of_if H_27
    refine V_draw hN hn (by kernel_rfl) [] [] calls_nil 0 [0, 3, 4, 5] [0, 1] ⟨[(0, .c (.imm (.slice kE) l_1)), (3, cI i_3), (4, .c (.h 0)), (5, .c (.h 1))], [(0, .box [.val (.int .i64 (List.getD l_1 (Int.toNat (w6 (i_3 - (1 : Int)))) zE).1), .val (.int .i64 (List.getD l_1 (Int.toNat (w6 (i_3 - (1 : Int)))) zE).2.1), .val (.string (List.getD l_1 (Int.toNat (w6 (i_3 - (1 : Int)))) zE).2.2)]), (1, .box [.val (.int .i64 (List.getD l_1 (Int.toNat i_3) zE).1), .val (.int .i64 (List.getD l_1 (Int.toNat i_3) zE).2.1), .val (.string (List.getD l_1 (Int.toNat i_3) zE).2.2)])], 2⟩ [0 ≤ (w6 (i_3 - (1 : Int))), (w6 (i_3 - (1 : Int))) < (lnI l_1), 0 ≤ (w6 (i_3 - (1 : Int))), (w6 (i_3 - (1 : Int))) < (lnI l_1), 0 ≤ (w6 (i_3 - (1 : Int))), (w6 (i_3 - (1 : Int))) < (lnI l_1), 0 ≤ (w6 (i_3 - (1 : Int))), (w6 (i_3 - (1 : Int))) < (lnI l_1), 0 ≤ i_3, i_3 < (lnI l_1), 0 ≤ i_3, i_3 < (lnI l_1), 0 ≤ i_3, i_3 < (lnI l_1), 0 ≤ i_3, i_3 < (lnI l_1), 0 ≤ i_3, i_3 < (lnI l_1)] (by kernel_rfl) rfl rfl (ap2 c_9.1 (ap2 c_9.2.1 (ap2 c_9.1 (ap2 c_9.2.1 (ap2 c_9.1 (ap2 c_9.2.1 (ap2 c_9.1 (ap2 c_9.2.1 (ap2 c_9.2.2.1 (ap2 c_9.2.2.2 (ap2 c_9.2.2.1 (ap2 c_9.2.2.2 (ap2 c_9.2.2.1 (ap2 c_9.2.2.2 (ap2 c_9.2.2.1 (ap2 c_9.2.2.2 (ap2 c_9.2.2.1 (ap1 c_9.2.2.2)))))))))))))))))) (by kernel_rfl) (by kernel_rfl) ?_
    refine V_run hN hn 1 2 [0, 3, 4, 5] [0, 1] ⟨[(0, .c (.imm (.slice kE) l_1)), (3, cI i_3), (4, .c (.h 0)), (5, .c (.h 1))], [(0, .box [.val (.int .i64 (List.getD l_1 (Int.toNat (w6 (i_3 - (1 : Int)))) zE).1), .val (.int .i64 (List.getD l_1 (Int.toNat (w6 (i_3 - (1 : Int)))) zE).2.1), .val (.string (List.getD l_1 (Int.toNat (w6 (i_3 - (1 : Int)))) zE).2.2)]), (1, .box [.val (.int .i64 (List.getD l_1 (Int.toNat i_3) zE).1), .val (.int .i64 (List.getD l_1 (Int.toNat i_3) zE).2.1), .val (.string (List.getD l_1 (Int.toNat i_3) zE).2.2)])], 2⟩ [] (by kernel_rfl) rfl rfl ap0 ?_
    obtain ⟨q_30, H_31, H_32⟩ := of_bind H_29
    refine V_cut (Y := Bool) (R := Bool) q_30 (fun y => y) (fun y => [(0, .c (.imm (.slice kE) l_1)), (3, cI i_3), (39, cB y)]) (fun y => []) ?_ ?_
    · skip
      rcases Bool.eq_false_or_eq_true ((decide ((List.getD l_1 (Int.toNat i_3) zE).1 < (List.getD l_1 (Int.toNat (w6 (i_3 - (1 : Int)))) zE).2.1))) with b_11 | b_11
      · have H_34 := of_t H_31 b_11
        refine V_reg hN hn [] [(26, true)] calls_nil 2 [0, 3, 39] [] ⟨[(0, .c (.imm (.slice kE) l_1)), (3, cI i_3), (39, cB true)], [], 2⟩ [(decide ((List.getD l_1 (Int.toNat i_3) zE).1 < (List.getD l_1 (Int.toNat (w6 (i_3 - (1 : Int)))) zE).2.1)) = true] (by kernel_rfl) rfl rfl (ap1 b_11) (by kernel_rfl) (by kernel_rfl) ?_
        have H_36 := Option.some.inj (show some true = some q_30 from H_34); subst H_36
        refine VL_nil ?_
        exact QP_end true rfl [] hn (by kernel_rfl) (by kernel_rfl) rfl rfl rfl
      · have H_35 := of_f H_31 b_11
        rcases Bool.eq_false_or_eq_true (((List.getD l_1 (Int.toNat (w6 (i_3 - (1 : Int)))) zE).1 == (List.getD l_1 (Int.toNat i_3) zE).1)) with b_13 | b_13
        · have H_37 := of_t H_35 b_13
          refine V_reg hN hn [] [(26, false), (32, true)] calls_nil 2 [0, 3, 39] [] ⟨[(0, .c (.imm (.slice kE) l_1)), (3, cI i_3), (39, cB ((List.getD l_1 (Int.toNat (w6 (i_3 - (1 : Int)))) zE).2.1 == (List.getD l_1 (Int.toNat i_3) zE).1))], [], 2⟩ [(decide ((List.getD l_1 (Int.toNat i_3) zE).1 < (List.getD l_1 (Int.toNat (w6 (i_3 - (1 : Int)))) zE).2.1)) = false, ((List.getD l_1 (Int.toNat (w6 (i_3 - (1 : Int)))) zE).1 == (List.getD l_1 (Int.toNat i_3) zE).1) = true] (by kernel_rfl) rfl rfl (ap2 b_11 (ap1 b_13)) (by kernel_rfl) (by kernel_rfl) ?_
          have H_39 := Option.some.inj (show some ((List.getD l_1 (Int.toNat (w6 (i_3 - (1 : Int)))) zE).2.1 == (List.getD l_1 (Int.toNat i_3) zE).1) = some q_30 from H_37); subst H_39
          refine VL_nil ?_
          exact QP_end ((List.getD l_1 (Int.toNat (w6 (i_3 - (1 : Int)))) zE).2.1 == (List.getD l_1 (Int.toNat i_3) zE).1) rfl [] hn (by kernel_rfl) (by kernel_rfl) rfl rfl rfl
        · have H_38 := of_f H_35 b_13
          refine V_reg hN hn [] [(26, false), (32, false)] calls_nil 2 [0, 3, 39] [] ⟨[(0, .c (.imm (.slice kE) l_1)), (3, cI i_3), (39, cB false)], [], 2⟩ [(decide ((List.getD l_1 (Int.toNat i_3) zE).1 < (List.getD l_1 (Int.toNat (w6 (i_3 - (1 : Int)))) zE).2.1)) = false, ((List.getD l_1 (Int.toNat (w6 (i_3 - (1 : Int)))) zE).1 == (List.getD l_1 (Int.toNat i_3) zE).1) = false] (by kernel_rfl) rfl rfl (ap2 b_11 (ap1 b_13)) (by kernel_rfl) (by kernel_rfl) ?_
          have H_40 := Option.some.inj (show some false = some q_30 from H_38); subst H_40
          refine VL_nil ?_
          exact QP_end false rfl [] hn (by kernel_rfl) (by kernel_rfl) rfl rfl rfl
    · intro y_33 hy; subst hy
      skip
      skip
      refine VL_cond (y_33) (by kernel_rfl) ?_ ?_
      · intro b_17; have H_41 := of_t H_32 b_17
        refine V_run hN hn 2 2 [2] [] ⟨[(2, cB false)], [], 2⟩ [] (by kernel_rfl) rfl rfl ap0 ?_
        have H_43 := Option.some.inj (show some false = some r from H_41); subst H_43
        refine VL_ret ?_
        refine QB_ret ?_
        refine QL_ret ?_
        refine QB_ret ?_
        exact P_to [(2, cB false)] [] [] hn (by kernel_rfl) (by kernel_rfl) rfl rfl rfl (QF_retS (by kernel_rfl) (by kernel_rfl) rfl)
      · intro b_17; have H_42 := of_f H_32 b_17
        refine V_run hN hn 1 2 [0, 3, 39] [] ⟨[(0, .c (.imm (.slice kE) l_1)), (3, cI i_3), (39, cB y_33)], [], 2⟩ [] (by kernel_rfl) rfl rfl ap0 ?_
        refine VL_nil (QB_end ?_)
        refine V_run hN hn 1 2 [0, 3] [] ⟨[(0, .c (.imm (.slice kE) l_1)), (3, cI (w6 (i_3 + (1 : Int))))], [], 2⟩ [] (by kernel_rfl) rfl rfl ap0 ?_
        refine VL_nil ?_
        exact V_roundEnd (w6 (i_3 + (1 : Int))) H_42 [] hn (by kernel_rfl) (by kernel_rfl) rfl rfl rfl
  · intro b_6; have H_28 := of_f H_26 b_6
    refine VL_exit ?_
    refine QL_exit ?_
    refine QB_here ?_
    refine V_run hN hn 2 0 [2] [] ⟨[(2, cB true)], [], 0⟩ [] (by kernel_rfl) rfl rfl ap0 ?_
    have H_44 := Option.some.inj (show some true = some r from H_28); subst H_44
    refine VL_ret ?_
    exact P_to [(2, cB true)] [] [] hn (by kernel_rfl) (by kernel_rfl) rfl rfl rfl (QF_retS (by kernel_rfl) (by kernel_rfl) rfl)

theorem delta_long_spec (K : Nat) (base_1 : Int) (l_2 : (List (Int × (Int × ByteArray)))) (r : Int) (H : delta_long_gr K base_1 l_2 = some r) : Spec Try.prog 61 0 [cI base_1, .c (.imm (.slice kE) l_2)] [] (cI r) [] := by
  refine Spec_mk (fn := Try.f61) (c := (Try.f61.body).get!) Try.func61 (by kernel_rfl) rfl ?_
  intro C hN hn
  replace hN : C.N = 43 := hN
  unfold delta_long_gr at H
  refine V_run hN hn 7 0 [1, 5, 12, 13, 14] [] ⟨[(1, .c (.imm (.slice kE) l_2)), (5, cI (w6 ((20000 : Int) - base_1))), (12, .c (.imm (.slice kE) l_2)), (13, cI (lnI l_2)), (14, cI (0 : Int))], [], 0⟩ [] (by kernel_rfl) rfl rfl ap0 ?_
  obtain ⟨q_28, H_29, H_30⟩ := of_bind H
  refine V_cut (Y := Int) (R := Int) q_28 (fun y => y) (fun y => [(1, .c (.imm (.slice kE) l_2)), (5, cI y)]) (fun y => []) ?_ ?_
  · skip
    refine VL_block ?_
    refine V_to [(1, .c (.imm (.slice kE) l_2)), (5, cI (w6 ((20000 : Int) - base_1))), (12, .c (.imm (.slice kE) l_2)), (13, cI (lnI l_2)), (14, cI (0 : Int))] [] [] hn (by kernel_rfl) (by kernel_rfl) rfl rfl rfl ?_
    refine VL_loop (X := (Int × Int)) (fun x => [(1, .c (.imm (.slice kE) l_2)), (5, cI x.1), (12, .c (.imm (.slice kE) l_2)), (13, cI (lnI l_2)), (14, cI x.2)]) (fun x => []) (fun k x => delta_long_gr.l0 K l_2 k x.1 x.2 = some q_28) K ((w6 ((20000 : Int) - base_1)), (0 : Int)) H_29 (fun _ h => no_none h) ?_
    intro k_6 x_6 H_32
    obtain ⟨left_4, t_5⟩ := x_6
    have H_33 : delta_long_gr.l0 K l_2 (k_6 + 1) left_4 t_5 = some q_28 := H_32
    rw [delta_long_gr.l0] at H_33
    refine V_run hN hn 3 0 [1, 5, 12, 13, 14, 15] [] ⟨[(1, .c (.imm (.slice kE) l_2)), (5, cI left_4), (12, .c (.imm (.slice kE) l_2)), (13, cI (lnI l_2)), (14, cI t_5), (15, cB (decide (t_5 < (lnI l_2))))], [], 0⟩ [] (by kernel_rfl) rfl rfl ap0 ?_
    refine VL_cond ((decide (t_5 < (lnI l_2)))) (by kernel_rfl) ?_ ?_
    · intro b_8; have H_34 := of_t H_33 b_8
      refine V_run hN hn 2 0 [1, 5, 12, 13, 14, 15] [] ⟨[(1, .c (.imm (.slice kE) l_2)), (5, cI left_4), (12, .c (.imm (.slice kE) l_2)), (13, cI (lnI l_2)), (14, cI t_5), (15, cB (decide (t_5 < (lnI l_2))))], [], 0⟩ [] (by kernel_rfl) rfl rfl ap0 ?_
      refine VL_block ?_
      obtain ⟨c_10, H_36⟩ := of_if H_34
      refine V_run hN hn 3 0 [1, 5, 12, 13, 14] [] ⟨[(1, .c (.imm (.slice kE) l_2)), (5, cI (w6 (left_4 + (w6 ((List.getD l_2 (Int.toNat t_5) zE).2.1 - (List.getD l_2 (Int.toNat t_5) zE).1))))), (12, .c (.imm (.slice kE) l_2)), (13, cI (lnI l_2)), (14, cI t_5)], [], 1⟩ [0 ≤ t_5, t_5 < (lnI l_2)] (by kernel_rfl) rfl rfl (ap2 c_10.1 (ap1 c_10.2)) ?_
      refine VL_nil (QB_end ?_)
      refine V_run hN hn 1 1 [1, 5, 12, 13, 14] [] ⟨[(1, .c (.imm (.slice kE) l_2)), (5, cI (w6 (left_4 + (w6 ((List.getD l_2 (Int.toNat t_5) zE).2.1 - (List.getD l_2 (Int.toNat t_5) zE).1))))), (12, .c (.imm (.slice kE) l_2)), (13, cI (lnI l_2)), (14, cI (w6 (t_5 + (1 : Int))))], [], 1⟩ [] (by kernel_rfl) rfl rfl ap0 ?_
      refine VL_nil ?_
      exact V_roundEnd ((w6 (left_4 + (w6 ((List.getD l_2 (Int.toNat t_5) zE).2.1 - (List.getD l_2 (Int.toNat t_5) zE).1)))), (w6 (t_5 + (1 : Int)))) H_36 [] hn (by kernel_rfl) (by kernel_rfl) rfl rfl rfl
    · intro b_8; have H_35 := of_f H_33 b_8
      refine VL_exit ?_
      refine QL_exit ?_
      refine QB_here ?_
      have H_37 := Option.some.inj (show some left_4 = some q_28 from H_35); subst H_37
      refine VL_nil ?_
      exact QP_end left_4 rfl [] hn (by kernel_rfl) (by kernel_rfl) rfl rfl rfl
  · intro y_31 hy; subst hy
    skip
    skip
    refine V_run hN hn 3 0 [5, 26, 27, 28] [] ⟨[(5, cI y_31), (26, .c (.imm (.slice kE) l_2)), (27, cI (lnI l_2)), (28, cI (0 : Int))], [], 0⟩ [] (by kernel_rfl) rfl rfl ap0 ?_
    refine VL_block ?_
    refine V_to [(5, cI y_31), (26, .c (.imm (.slice kE) l_2)), (27, cI (lnI l_2)), (28, cI (0 : Int))] [] [] hn (by kernel_rfl) (by kernel_rfl) rfl rfl rfl ?_
    refine VL_loop (X := (Int × Int)) (fun x => [(5, cI x.1), (26, .c (.imm (.slice kE) l_2)), (27, cI (lnI l_2)), (28, cI x.2)]) (fun x => []) (fun k x => delta_long_gr.l1 K l_2 k x.1 x.2 = some r) K (y_31, (0 : Int)) H_30 (fun _ h => no_none h) ?_
    intro k_16 x_16 H_38
    obtain ⟨left_14, t_15⟩ := x_16
    have H_39 : delta_long_gr.l1 K l_2 (k_16 + 1) left_14 t_15 = some r := H_38
    rw [delta_long_gr.l1] at H_39
    refine V_run hN hn 3 0 [5, 26, 27, 28, 29] [] ⟨[(5, cI left_14), (26, .c (.imm (.slice kE) l_2)), (27, cI (lnI l_2)), (28, cI t_15), (29, cB (decide (t_15 < (lnI l_2))))], [], 0⟩ [] (by kernel_rfl) rfl rfl ap0 ?_
    refine VL_cond ((decide (t_15 < (lnI l_2)))) (by kernel_rfl) ?_ ?_
    · intro b_18; have H_40 := of_t H_39 b_18
      refine V_run hN hn 2 0 [5, 26, 27, 28, 29] [] ⟨[(5, cI left_14), (26, .c (.imm (.slice kE) l_2)), (27, cI (lnI l_2)), (28, cI t_15), (29, cB (decide (t_15 < (lnI l_2))))], [], 0⟩ [] (by kernel_rfl) rfl rfl ap0 ?_
      refine VL_block ?_
      obtain ⟨c_20, H_42⟩ := of_if H_40
      refine V_run hN hn 5 0 [5, 9, 26, 27, 28, 36] [0] ⟨[(5, cI left_14), (9, .c (.h 0)), (26, .c (.imm (.slice kE) l_2)), (27, cI (lnI l_2)), (28, cI t_15), (36, cB (decide ((((ByteArray.size (List.getD l_2 (Int.toNat t_15) zE).2.2) : Nat) : Int) > left_14)))], [(0, .box [.val (.int .i64 (List.getD l_2 (Int.toNat t_15) zE).1), .val (.int .i64 (List.getD l_2 (Int.toNat t_15) zE).2.1), .val (.string (List.getD l_2 (Int.toNat t_15) zE).2.2)])], 1⟩ [0 ≤ t_15, t_15 < (lnI l_2)] (by kernel_rfl) rfl rfl (ap2 c_20.1 (ap1 c_20.2)) ?_
      refine VL_cond ((decide ((((ByteArray.size (List.getD l_2 (Int.toNat t_15) zE).2.2) : Nat) : Int) > left_14))) (by kernel_rfl) ?_ ?_
      · intro b_21; have H_43 := of_t H_42 b_21
        refine V_run hN hn 2 1 [4] [] ⟨[(4, cI (13 : Int))], [], 1⟩ [] (by kernel_rfl) rfl rfl ap0 ?_
        have H_45 := Option.some.inj (show some (13 : Int) = some r from H_43); subst H_45
        refine VL_ret ?_
        refine QB_ret ?_
        refine QL_ret ?_
        refine QB_ret ?_
        exact P_to [(4, cI (13 : Int))] [] [] hn (by kernel_rfl) (by kernel_rfl) rfl rfl rfl (QF_retS (by kernel_rfl) (by kernel_rfl) rfl)
      · intro b_21; have H_44 := of_f H_42 b_21
        refine V_run hN hn 2 1 [5, 26, 27, 28] [] ⟨[(5, cI (w6 (left_14 - (((ByteArray.size (List.getD l_2 (Int.toNat t_15) zE).2.2) : Nat) : Int)))), (26, .c (.imm (.slice kE) l_2)), (27, cI (lnI l_2)), (28, cI t_15)], [], 1⟩ [] (by kernel_rfl) rfl rfl ap0 ?_
        refine VL_nil (QB_end ?_)
        refine V_run hN hn 1 1 [5, 26, 27, 28] [] ⟨[(5, cI (w6 (left_14 - (((ByteArray.size (List.getD l_2 (Int.toNat t_15) zE).2.2) : Nat) : Int)))), (26, .c (.imm (.slice kE) l_2)), (27, cI (lnI l_2)), (28, cI (w6 (t_15 + (1 : Int))))], [], 1⟩ [] (by kernel_rfl) rfl rfl ap0 ?_
        refine VL_nil ?_
        exact V_roundEnd ((w6 (left_14 - (((ByteArray.size (List.getD l_2 (Int.toNat t_15) zE).2.2) : Nat) : Int))), (w6 (t_15 + (1 : Int)))) H_44 [] hn (by kernel_rfl) (by kernel_rfl) rfl rfl rfl
    · intro b_18; have H_41 := of_f H_39 b_18
      refine VL_exit ?_
      refine QL_exit ?_
      refine QB_here ?_
      refine V_run hN hn 2 0 [4] [] ⟨[(4, cI (0 : Int))], [], 0⟩ [] (by kernel_rfl) rfl rfl ap0 ?_
      have H_46 := Option.some.inj (show some (0 : Int) = some r from H_41); subst H_46
      refine VL_ret ?_
      exact P_to [(4, cI (0 : Int))] [] [] hn (by kernel_rfl) (by kernel_rfl) rfl rfl rfl (QF_retS (by kernel_rfl) (by kernel_rfl) rfl)

theorem delta_check_spec (K : Nat) (base_1 : Int) (l_2 : (List (Int × (Int × ByteArray)))) (r : Int) (H : delta_check_gr K base_1 l_2 = some r) : Spec Try.prog 31 0 [cI base_1, .c (.imm (.slice kE) l_2)] [] (cI r) [] := by
  refine Spec_mk (fn := Try.f31) (c := (Try.f31.body).get!) Try.func31 (by kernel_rfl) rfl ?_
  intro C hN hn
  replace hN : C.N = 55 := hN
  unfold delta_check_gr at H
  refine V_run hN hn 4 0 [0, 1] [] ⟨[(0, cI base_1), (1, .c (.imm (.slice kE) l_2))], [], 0⟩ [] (by kernel_rfl) rfl rfl ap0 ?_
  obtain ⟨q_59, H_60, H_61⟩ := of_bind H
  refine V_cut (Y := Bool) (R := Bool) q_59 (fun y => y) (fun y => [(0, cI base_1), (1, .c (.imm (.slice kE) l_2)), (14, cB y)]) (fun y => []) ?_ ?_
  · skip
    rcases Bool.eq_false_or_eq_true ((decide (base_1 < (0 : Int)))) with b_4 | b_4
    · have H_63 := of_t H_60 b_4
      refine V_reg hN hn [] [(11, true)] calls_nil 0 [0, 1, 14] [] ⟨[(0, cI base_1), (1, .c (.imm (.slice kE) l_2)), (14, cB true)], [], 0⟩ [(decide (base_1 < (0 : Int))) = true] (by kernel_rfl) rfl rfl (ap1 b_4) (by kernel_rfl) (by kernel_rfl) ?_
      have H_65 := Option.some.inj (show some true = some q_59 from H_63); subst H_65
      refine VL_nil ?_
      exact QP_end true rfl [] hn (by kernel_rfl) (by kernel_rfl) rfl rfl rfl
    · have H_64 := of_f H_60 b_4
      refine V_reg hN hn [] [(11, false)] calls_nil 0 [0, 1, 14] [] ⟨[(0, cI base_1), (1, .c (.imm (.slice kE) l_2)), (14, cB (decide (base_1 > (20000 : Int))))], [], 0⟩ [(decide (base_1 < (0 : Int))) = false] (by kernel_rfl) rfl rfl (ap1 b_4) (by kernel_rfl) (by kernel_rfl) ?_
      have H_66 := Option.some.inj (show some (decide (base_1 > (20000 : Int))) = some q_59 from H_64); subst H_66
      refine VL_nil ?_
      exact QP_end (decide (base_1 > (20000 : Int))) rfl [] hn (by kernel_rfl) (by kernel_rfl) rfl rfl rfl
  · intro y_62 hy; subst hy
    skip
    skip
    refine VL_cond (y_62) (by kernel_rfl) ?_ ?_
    · intro b_8; have H_67 := of_t H_61 b_8
      refine V_run hN hn 2 0 [4] [] ⟨[(4, cI (10 : Int))], [], 0⟩ [] (by kernel_rfl) rfl rfl ap0 ?_
      have H_69 := Option.some.inj (show some (10 : Int) = some r from H_67); subst H_69
      refine VL_ret ?_
      exact P_to [(4, cI (10 : Int))] [] [] hn (by kernel_rfl) (by kernel_rfl) rfl rfl rfl (QF_retS (by kernel_rfl) (by kernel_rfl) rfl)
    · intro b_8; have H_68 := of_f H_61 b_8
      refine V_run hN hn 4 0 [0, 1, 15, 16, 17] [] ⟨[(0, cI base_1), (1, .c (.imm (.slice kE) l_2)), (15, .c (.imm (.slice kE) l_2)), (16, cI (lnI l_2)), (17, cI (0 : Int))], [], 0⟩ [] (by kernel_rfl) rfl rfl ap0 ?_
      obtain ⟨q_70, H_71, H_72⟩ := of_bind H_68
      refine V_cut (Y := Unit) (R := (Int ⊕ Unit)) q_70 (fun y => (Sum.inr y)) (fun y => [(0, cI base_1), (1, .c (.imm (.slice kE) l_2))]) (fun y => []) ?_ ?_
      · skip
        refine VL_block ?_
        refine V_to [(0, cI base_1), (1, .c (.imm (.slice kE) l_2)), (15, .c (.imm (.slice kE) l_2)), (16, cI (lnI l_2)), (17, cI (0 : Int))] [] [] hn (by kernel_rfl) (by kernel_rfl) rfl rfl rfl ?_
        refine VL_loop (X := Int) (fun x => [(0, cI base_1), (1, .c (.imm (.slice kE) l_2)), (15, .c (.imm (.slice kE) l_2)), (16, cI (lnI l_2)), (17, cI x)]) (fun x => []) (fun k x => delta_check_gr.l0 K l_2 base_1 k x = some q_70) K (0 : Int) H_71 (fun _ h => no_none h) ?_
        intro k_12 t_11 H_74
        have H_75 : delta_check_gr.l0 K l_2 base_1 (k_12 + 1) t_11 = some q_70 := H_74
        rw [delta_check_gr.l0] at H_75
        refine V_run hN hn 3 0 [0, 1, 15, 16, 17, 18] [] ⟨[(0, cI base_1), (1, .c (.imm (.slice kE) l_2)), (15, .c (.imm (.slice kE) l_2)), (16, cI (lnI l_2)), (17, cI t_11), (18, cB (decide (t_11 < (lnI l_2))))], [], 0⟩ [] (by kernel_rfl) rfl rfl ap0 ?_
        refine VL_cond ((decide (t_11 < (lnI l_2)))) (by kernel_rfl) ?_ ?_
        · intro b_14; have H_76 := of_t H_75 b_14
          refine V_run hN hn 2 0 [0, 1, 15, 16, 17, 18] [] ⟨[(0, cI base_1), (1, .c (.imm (.slice kE) l_2)), (15, .c (.imm (.slice kE) l_2)), (16, cI (lnI l_2)), (17, cI t_11), (18, cB (decide (t_11 < (lnI l_2))))], [], 0⟩ [] (by kernel_rfl) rfl rfl ap0 ?_
          refine VL_block ?_
          obtain ⟨c_16, H_78⟩ := of_if H_76
          refine V_run hN hn 3 0 [0, 1, 6, 15, 16, 17] [0] ⟨[(0, cI base_1), (1, .c (.imm (.slice kE) l_2)), (6, .c (.h 0)), (15, .c (.imm (.slice kE) l_2)), (16, cI (lnI l_2)), (17, cI t_11)], [(0, .box [.val (.int .i64 (List.getD l_2 (Int.toNat t_11) zE).1), .val (.int .i64 (List.getD l_2 (Int.toNat t_11) zE).2.1), .val (.string (List.getD l_2 (Int.toNat t_11) zE).2.2)])], 1⟩ [0 ≤ t_11, t_11 < (lnI l_2)] (by kernel_rfl) rfl rfl (ap2 c_16.1 (ap1 c_16.2)) ?_
          obtain ⟨q_79, H_80, H_81⟩ := of_bind H_78
          refine V_cut (Y := Bool) (R := Bool) q_79 (fun y => y) (fun y => [(0, cI base_1), (1, .c (.imm (.slice kE) l_2)), (15, .c (.imm (.slice kE) l_2)), (16, cI (lnI l_2)), (17, cI t_11), (36, cB y)]) (fun y => []) ?_ ?_
          · skip
            rcases Bool.eq_false_or_eq_true ((decide ((List.getD l_2 (Int.toNat t_11) zE).1 < (0 : Int)))) with b_17 | b_17
            · have H_83 := of_t H_80 b_17
              refine V_reg hN hn [] [(24, true)] calls_nil 1 [0, 1, 15, 16, 17, 36] [] ⟨[(0, cI base_1), (1, .c (.imm (.slice kE) l_2)), (15, .c (.imm (.slice kE) l_2)), (16, cI (lnI l_2)), (17, cI t_11), (36, cB true)], [], 1⟩ [(decide ((List.getD l_2 (Int.toNat t_11) zE).1 < (0 : Int))) = true] (by kernel_rfl) rfl rfl (ap1 b_17) (by kernel_rfl) (by kernel_rfl) ?_
              have H_85 := Option.some.inj (show some true = some q_79 from H_83); subst H_85
              refine VL_nil ?_
              exact QP_end true rfl [] hn (by kernel_rfl) (by kernel_rfl) rfl rfl rfl
            · have H_84 := of_f H_80 b_17
              rcases Bool.eq_false_or_eq_true ((decide ((List.getD l_2 (Int.toNat t_11) zE).1 > (List.getD l_2 (Int.toNat t_11) zE).2.1))) with b_19 | b_19
              · have H_86 := of_t H_84 b_19
                refine V_reg hN hn [] [(24, false), (31, true)] calls_nil 1 [0, 1, 15, 16, 17, 36] [] ⟨[(0, cI base_1), (1, .c (.imm (.slice kE) l_2)), (15, .c (.imm (.slice kE) l_2)), (16, cI (lnI l_2)), (17, cI t_11), (36, cB true)], [], 1⟩ [(decide ((List.getD l_2 (Int.toNat t_11) zE).1 < (0 : Int))) = false, (decide ((List.getD l_2 (Int.toNat t_11) zE).1 > (List.getD l_2 (Int.toNat t_11) zE).2.1)) = true] (by kernel_rfl) rfl rfl (ap2 b_17 (ap1 b_19)) (by kernel_rfl) (by kernel_rfl) ?_
                have H_88 := Option.some.inj (show some true = some q_79 from H_86); subst H_88
                refine VL_nil ?_
                exact QP_end true rfl [] hn (by kernel_rfl) (by kernel_rfl) rfl rfl rfl
              · have H_87 := of_f H_84 b_19
                refine V_reg hN hn [] [(24, false), (31, false)] calls_nil 1 [0, 1, 15, 16, 17, 36] [] ⟨[(0, cI base_1), (1, .c (.imm (.slice kE) l_2)), (15, .c (.imm (.slice kE) l_2)), (16, cI (lnI l_2)), (17, cI t_11), (36, cB (decide ((List.getD l_2 (Int.toNat t_11) zE).2.1 > base_1)))], [], 1⟩ [(decide ((List.getD l_2 (Int.toNat t_11) zE).1 < (0 : Int))) = false, (decide ((List.getD l_2 (Int.toNat t_11) zE).1 > (List.getD l_2 (Int.toNat t_11) zE).2.1)) = false] (by kernel_rfl) rfl rfl (ap2 b_17 (ap1 b_19)) (by kernel_rfl) (by kernel_rfl) ?_
                have H_89 := Option.some.inj (show some (decide ((List.getD l_2 (Int.toNat t_11) zE).2.1 > base_1)) = some q_79 from H_87); subst H_89
                refine VL_nil ?_
                exact QP_end (decide ((List.getD l_2 (Int.toNat t_11) zE).2.1 > base_1)) rfl [] hn (by kernel_rfl) (by kernel_rfl) rfl rfl rfl
          · intro y_82 hy; subst hy
            skip
            skip
            refine VL_cond (y_82) (by kernel_rfl) ?_ ?_
            · intro b_23; have H_90 := of_t H_81 b_23
              refine V_run hN hn 2 1 [4] [] ⟨[(4, cI (10 : Int))], [], 1⟩ [] (by kernel_rfl) rfl rfl ap0 ?_
              have H_92 := Option.some.inj (show some (Sum.inl (10 : Int)) = some q_70 from H_90); subst H_92
              have H_93 := Option.some.inj (show some (10 : Int) = some r from H_72); subst H_93
              refine VL_ret ?_
              refine QB_ret ?_
              refine QL_ret ?_
              refine QB_ret ?_
              refine QP_ret ?_
              exact P_to [(4, cI (10 : Int))] [] [] hn (by kernel_rfl) (by kernel_rfl) rfl rfl rfl (QF_retS (by kernel_rfl) (by kernel_rfl) rfl)
            · intro b_23; have H_91 := of_f H_81 b_23
              refine V_run hN hn 1 1 [0, 1, 15, 16, 17, 36] [] ⟨[(0, cI base_1), (1, .c (.imm (.slice kE) l_2)), (15, .c (.imm (.slice kE) l_2)), (16, cI (lnI l_2)), (17, cI t_11), (36, cB y_82)], [], 1⟩ [] (by kernel_rfl) rfl rfl ap0 ?_
              refine VL_nil (QB_end ?_)
              refine V_run hN hn 1 1 [0, 1, 15, 16, 17] [] ⟨[(0, cI base_1), (1, .c (.imm (.slice kE) l_2)), (15, .c (.imm (.slice kE) l_2)), (16, cI (lnI l_2)), (17, cI (w6 (t_11 + (1 : Int))))], [], 1⟩ [] (by kernel_rfl) rfl rfl ap0 ?_
              refine VL_nil ?_
              exact V_roundEnd (w6 (t_11 + (1 : Int))) H_91 [] hn (by kernel_rfl) (by kernel_rfl) rfl rfl rfl
        · intro b_14; have H_77 := of_f H_75 b_14
          refine VL_exit ?_
          refine QL_exit ?_
          refine QB_here ?_
          have H_94 := Option.some.inj (show some (Sum.inr ()) = some q_70 from H_77); subst H_94
          refine VL_nil ?_
          exact QP_end () rfl [] hn (by kernel_rfl) (by kernel_rfl) rfl rfl rfl
      · intro y_73 hy; subst hy
        skip
        refine V_run hN hn 2 0 [0, 1] [] ⟨[(0, cI base_1), (1, .c (.imm (.slice kE) l_2))], [], 0⟩ [] (by kernel_rfl) rfl rfl ap0 ?_
        obtain ⟨r_28, h_29, H_95⟩ := of_bind H_72
        refine V_reg hN hn [(1, ⟨59, 0, [.c (.imm (.slice kE) l_2)], [], cB r_28, [], [], 0⟩)] [] (calls_cons (delta_Ordered_spec K l_2 r_28 h_29) (by kernel_rfl) calls_nil) 0 [0, 1, 40] [] ⟨[(0, cI base_1), (1, .c (.imm (.slice kE) l_2)), (40, cB (!r_28))], [], 0⟩ [] (by kernel_rfl) rfl rfl ap0 (by kernel_rfl) (by kernel_rfl) ?_
        refine VL_cond ((!r_28)) (by kernel_rfl) ?_ ?_
        · intro b_31; have H_96 := of_t H_95 b_31
          refine V_run hN hn 2 0 [4] [] ⟨[(4, cI (180 : Int))], [], 0⟩ [] (by kernel_rfl) rfl rfl ap0 ?_
          have H_98 := Option.some.inj (show some (180 : Int) = some r from H_96); subst H_98
          refine VL_ret ?_
          exact P_to [(4, cI (180 : Int))] [] [] hn (by kernel_rfl) (by kernel_rfl) rfl rfl rfl (QF_retS (by kernel_rfl) (by kernel_rfl) rfl)
        · intro b_31; have H_97 := of_f H_95 b_31
          refine V_run hN hn 4 0 [0, 1, 41, 42, 43] [] ⟨[(0, cI base_1), (1, .c (.imm (.slice kE) l_2)), (41, .c (.imm (.slice kE) l_2)), (42, cI (lnI l_2)), (43, cI (0 : Int))], [], 0⟩ [] (by kernel_rfl) rfl rfl ap0 ?_
          obtain ⟨q_99, H_100, H_101⟩ := of_bind H_97
          refine V_cut (Y := Unit) (R := (Int ⊕ Unit)) q_99 (fun y => (Sum.inr y)) (fun y => [(0, cI base_1), (1, .c (.imm (.slice kE) l_2))]) (fun y => []) ?_ ?_
          · skip
            refine VL_block ?_
            refine V_to [(0, cI base_1), (1, .c (.imm (.slice kE) l_2)), (41, .c (.imm (.slice kE) l_2)), (42, cI (lnI l_2)), (43, cI (0 : Int))] [] [] hn (by kernel_rfl) (by kernel_rfl) rfl rfl rfl ?_
            refine VL_loop (X := Int) (fun x => [(0, cI base_1), (1, .c (.imm (.slice kE) l_2)), (41, .c (.imm (.slice kE) l_2)), (42, cI (lnI l_2)), (43, cI x)]) (fun x => []) (fun k x => delta_check_gr.l1 K l_2 k x = some q_99) K (0 : Int) H_100 (fun _ h => no_none h) ?_
            intro k_35 t_34 H_103
            have H_104 : delta_check_gr.l1 K l_2 (k_35 + 1) t_34 = some q_99 := H_103
            rw [delta_check_gr.l1] at H_104
            refine V_run hN hn 3 0 [0, 1, 41, 42, 43, 44] [] ⟨[(0, cI base_1), (1, .c (.imm (.slice kE) l_2)), (41, .c (.imm (.slice kE) l_2)), (42, cI (lnI l_2)), (43, cI t_34), (44, cB (decide (t_34 < (lnI l_2))))], [], 0⟩ [] (by kernel_rfl) rfl rfl ap0 ?_
            refine VL_cond ((decide (t_34 < (lnI l_2)))) (by kernel_rfl) ?_ ?_
            · intro b_37; have H_105 := of_t H_104 b_37
              refine V_run hN hn 2 0 [0, 1, 41, 42, 43, 44] [] ⟨[(0, cI base_1), (1, .c (.imm (.slice kE) l_2)), (41, .c (.imm (.slice kE) l_2)), (42, cI (lnI l_2)), (43, cI t_34), (44, cB (decide (t_34 < (lnI l_2))))], [], 0⟩ [] (by kernel_rfl) rfl rfl ap0 ?_
              refine VL_block ?_
              obtain ⟨c_39, H_107⟩ := of_if H_105
              refine V_run hN hn 3 0 [0, 1, 8, 41, 42, 43] [0] ⟨[(0, cI base_1), (1, .c (.imm (.slice kE) l_2)), (8, .c (.h 0)), (41, .c (.imm (.slice kE) l_2)), (42, cI (lnI l_2)), (43, cI t_34)], [(0, .box [.val (.int .i64 (List.getD l_2 (Int.toNat t_34) zE).1), .val (.int .i64 (List.getD l_2 (Int.toNat t_34) zE).2.1), .val (.string (List.getD l_2 (Int.toNat t_34) zE).2.2)])], 1⟩ [0 ≤ t_34, t_34 < (lnI l_2)] (by kernel_rfl) rfl rfl (ap2 c_39.1 (ap1 c_39.2)) ?_
              obtain ⟨r_40, h_41, H_108⟩ := of_bind H_107
              refine V_reg hN hn [(2, ⟨60, 0, [.c (.val (.string (List.getD l_2 (Int.toNat t_34) zE).2.2))], [], cB r_40, [], [], 1⟩)] [] (calls_cons (utf_Valid_spec K (List.getD l_2 (Int.toNat t_34) zE).2.2 r_40 h_41) (by kernel_rfl) calls_nil) 1 [0, 1, 41, 42, 43, 50] [] ⟨[(0, cI base_1), (1, .c (.imm (.slice kE) l_2)), (41, .c (.imm (.slice kE) l_2)), (42, cI (lnI l_2)), (43, cI t_34), (50, cB (!r_40))], [], 1⟩ [] (by kernel_rfl) rfl rfl ap0 (by kernel_rfl) (by kernel_rfl) ?_
              refine VL_cond ((!r_40)) (by kernel_rfl) ?_ ?_
              · intro b_43; have H_109 := of_t H_108 b_43
                refine V_run hN hn 2 1 [4] [] ⟨[(4, cI (12 : Int))], [], 1⟩ [] (by kernel_rfl) rfl rfl ap0 ?_
                have H_111 := Option.some.inj (show some (Sum.inl (12 : Int)) = some q_99 from H_109); subst H_111
                have H_112 := Option.some.inj (show some (12 : Int) = some r from H_101); subst H_112
                refine VL_ret ?_
                refine QB_ret ?_
                refine QL_ret ?_
                refine QB_ret ?_
                refine QP_ret ?_
                exact P_to [(4, cI (12 : Int))] [] [] hn (by kernel_rfl) (by kernel_rfl) rfl rfl rfl (QF_retS (by kernel_rfl) (by kernel_rfl) rfl)
              · intro b_43; have H_110 := of_f H_108 b_43
                refine V_run hN hn 1 1 [0, 1, 41, 42, 43, 50] [] ⟨[(0, cI base_1), (1, .c (.imm (.slice kE) l_2)), (41, .c (.imm (.slice kE) l_2)), (42, cI (lnI l_2)), (43, cI t_34), (50, cB (!r_40))], [], 1⟩ [] (by kernel_rfl) rfl rfl ap0 ?_
                refine VL_nil (QB_end ?_)
                refine V_run hN hn 1 1 [0, 1, 41, 42, 43] [] ⟨[(0, cI base_1), (1, .c (.imm (.slice kE) l_2)), (41, .c (.imm (.slice kE) l_2)), (42, cI (lnI l_2)), (43, cI (w6 (t_34 + (1 : Int))))], [], 1⟩ [] (by kernel_rfl) rfl rfl ap0 ?_
                refine VL_nil ?_
                exact V_roundEnd (w6 (t_34 + (1 : Int))) H_110 [] hn (by kernel_rfl) (by kernel_rfl) rfl rfl rfl
            · intro b_37; have H_106 := of_f H_104 b_37
              refine VL_exit ?_
              refine QL_exit ?_
              refine QB_here ?_
              have H_113 := Option.some.inj (show some (Sum.inr ()) = some q_99 from H_106); subst H_113
              refine VL_nil ?_
              exact QP_end () rfl [] hn (by kernel_rfl) (by kernel_rfl) rfl rfl rfl
          · intro y_102 hy; subst hy
            skip
            refine V_run hN hn 1 0 [0, 1] [] ⟨[(0, cI base_1), (1, .c (.imm (.slice kE) l_2))], [], 0⟩ [] (by kernel_rfl) rfl rfl ap0 ?_
            obtain ⟨r_48, h_49, H_114⟩ := of_bind H_101
            refine V_reg hN hn [(2, ⟨61, 0, [cI base_1, .c (.imm (.slice kE) l_2)], [], cI r_48, [], [], 0⟩)] [] (calls_cons (delta_long_spec K base_1 l_2 r_48 h_49) (by kernel_rfl) calls_nil) 0 [4] [] ⟨[(4, cI r_48)], [], 0⟩ [] (by kernel_rfl) rfl rfl ap0 (by kernel_rfl) (by kernel_rfl) ?_
            have H_115 := Option.some.inj (show some r_48 = some r from H_114); subst H_115
            refine VL_ret ?_
            exact P_to [(4, cI r_48)] [] [] hn (by kernel_rfl) (by kernel_rfl) rfl rfl rfl (QF_retS (by kernel_rfl) (by kernel_rfl) rfl)

theorem delta_Build_spec (K : Nat) (base_1 : Int) (l_2 : (List (Int × (Int × ByteArray)))) (r : (Int × (List (Int × (Int × ByteArray))) × Int)) (H : delta_Build_gr K base_1 l_2 = some r) : Spec Try.prog 13 0 [cI base_1, .c (.imm (.slice kE) l_2)] [] (.tup [(true, [.val (.int .i64 r.1), .imm (.slice kE) r.2.1]), (false, [.val (.int .i64 r.2.2)])]) [] := by
  refine Spec_mk (fn := Try.f13) (c := (Try.f13.body).get!) Try.func13 (by kernel_rfl) rfl ?_
  intro C hN hn
  replace hN : C.N = 46 := hN
  unfold delta_Build_gr at H
  refine V_run hN hn 4 0 [0, 1, 4] [0] ⟨[(0, cI base_1), (1, .c (.imm (.slice kE) l_2)), (4, .c (.h 0))], [(0, .box [.val (.int .i64 (0 : Int)), .val (.slice none 0 0)])], 1⟩ [] (by kernel_rfl) rfl rfl ap0 ?_
  obtain ⟨r_4, h_5, H_60⟩ := of_bind H
  refine V_reg hN hn [(2, ⟨31, 0, [cI base_1, .c (.imm (.slice kE) l_2)], [], cI r_4, [], [], 1⟩)] [] (calls_cons (delta_check_spec K base_1 l_2 r_4 h_5) (by kernel_rfl) calls_nil) 1 [0, 1, 4, 6] [0] ⟨[(0, cI base_1), (1, .c (.imm (.slice kE) l_2)), (4, .c (.h 0)), (6, cI r_4)], [(0, .box [.val (.int .i64 (0 : Int)), .val (.slice none 0 0)])], 1⟩ [] (by kernel_rfl) rfl rfl ap0 (by kernel_rfl) (by kernel_rfl) ?_
  refine V_run hN hn 2 1 [0, 1, 4, 6, 15] [0] ⟨[(0, cI base_1), (1, .c (.imm (.slice kE) l_2)), (4, .c (.h 0)), (6, cI r_4), (15, cB (r_4 != (0 : Int)))], [(0, .box [.val (.int .i64 (0 : Int)), .val (.slice none 0 0)])], 1⟩ [] (by kernel_rfl) rfl rfl ap0 ?_
  refine VL_cond ((r_4 != (0 : Int))) (by kernel_rfl) ?_ ?_
  · intro b_8; have H_61 := of_t H_60 b_8
    refine V_run hN hn 2 1 [4, 5] [0] ⟨[(4, .c (.h 0)), (5, cI r_4)], [(0, .box [.val (.int .i64 (0 : Int)), .val (.slice none 0 0)])], 1⟩ [] (by kernel_rfl) rfl rfl ap0 ?_
    have H_63 := Option.some.inj (show some ((0 : Int), ([] : List (Int × (Int × ByteArray))), r_4) = some r from H_61); subst H_63
    refine VL_ret ?_
    refine P_ghost [.readCell 0 1 (.slice kE)] 1 hn [4, 5] [0] ⟨[(4, .c (.h 0)), (5, cI r_4)], [(0, .box [.val (.int .i64 (0 : Int)), .imm (.slice kE) ([] : List (Int × (Int × ByteArray)))])], 1⟩ (by kernel_rfl) rfl rfl ?_
    exact P_to [(4, .c (.h 0)), (5, cI r_4)] [(0, .box [.val (.int .i64 (0 : Int)), .imm (.slice kE) ([] : List (Int × (Int × ByteArray)))])] [(0, 0)] hn (by kernel_rfl) (by kernel_rfl) rfl rfl rfl (QF_retS (by kernel_rfl) (by kernel_rfl) rfl)
  · intro b_8; have H_62 := of_f H_60 b_8
    refine V_run hN hn 2 1 [0, 1, 4, 6, 15] [0] ⟨[(0, cI base_1), (1, .c (.imm (.slice kE) l_2)), (4, .c (.h 0)), (6, cI r_4), (15, cB (r_4 != (0 : Int)))], [(0, .box [.val (.int .i64 (0 : Int)), .val (.slice none 0 0)])], 1⟩ [] (by kernel_rfl) rfl rfl ap0 ?_
    obtain ⟨r_11, h_12, H_64⟩ := of_bind H_62
    refine V_reg hN hn [(1, ⟨32, 0, [cI base_1], [], .c (.h 0), [(0, .box [.val (.int .i64 base_1), .val (.slice none 0 0)])], [(0, 1)], 2⟩)] [] (calls_cons (delta_NewMaker_spec K base_1 r_11 h_12) (by kernel_rfl) calls_nil) 1 [0, 1, 4, 7] [0, 1] ⟨[(0, cI base_1), (1, .c (.imm (.slice kE) l_2)), (4, .c (.h 0)), (7, .c (.h 1))], [(0, .box [.val (.int .i64 (0 : Int)), .val (.slice none 0 0)]), (1, .box [.val (.int .i64 base_1), .val (.slice none 0 0)])], 2⟩ [] (by kernel_rfl) rfl rfl ap0 (by kernel_rfl) (by kernel_rfl) ?_
    refine V_run hN hn 5 2 [0, 4, 7, 8, 20, 21, 22] [0, 1] ⟨[(0, cI base_1), (4, .c (.h 0)), (7, .c (.h 1)), (8, cI (0 : Int)), (20, .c (.imm (.slice kE) l_2)), (21, cI (lnI l_2)), (22, cI (0 : Int))], [(0, .box [.val (.int .i64 (0 : Int)), .val (.slice none 0 0)]), (1, .box [.val (.int .i64 base_1), .val (.slice none 0 0)])], 2⟩ [] (by kernel_rfl) rfl rfl ap0 ?_
    obtain ⟨q_65, H_66, H_67⟩ := of_bind H_64
    refine V_cut (Y := ((List (Int × (Int × ByteArray))) × Int)) (R := ((List (Int × (Int × ByteArray))) × Int)) q_65 (fun y => y) (fun y => [(0, cI base_1), (4, .c (.h 0)), (7, .c (.h 1)), (8, cI y.2)]) (fun y => [(0, .box [.val (.int .i64 (0 : Int)), .val (.slice none 0 0)]), (1, .box [.val (.int .i64 base_1), .h 5]), (5, .row kE y.1)]) ?_ ?_
    · skip
      refine VL_block ?_
      refine V_ghost [.nilCell 1 1 kE] 2 hn [0, 4, 7, 8, 20, 21, 22] [0, 1, 2] ⟨[(0, cI base_1), (4, .c (.h 0)), (7, .c (.h 1)), (8, cI (0 : Int)), (20, .c (.imm (.slice kE) l_2)), (21, cI (lnI l_2)), (22, cI (0 : Int))], [(0, .box [.val (.int .i64 (0 : Int)), .val (.slice none 0 0)]), (1, .box [.val (.int .i64 base_1), .h 2]), (2, .row kE ([] : List (Int × (Int × ByteArray))))], 3⟩ (by kernel_rfl) rfl rfl ?_
      refine V_to [(0, cI base_1), (4, .c (.h 0)), (7, .c (.h 1)), (8, cI (0 : Int)), (20, .c (.imm (.slice kE) l_2)), (21, cI (lnI l_2)), (22, cI (0 : Int))] [(0, .box [.val (.int .i64 (0 : Int)), .val (.slice none 0 0)]), (1, .box [.val (.int .i64 base_1), .h 5]), (5, .row kE ([] : List (Int × (Int × ByteArray))))] [(0, 0), (1, 1), (5, 2)] hn (by kernel_rfl) (by kernel_rfl) rfl rfl rfl ?_
      refine VL_loop (X := ((List (Int × (Int × ByteArray))) × Int × Int)) (fun x => [(0, cI base_1), (4, .c (.h 0)), (7, .c (.h 1)), (8, cI x.2.1), (20, .c (.imm (.slice kE) l_2)), (21, cI (lnI l_2)), (22, cI x.2.2)]) (fun x => [(0, .box [.val (.int .i64 (0 : Int)), .val (.slice none 0 0)]), (1, .box [.val (.int .i64 base_1), .h 5]), (5, .row kE x.1)]) (fun k x => delta_Build_gr.l0 K l_2 base_1 k x.1 x.2.1 x.2.2 = some q_65) K (([] : List (Int × (Int × ByteArray))), (0 : Int), (0 : Int)) H_66 (fun _ h => no_none h) ?_
      intro k_32 x_32 H_69
      obtain ⟨x_31, at_15, t_16⟩ := x_32
      have H_70 : delta_Build_gr.l0 K l_2 base_1 (k_32 + 1) x_31 at_15 t_16 = some q_65 := H_69
      rw [delta_Build_gr.l0] at H_70
      refine V_run hN hn 3 6 [0, 4, 7, 8, 20, 21, 22, 23] [0, 1, 5] ⟨[(0, cI base_1), (4, .c (.h 0)), (7, .c (.h 1)), (8, cI at_15), (20, .c (.imm (.slice kE) l_2)), (21, cI (lnI l_2)), (22, cI t_16), (23, cB (decide (t_16 < (lnI l_2))))], [(0, .box [.val (.int .i64 (0 : Int)), .val (.slice none 0 0)]), (1, .box [.val (.int .i64 base_1), .h 5]), (5, .row kE x_31)], 6⟩ [] (by kernel_rfl) rfl rfl ap0 ?_
      refine VL_cond ((decide (t_16 < (lnI l_2)))) (by kernel_rfl) ?_ ?_
      · intro b_34; have H_71 := of_t H_70 b_34
        refine V_run hN hn 2 6 [0, 4, 7, 8, 20, 21, 22, 23] [0, 1, 5] ⟨[(0, cI base_1), (4, .c (.h 0)), (7, .c (.h 1)), (8, cI at_15), (20, .c (.imm (.slice kE) l_2)), (21, cI (lnI l_2)), (22, cI t_16), (23, cB (decide (t_16 < (lnI l_2))))], [(0, .box [.val (.int .i64 (0 : Int)), .val (.slice none 0 0)]), (1, .box [.val (.int .i64 base_1), .h 5]), (5, .row kE x_31)], 6⟩ [] (by kernel_rfl) rfl rfl ap0 ?_
        refine VL_block ?_
        obtain ⟨c_36, H_73⟩ := of_if H_71
        refine V_run hN hn 3 6 [0, 4, 7, 8, 10, 20, 21, 22] [0, 1, 5, 6] ⟨[(0, cI base_1), (4, .c (.h 0)), (7, .c (.h 1)), (8, cI at_15), (10, .c (.h 6)), (20, .c (.imm (.slice kE) l_2)), (21, cI (lnI l_2)), (22, cI t_16)], [(0, .box [.val (.int .i64 (0 : Int)), .val (.slice none 0 0)]), (1, .box [.val (.int .i64 base_1), .h 5]), (5, .row kE x_31), (6, .box [.val (.int .i64 (List.getD l_2 (Int.toNat t_16) zE).1), .val (.int .i64 (List.getD l_2 (Int.toNat t_16) zE).2.1), .val (.string (List.getD l_2 (Int.toNat t_16) zE).2.2)])], 7⟩ [0 ≤ t_16, t_16 < (lnI l_2)] (by kernel_rfl) rfl rfl (ap2 c_36.1 (ap1 c_36.2)) ?_
        obtain ⟨r_37, h_38, H_74⟩ := of_bind H_73
        refine V_reg hN hn [(4, ⟨33, 2, [.c (.h 0), cI at_15, .c (.val (.int .i64 (List.getD l_2 (Int.toNat t_16) zE).1))], [(0, .box [.val (.int .i64 base_1), .h 1]), (1, .row kE x_31)], .tup [], [(0, .box [.val (.int .i64 base_1), .h 4]), (4, .row kE r_37)], [(0, 1), (1, 5), (4, 7)], 8⟩)] [] (calls_cons (delta_Maker_Copy_bgg_11dec_spec K base_1 x_31 at_15 (List.getD l_2 (Int.toNat t_16) zE).1 r_37 h_38) (by kernel_rfl) calls_nil) 7 [0, 4, 7, 10, 20, 21, 22] [0, 1, 6, 7] ⟨[(0, cI base_1), (4, .c (.h 0)), (7, .c (.h 1)), (10, .c (.h 6)), (20, .c (.imm (.slice kE) l_2)), (21, cI (lnI l_2)), (22, cI t_16)], [(0, .box [.val (.int .i64 (0 : Int)), .val (.slice none 0 0)]), (1, .box [.val (.int .i64 base_1), .h 7]), (6, .box [.val (.int .i64 (List.getD l_2 (Int.toNat t_16) zE).1), .val (.int .i64 (List.getD l_2 (Int.toNat t_16) zE).2.1), .val (.string (List.getD l_2 (Int.toNat t_16) zE).2.2)]), (7, .row kE r_37)], 8⟩ [] (by kernel_rfl) rfl rfl ap0 (by kernel_rfl) (by kernel_rfl) ?_
        refine V_run hN hn 1 8 [0, 4, 7, 10, 20, 21, 22] [0, 1, 6, 7] ⟨[(0, cI base_1), (4, .c (.h 0)), (7, .c (.h 1)), (10, .c (.h 6)), (20, .c (.imm (.slice kE) l_2)), (21, cI (lnI l_2)), (22, cI t_16)], [(0, .box [.val (.int .i64 (0 : Int)), .val (.slice none 0 0)]), (1, .box [.val (.int .i64 base_1), .h 7]), (6, .box [.val (.int .i64 (List.getD l_2 (Int.toNat t_16) zE).1), .val (.int .i64 (List.getD l_2 (Int.toNat t_16) zE).2.1), .val (.string (List.getD l_2 (Int.toNat t_16) zE).2.2)]), (7, .row kE r_37)], 8⟩ [] (by kernel_rfl) rfl rfl ap0 ?_
        obtain ⟨r_41, h_42, H_75⟩ := of_bind H_74
        refine V_reg hN hn [(3, ⟨34, 2, [.c (.h 0), .c (.val (.string (List.getD l_2 (Int.toNat t_16) zE).2.2))], [(0, .box [.val (.int .i64 base_1), .h 1]), (1, .row kE r_37)], .tup [], [(0, .box [.val (.int .i64 base_1), .h 4]), (4, .row kE r_41)], [(0, 1), (1, 7), (4, 8)], 9⟩)] [] (calls_cons (delta_Maker_Put_bg_92925_spec K base_1 r_37 (List.getD l_2 (Int.toNat t_16) zE).2.2 r_41 h_42) (by kernel_rfl) calls_nil) 8 [0, 4, 7, 10, 20, 21, 22] [0, 1, 6, 8] ⟨[(0, cI base_1), (4, .c (.h 0)), (7, .c (.h 1)), (10, .c (.h 6)), (20, .c (.imm (.slice kE) l_2)), (21, cI (lnI l_2)), (22, cI t_16)], [(0, .box [.val (.int .i64 (0 : Int)), .val (.slice none 0 0)]), (1, .box [.val (.int .i64 base_1), .h 8]), (6, .box [.val (.int .i64 (List.getD l_2 (Int.toNat t_16) zE).1), .val (.int .i64 (List.getD l_2 (Int.toNat t_16) zE).2.1), .val (.string (List.getD l_2 (Int.toNat t_16) zE).2.2)]), (8, .row kE r_41)], 9⟩ [] (by kernel_rfl) rfl rfl ap0 (by kernel_rfl) (by kernel_rfl) ?_
        refine V_run hN hn 1 9 [0, 4, 7, 8, 20, 21, 22] [0, 1, 8] ⟨[(0, cI base_1), (4, .c (.h 0)), (7, .c (.h 1)), (8, .c (.val (.int .i64 (List.getD l_2 (Int.toNat t_16) zE).2.1))), (20, .c (.imm (.slice kE) l_2)), (21, cI (lnI l_2)), (22, cI t_16)], [(0, .box [.val (.int .i64 (0 : Int)), .val (.slice none 0 0)]), (1, .box [.val (.int .i64 base_1), .h 8]), (8, .row kE r_41)], 9⟩ [] (by kernel_rfl) rfl rfl ap0 ?_
        refine VL_nil (QB_end ?_)
        refine V_run hN hn 1 9 [0, 4, 7, 8, 20, 21, 22] [0, 1, 8] ⟨[(0, cI base_1), (4, .c (.h 0)), (7, .c (.h 1)), (8, .c (.val (.int .i64 (List.getD l_2 (Int.toNat t_16) zE).2.1))), (20, .c (.imm (.slice kE) l_2)), (21, cI (lnI l_2)), (22, cI (w6 (t_16 + (1 : Int))))], [(0, .box [.val (.int .i64 (0 : Int)), .val (.slice none 0 0)]), (1, .box [.val (.int .i64 base_1), .h 8]), (8, .row kE r_41)], 9⟩ [] (by kernel_rfl) rfl rfl ap0 ?_
        refine VL_nil ?_
        exact V_roundEnd (r_41, (List.getD l_2 (Int.toNat t_16) zE).2.1, (w6 (t_16 + (1 : Int)))) H_75 [(0, 0), (1, 1), (5, 8)] hn (by kernel_rfl) (by kernel_rfl) rfl rfl rfl
      · intro b_34; have H_72 := of_f H_70 b_34
        refine VL_exit ?_
        refine QL_exit ?_
        refine QB_here ?_
        have H_76 := Option.some.inj (show some (x_31, at_15) = some q_65 from H_72); subst H_76
        refine VL_nil ?_
        exact QP_end (x_31, at_15) rfl [(0, 0), (1, 1), (5, 5)] hn (by kernel_rfl) (by kernel_rfl) rfl rfl rfl
    · intro y_68 hy; subst hy
      obtain ⟨x_46, at_47⟩ := y_68
      refine V_run hN hn 1 6 [0, 4, 7, 8] [0, 1, 5] ⟨[(0, cI base_1), (4, .c (.h 0)), (7, .c (.h 1)), (8, cI at_47)], [(0, .box [.val (.int .i64 (0 : Int)), .val (.slice none 0 0)]), (1, .box [.val (.int .i64 base_1), .h 5]), (5, .row kE x_46)], 6⟩ [] (by kernel_rfl) rfl rfl ap0 ?_
      obtain ⟨r_49, h_50, H_77⟩ := of_bind H_67
      refine V_reg hN hn [(3, ⟨33, 2, [.c (.h 0), cI at_47, cI base_1], [(0, .box [.val (.int .i64 base_1), .h 1]), (1, .row kE x_46)], .tup [], [(0, .box [.val (.int .i64 base_1), .h 4]), (4, .row kE r_49)], [(0, 1), (1, 5), (4, 6)], 7⟩)] [] (calls_cons (delta_Maker_Copy_bgg_11dec_spec K base_1 x_46 at_47 base_1 r_49 h_50) (by kernel_rfl) calls_nil) 6 [4, 7] [0, 1, 6] ⟨[(4, .c (.h 0)), (7, .c (.h 1))], [(0, .box [.val (.int .i64 (0 : Int)), .val (.slice none 0 0)]), (1, .box [.val (.int .i64 base_1), .h 6]), (6, .row kE r_49)], 7⟩ [] (by kernel_rfl) rfl rfl ap0 (by kernel_rfl) (by kernel_rfl) ?_
      refine V_run hN hn 1 7 [4, 7] [0, 1, 6] ⟨[(4, .c (.h 0)), (7, .c (.h 1))], [(0, .box [.val (.int .i64 (0 : Int)), .val (.slice none 0 0)]), (1, .box [.val (.int .i64 base_1), .h 6]), (6, .row kE r_49)], 7⟩ [] (by kernel_rfl) rfl rfl ap0 ?_
      refine V_ghost [.shut 6] 7 hn [4, 7] [0, 1] ⟨[(4, .c (.h 0)), (7, .c (.h 1))], [(0, .box [.val (.int .i64 (0 : Int)), .val (.slice none 0 0)]), (1, .box [.val (.int .i64 base_1), .imm (.slice kE) r_49])], 7⟩ (by kernel_rfl) rfl rfl ?_
      obtain ⟨r_53, h_54, H_78⟩ := of_bind H_77
      refine V_reg hN hn [(1, ⟨35, 1, [.c (.h 0)], [(0, .box [.val (.int .i64 base_1), .imm (.slice kE) r_49])], .tup [(true, [.val (.int .i64 r_53.1), .imm (.slice kE) r_53.2.1]), (false, [.val (.int .i64 r_53.2.2)])], [(0, .box [.val (.int .i64 base_1), .imm (.slice kE) r_49])], [(0, 1)], 7⟩)] [] (calls_cons (delta_Maker_Delta_b_ee1c6_spec K base_1 r_49 r_53 h_54) (by kernel_rfl) calls_nil) 7 [4, 5] [0] ⟨[(4, .c (.h 0)), (5, cI r_53.2.2)], [(0, .box [.val (.int .i64 r_53.1), .imm (.slice kE) r_53.2.1])], 7⟩ [] (by kernel_rfl) rfl rfl ap0 (by kernel_rfl) (by kernel_rfl) ?_
      have H_79 := Option.some.inj (show some (r_53.1, r_53.2.1, r_53.2.2) = some r from H_78); subst H_79
      refine VL_ret ?_
      exact P_to [(4, .c (.h 0)), (5, cI r_53.2.2)] [(0, .box [.val (.int .i64 r_53.1), .imm (.slice kE) r_53.2.1])] [(0, 0)] hn (by kernel_rfl) (by kernel_rfl) rfl rfl rfl (QF_retS (by kernel_rfl) (by kernel_rfl) rfl)

theorem delta_sums_spec (K : Nat) (d_1 : Int) (d_2 : (List (Int × (Int × ByteArray)))) (r : (Int × Int)) (H : delta_sums K d_1 d_2 = some r) : Spec Try.prog 65 0 [.agg [.val (.int .i64 d_1), .imm (.slice kE) d_2]] [] (.tup [(false, [.val (.int .i64 r.1)]), (false, [.val (.int .i64 r.2)])]) [] := by
  refine Spec_mk (fn := Try.f65) (c := (Try.f65.body).get!) Try.func65 (by kernel_rfl) rfl ?_
  intro C hN hn
  replace hN : C.N = 33 := hN
  unfold delta_sums at H
  refine V_run hN hn 6 0 [1, 4, 5] [0] ⟨[(1, .c (.h 0)), (4, cI (0 : Int)), (5, cI (0 : Int))], [(0, .box [.val (.int .i64 d_1), .imm (.slice kE) d_2])], 1⟩ [] (by kernel_rfl) rfl rfl ap0 ?_
  obtain ⟨r_4, h_5, H_22⟩ := of_bind H
  refine V_reg hN hn [(1, ⟨36, 0, [.agg [.val (.int .i64 d_1), .imm (.slice kE) d_2]], [], cB r_4, [], [], 1⟩)] [] (calls_cons (delta_Is_spec K d_1 d_2 r_4 h_5) (by kernel_rfl) calls_nil) 1 [1, 4, 5, 10] [0] ⟨[(1, .c (.h 0)), (4, cI (0 : Int)), (5, cI (0 : Int)), (10, cB (!r_4))], [(0, .box [.val (.int .i64 d_1), .imm (.slice kE) d_2])], 1⟩ [] (by kernel_rfl) rfl rfl ap0 (by kernel_rfl) (by kernel_rfl) ?_
  refine VL_cond ((!r_4)) (by kernel_rfl) ?_ ?_
  · intro b_7; have H_23 := of_t H_22 b_7
    refine V_run hN hn 2 1 [2, 3] [] ⟨[(2, cI (0 : Int)), (3, cI (0 : Int))], [], 1⟩ [] (by kernel_rfl) rfl rfl ap0 ?_
    have H_25 := Option.some.inj (show some zP = some r from H_23); subst H_25
    refine VL_ret ?_
    exact P_to [(2, cI (0 : Int)), (3, cI (0 : Int))] [] [] hn (by kernel_rfl) (by kernel_rfl) rfl rfl rfl (QF_retS (by kernel_rfl) (by kernel_rfl) rfl)
  · intro b_7; have H_24 := of_f H_22 b_7
    refine V_run hN hn 4 1 [4, 5, 12, 13, 14] [] ⟨[(4, cI (0 : Int)), (5, cI (0 : Int)), (12, .c (.imm (.slice kE) d_2)), (13, cI (lnI d_2)), (14, cI (0 : Int))], [], 1⟩ [] (by kernel_rfl) rfl rfl ap0 ?_
    refine VL_block ?_
    refine V_to [(4, cI (0 : Int)), (5, cI (0 : Int)), (12, .c (.imm (.slice kE) d_2)), (13, cI (lnI d_2)), (14, cI (0 : Int))] [] [] hn (by kernel_rfl) (by kernel_rfl) rfl rfl rfl ?_
    refine VL_loop (X := (Int × Int × Int)) (fun x => [(4, cI x.1), (5, cI x.2.1), (12, .c (.imm (.slice kE) d_2)), (13, cI (lnI d_2)), (14, cI x.2.2)]) (fun x => []) (fun k x => delta_sums.l0 K d_2 k x.1 x.2.1 x.2.2 = some r) K ((0 : Int), (0 : Int), (0 : Int)) H_24 (fun _ h => no_none h) ?_
    intro k_13 x_13 H_26
    obtain ⟨kept_10, put_11, t_12⟩ := x_13
    have H_27 : delta_sums.l0 K d_2 (k_13 + 1) kept_10 put_11 t_12 = some r := H_26
    rw [delta_sums.l0] at H_27
    refine V_run hN hn 3 1 [4, 5, 12, 13, 14, 15] [] ⟨[(4, cI kept_10), (5, cI put_11), (12, .c (.imm (.slice kE) d_2)), (13, cI (lnI d_2)), (14, cI t_12), (15, cB (decide (t_12 < (lnI d_2))))], [], 1⟩ [] (by kernel_rfl) rfl rfl ap0 ?_
    refine VL_cond ((decide (t_12 < (lnI d_2)))) (by kernel_rfl) ?_ ?_
    · intro b_15; have H_28 := of_t H_27 b_15
      refine V_run hN hn 2 1 [4, 5, 12, 13, 14, 15] [] ⟨[(4, cI kept_10), (5, cI put_11), (12, .c (.imm (.slice kE) d_2)), (13, cI (lnI d_2)), (14, cI t_12), (15, cB (decide (t_12 < (lnI d_2))))], [], 1⟩ [] (by kernel_rfl) rfl rfl ap0 ?_
      refine VL_block ?_
      obtain ⟨c_17, H_30⟩ := of_if H_28
      refine V_run hN hn 5 1 [4, 5, 12, 13, 14] [] ⟨[(4, cI (w6 (kept_10 + (w6 ((List.getD d_2 (Int.toNat t_12) zE).2.1 - (List.getD d_2 (Int.toNat t_12) zE).1))))), (5, cI (w6 (put_11 + (((ByteArray.size (List.getD d_2 (Int.toNat t_12) zE).2.2) : Nat) : Int)))), (12, .c (.imm (.slice kE) d_2)), (13, cI (lnI d_2)), (14, cI t_12)], [], 2⟩ [0 ≤ t_12, t_12 < (lnI d_2)] (by kernel_rfl) rfl rfl (ap2 c_17.1 (ap1 c_17.2)) ?_
      refine VL_nil (QB_end ?_)
      refine V_run hN hn 1 2 [4, 5, 12, 13, 14] [] ⟨[(4, cI (w6 (kept_10 + (w6 ((List.getD d_2 (Int.toNat t_12) zE).2.1 - (List.getD d_2 (Int.toNat t_12) zE).1))))), (5, cI (w6 (put_11 + (((ByteArray.size (List.getD d_2 (Int.toNat t_12) zE).2.2) : Nat) : Int)))), (12, .c (.imm (.slice kE) d_2)), (13, cI (lnI d_2)), (14, cI (w6 (t_12 + (1 : Int))))], [], 2⟩ [] (by kernel_rfl) rfl rfl ap0 ?_
      refine VL_nil ?_
      exact V_roundEnd ((w6 (kept_10 + (w6 ((List.getD d_2 (Int.toNat t_12) zE).2.1 - (List.getD d_2 (Int.toNat t_12) zE).1)))), (w6 (put_11 + (((ByteArray.size (List.getD d_2 (Int.toNat t_12) zE).2.2) : Nat) : Int))), (w6 (t_12 + (1 : Int)))) H_30 [] hn (by kernel_rfl) (by kernel_rfl) rfl rfl rfl
    · intro b_15; have H_29 := of_f H_27 b_15
      refine VL_exit ?_
      refine QL_exit ?_
      refine QB_here ?_
      refine V_run hN hn 2 1 [2, 3] [] ⟨[(2, cI kept_10), (3, cI put_11)], [], 1⟩ [] (by kernel_rfl) rfl rfl ap0 ?_
      have H_31 := Option.some.inj (show some (kept_10, put_11) = some r from H_29); subst H_31
      refine VL_ret ?_
      exact P_to [(2, cI kept_10), (3, cI put_11)] [] [] hn (by kernel_rfl) (by kernel_rfl) rfl rfl rfl (QF_retS (by kernel_rfl) (by kernel_rfl) rfl)

theorem delta_Size_spec (K : Nat) (d_1 : Int) (d_2 : (List (Int × (Int × ByteArray)))) (r : Int) (H : delta_Size K d_1 d_2 = some r) : Spec Try.prog 45 0 [.agg [.val (.int .i64 d_1), .imm (.slice kE) d_2]] [] (cI r) [] := by
  refine Spec_mk (fn := Try.f45) (c := (Try.f45.body).get!) Try.func45 (by kernel_rfl) rfl ?_
  intro C hN hn
  replace hN : C.N = 13 := hN
  unfold delta_Size at H
  refine V_run hN hn 3 0 [1] [0] ⟨[(1, .c (.h 0))], [(0, .box [.val (.int .i64 d_1), .imm (.slice kE) d_2])], 1⟩ [] (by kernel_rfl) rfl rfl ap0 ?_
  obtain ⟨r_4, h_5, H_9⟩ := of_bind H
  refine V_reg hN hn [(1, ⟨65, 0, [.agg [.val (.int .i64 d_1), .imm (.slice kE) d_2]], [], .tup [(false, [.val (.int .i64 r_4.1)]), (false, [.val (.int .i64 r_4.2)])], [], [], 1⟩)] [] (calls_cons (delta_sums_spec K d_1 d_2 r_4 h_5) (by kernel_rfl) calls_nil) 1 [3, 4] [] ⟨[(3, cI r_4.1), (4, cI r_4.2)], [], 1⟩ [] (by kernel_rfl) rfl rfl ap0 (by kernel_rfl) (by kernel_rfl) ?_
  refine V_run hN hn 2 1 [2] [] ⟨[(2, cI (w6 (r_4.1 + r_4.2)))], [], 1⟩ [] (by kernel_rfl) rfl rfl ap0 ?_
  have H_10 := Option.some.inj (show some (w6 (r_4.1 + r_4.2)) = some r from H_9); subst H_10
  refine VL_ret ?_
  exact P_to [(2, cI (w6 (r_4.1 + r_4.2)))] [] [] hn (by kernel_rfl) (by kernel_rfl) rfl rfl rfl (QF_retS (by kernel_rfl) (by kernel_rfl) rfl)

theorem delta_Apply_spec (K : Nat) (d_1 : Int) (d_2 : (List (Int × (Int × ByteArray)))) (s_3 : ByteArray) (r : (ByteArray × Int)) (H : delta_Apply K d_1 d_2 s_3 = some r) : Spec Try.prog 24 0 [.agg [.val (.int .i64 d_1), .imm (.slice kE) d_2], cS s_3] [] (.tup [(false, [.val (.string r.1)]), (false, [.val (.int .i64 r.2)])]) [] := by
  refine Spec_mk (fn := Try.f24) (c := (Try.f24.body).get!) Try.func24 (by kernel_rfl) rfl ?_
  intro C hN hn
  replace hN : C.N = 53 := hN
  unfold delta_Apply at H
  refine V_run hN hn 3 0 [1, 2] [0] ⟨[(1, cS s_3), (2, .c (.h 0))], [(0, .box [.val (.int .i64 d_1), .imm (.slice kE) d_2])], 1⟩ [] (by kernel_rfl) rfl rfl ap0 ?_
  refine VL_block ?_
  refine V_run hN hn 1 1 [1, 2] [0] ⟨[(1, cS s_3), (2, .c (.h 0))], [(0, .box [.val (.int .i64 d_1), .imm (.slice kE) d_2])], 1⟩ [] (by kernel_rfl) rfl rfl ap0 ?_
  obtain ⟨r_6, h_7, H_43⟩ := of_bind H
  refine V_reg hN hn [(1, ⟨36, 0, [.agg [.val (.int .i64 d_1), .imm (.slice kE) d_2]], [], cB r_6, [], [], 1⟩)] [] (calls_cons (delta_Is_spec K d_1 d_2 r_6 h_7) (by kernel_rfl) calls_nil) 1 [1, 2, 10] [0] ⟨[(1, cS s_3), (2, .c (.h 0)), (10, cB (!r_6))], [(0, .box [.val (.int .i64 d_1), .imm (.slice kE) d_2])], 1⟩ [] (by kernel_rfl) rfl rfl ap0 (by kernel_rfl) (by kernel_rfl) ?_
  refine VL_cond ((!r_6)) (by kernel_rfl) ?_ ?_
  · intro b_9; have H_44 := of_t H_43 b_9
    refine V_run hN hn 2 1 [4, 5] [] ⟨[(4, cS (ByteArray.mk #[])), (5, cI (12 : Int))], [], 1⟩ [] (by kernel_rfl) rfl rfl ap0 ?_
    have H_46 := Option.some.inj (show some ((ByteArray.mk #[]), (12 : Int)) = some r from H_44); subst H_46
    refine VL_ret ?_
    refine QB_ret ?_
    exact P_to [(4, cS (ByteArray.mk #[])), (5, cI (12 : Int))] [] [] hn (by kernel_rfl) (by kernel_rfl) rfl rfl rfl (QF_retS (by kernel_rfl) (by kernel_rfl) rfl)
  · intro b_9; have H_45 := of_f H_43 b_9
    refine V_run hN hn 2 1 [1, 2, 14] [0] ⟨[(1, cS s_3), (2, .c (.h 0)), (14, cB ((((ByteArray.size s_3) : Nat) : Int) != d_1))], [(0, .box [.val (.int .i64 d_1), .imm (.slice kE) d_2])], 1⟩ [] (by kernel_rfl) rfl rfl ap0 ?_
    refine VL_cond (((((ByteArray.size s_3) : Nat) : Int) != d_1)) (by kernel_rfl) ?_ ?_
    · intro b_12; have H_47 := of_t H_45 b_12
      refine V_run hN hn 2 1 [4, 5] [] ⟨[(4, cS (ByteArray.mk #[])), (5, cI (80 : Int))], [], 1⟩ [] (by kernel_rfl) rfl rfl ap0 ?_
      have H_49 := Option.some.inj (show some ((ByteArray.mk #[]), (80 : Int)) = some r from H_47); subst H_49
      refine VL_ret ?_
      refine QB_ret ?_
      exact P_to [(4, cS (ByteArray.mk #[])), (5, cI (80 : Int))] [] [] hn (by kernel_rfl) (by kernel_rfl) rfl rfl rfl (QF_retS (by kernel_rfl) (by kernel_rfl) rfl)
    · intro b_12; have H_48 := of_f H_45 b_12
      refine V_run hN hn 1 1 [1, 2, 14] [0] ⟨[(1, cS s_3), (2, .c (.h 0)), (14, cB ((((ByteArray.size s_3) : Nat) : Int) != d_1))], [(0, .box [.val (.int .i64 d_1), .imm (.slice kE) d_2])], 1⟩ [] (by kernel_rfl) rfl rfl ap0 ?_
      refine VL_nil (QB_end ?_)
      refine V_run hN hn 1 1 [1, 2, 14] [0] ⟨[(1, cS s_3), (2, .c (.h 0)), (14, cB ((((ByteArray.size s_3) : Nat) : Int) != d_1))], [(0, .box [.val (.int .i64 d_1), .imm (.slice kE) d_2])], 1⟩ [] (by kernel_rfl) rfl rfl ap0 ?_
      obtain ⟨r_16, h_17, H_50⟩ := of_bind H_48
      obtain ⟨c_18, H_51⟩ := of_if H_50
      refine V_reg hN hn [(1, ⟨45, 0, [.agg [.val (.int .i64 d_1), .imm (.slice kE) d_2]], [], cI r_16, [], [], 1⟩)] [] (calls_cons (delta_Size_spec K d_1 d_2 r_16 h_17) (by kernel_rfl) calls_nil) 1 [1, 2, 6] [0, 1] ⟨[(1, cS s_3), (2, .c (.h 0)), (6, .c (.h 1))], [(0, .box [.val (.int .i64 d_1), .imm (.slice kE) d_2]), (1, .row (.int .u8) (List.replicate (Int.toNat r_16) (0 : Int)))], 2⟩ [(0 : Int) ≤ r_16, r_16 ≤ r_16, r_16 * 1 ≤ (140737488355328 : Int), r_16 ≤ (9223372036854775807 : Int)] (by kernel_rfl) rfl rfl (ap2 c_18.1 (ap2 c_18.2.1 (ap2 c_18.2.2.1 (ap1 c_18.2.2.2)))) (by kernel_rfl) (by kernel_rfl) ?_
      refine V_run hN hn 5 2 [1, 6, 7, 24, 25, 26] [1] ⟨[(1, cS s_3), (6, .c (.h 1)), (7, cI (0 : Int)), (24, .c (.imm (.slice kE) d_2)), (25, cI (lnI d_2)), (26, cI (0 : Int))], [(1, .row (.int .u8) (List.replicate (Int.toNat r_16) (0 : Int)))], 2⟩ [] (by kernel_rfl) rfl rfl ap0 ?_
      refine VL_block ?_
      refine V_to [(1, cS s_3), (6, .c (.h 1)), (7, cI (0 : Int)), (24, .c (.imm (.slice kE) d_2)), (25, cI (lnI d_2)), (26, cI (0 : Int))] [(1, .row (.int .u8) (List.replicate (Int.toNat r_16) (0 : Int)))] [(1, 1)] hn (by kernel_rfl) (by kernel_rfl) rfl rfl rfl ?_
      refine VL_loop (X := ((List Int) × Int × Int)) (fun x => [(1, cS s_3), (6, .c (.h 1)), (7, cI x.2.1), (24, .c (.imm (.slice kE) d_2)), (25, cI (lnI d_2)), (26, cI x.2.2)]) (fun x => [(1, .row (.int .u8) x.1)]) (fun k x => delta_Apply.l0 K d_2 s_3 k x.1 x.2.1 x.2.2 = some r) K ((List.replicate (Int.toNat r_16) (0 : Int)), (0 : Int), (0 : Int)) H_51 (fun _ h => no_none h) ?_
      intro k_32 x_32 H_52
      obtain ⟨out_31, n_20, t_21⟩ := x_32
      have H_53 : delta_Apply.l0 K d_2 s_3 (k_32 + 1) out_31 n_20 t_21 = some r := H_52
      rw [delta_Apply.l0] at H_53
      refine V_run hN hn 3 3 [1, 6, 7, 24, 25, 26, 27] [1] ⟨[(1, cS s_3), (6, .c (.h 1)), (7, cI n_20), (24, .c (.imm (.slice kE) d_2)), (25, cI (lnI d_2)), (26, cI t_21), (27, cB (decide (t_21 < (lnI d_2))))], [(1, .row (.int .u8) out_31)], 3⟩ [] (by kernel_rfl) rfl rfl ap0 ?_
      refine VL_cond ((decide (t_21 < (lnI d_2)))) (by kernel_rfl) ?_ ?_
      · intro b_34; have H_54 := of_t H_53 b_34
        refine V_run hN hn 2 3 [1, 6, 7, 24, 25, 26, 27] [1] ⟨[(1, cS s_3), (6, .c (.h 1)), (7, cI n_20), (24, .c (.imm (.slice kE) d_2)), (25, cI (lnI d_2)), (26, cI t_21), (27, cB (decide (t_21 < (lnI d_2))))], [(1, .row (.int .u8) out_31)], 3⟩ [] (by kernel_rfl) rfl rfl ap0 ?_
        refine VL_block ?_
        obtain ⟨c_36, H_56⟩ := of_if H_54
        refine V_run hN hn 3 3 [1, 6, 7, 9, 24, 25, 26] [1, 3] ⟨[(1, cS s_3), (6, .c (.h 1)), (7, cI n_20), (9, .c (.h 3)), (24, .c (.imm (.slice kE) d_2)), (25, cI (lnI d_2)), (26, cI t_21)], [(1, .row (.int .u8) out_31), (3, .box [.val (.int .i64 (List.getD d_2 (Int.toNat t_21) zE).1), .val (.int .i64 (List.getD d_2 (Int.toNat t_21) zE).2.1), .val (.string (List.getD d_2 (Int.toNat t_21) zE).2.2)])], 4⟩ [0 ≤ t_21, t_21 < (lnI d_2)] (by kernel_rfl) rfl rfl (ap2 c_36.1 (ap1 c_36.2)) ?_
        obtain ⟨c_37, H_57⟩ := of_if H_56
        refine V_draw hN hn (by kernel_rfl) [] [] calls_nil 4 [1, 6, 7, 9, 24, 25, 26] [1, 3] ⟨[(1, cS s_3), (6, .c (.h 1)), (7, cI (w6 (n_20 + (lnI (List.take ((List.length out_31) - (Int.toNat n_20)) (List.map (fun b => (UInt8.toNat b : Int)) (Array.toList (ByteArray.data (ByteArray.extract s_3 (Int.toNat (List.getD d_2 (Int.toNat t_21) zE).1) (Int.toNat (List.getD d_2 (Int.toNat t_21) zE).2.1)))))))))), (9, .c (.h 3)), (24, .c (.imm (.slice kE) d_2)), (25, cI (lnI d_2)), (26, cI t_21)], [(1, .row (.int .u8) (putAt out_31 (List.take ((List.length out_31) - (Int.toNat n_20)) (List.map (fun b => (UInt8.toNat b : Int)) (Array.toList (ByteArray.data (ByteArray.extract s_3 (Int.toNat (List.getD d_2 (Int.toNat t_21) zE).1) (Int.toNat (List.getD d_2 (Int.toNat t_21) zE).2.1)))))) (Int.toNat n_20))), (3, .box [.val (.int .i64 (List.getD d_2 (Int.toNat t_21) zE).1), .val (.int .i64 (List.getD d_2 (Int.toNat t_21) zE).2.1), .val (.string (List.getD d_2 (Int.toNat t_21) zE).2.2)])], 4⟩ [(0 : Int) ≤ n_20, n_20 ≤ (lnI out_31), (0 : Int) ≤ (List.getD d_2 (Int.toNat t_21) zE).1, (List.getD d_2 (Int.toNat t_21) zE).1 ≤ (List.getD d_2 (Int.toNat t_21) zE).2.1, (List.getD d_2 (Int.toNat t_21) zE).2.1 ≤ (((ByteArray.size s_3) : Nat) : Int)] (by kernel_rfl) rfl rfl (ap2 c_37.1 (ap2 c_37.2.1 (ap2 c_37.2.2.1 (ap2 c_37.2.2.2.1 (ap1 c_37.2.2.2.2))))) (by kernel_rfl) (by kernel_rfl) ?_
        obtain ⟨c_38, H_58⟩ := of_if H_57
        refine V_draw hN hn (by kernel_rfl) [] [] calls_nil 4 [1, 6, 7, 24, 25, 26] [1] ⟨[(1, cS s_3), (6, .c (.h 1)), (7, cI (w6 ((w6 (n_20 + (lnI (List.take ((List.length out_31) - (Int.toNat n_20)) (List.map (fun b => (UInt8.toNat b : Int)) (Array.toList (ByteArray.data (ByteArray.extract s_3 (Int.toNat (List.getD d_2 (Int.toNat t_21) zE).1) (Int.toNat (List.getD d_2 (Int.toNat t_21) zE).2.1))))))))) + (lnI (List.take ((List.length (putAt out_31 (List.take ((List.length out_31) - (Int.toNat n_20)) (List.map (fun b => (UInt8.toNat b : Int)) (Array.toList (ByteArray.data (ByteArray.extract s_3 (Int.toNat (List.getD d_2 (Int.toNat t_21) zE).1) (Int.toNat (List.getD d_2 (Int.toNat t_21) zE).2.1)))))) (Int.toNat n_20))) - (Int.toNat (w6 (n_20 + (lnI (List.take ((List.length out_31) - (Int.toNat n_20)) (List.map (fun b => (UInt8.toNat b : Int)) (Array.toList (ByteArray.data (ByteArray.extract s_3 (Int.toNat (List.getD d_2 (Int.toNat t_21) zE).1) (Int.toNat (List.getD d_2 (Int.toNat t_21) zE).2.1))))))))))) (List.map (fun b => (UInt8.toNat b : Int)) (Array.toList (ByteArray.data (List.getD d_2 (Int.toNat t_21) zE).2.2)))))))), (24, .c (.imm (.slice kE) d_2)), (25, cI (lnI d_2)), (26, cI t_21)], [(1, .row (.int .u8) (putAt (putAt out_31 (List.take ((List.length out_31) - (Int.toNat n_20)) (List.map (fun b => (UInt8.toNat b : Int)) (Array.toList (ByteArray.data (ByteArray.extract s_3 (Int.toNat (List.getD d_2 (Int.toNat t_21) zE).1) (Int.toNat (List.getD d_2 (Int.toNat t_21) zE).2.1)))))) (Int.toNat n_20)) (List.take ((List.length (putAt out_31 (List.take ((List.length out_31) - (Int.toNat n_20)) (List.map (fun b => (UInt8.toNat b : Int)) (Array.toList (ByteArray.data (ByteArray.extract s_3 (Int.toNat (List.getD d_2 (Int.toNat t_21) zE).1) (Int.toNat (List.getD d_2 (Int.toNat t_21) zE).2.1)))))) (Int.toNat n_20))) - (Int.toNat (w6 (n_20 + (lnI (List.take ((List.length out_31) - (Int.toNat n_20)) (List.map (fun b => (UInt8.toNat b : Int)) (Array.toList (ByteArray.data (ByteArray.extract s_3 (Int.toNat (List.getD d_2 (Int.toNat t_21) zE).1) (Int.toNat (List.getD d_2 (Int.toNat t_21) zE).2.1))))))))))) (List.map (fun b => (UInt8.toNat b : Int)) (Array.toList (ByteArray.data (List.getD d_2 (Int.toNat t_21) zE).2.2)))) (Int.toNat (w6 (n_20 + (lnI (List.take ((List.length out_31) - (Int.toNat n_20)) (List.map (fun b => (UInt8.toNat b : Int)) (Array.toList (ByteArray.data (ByteArray.extract s_3 (Int.toNat (List.getD d_2 (Int.toNat t_21) zE).1) (Int.toNat (List.getD d_2 (Int.toNat t_21) zE).2.1))))))))))))], 4⟩ [(0 : Int) ≤ (w6 (n_20 + (lnI (List.take ((List.length out_31) - (Int.toNat n_20)) (List.map (fun b => (UInt8.toNat b : Int)) (Array.toList (ByteArray.data (ByteArray.extract s_3 (Int.toNat (List.getD d_2 (Int.toNat t_21) zE).1) (Int.toNat (List.getD d_2 (Int.toNat t_21) zE).2.1))))))))), (w6 (n_20 + (lnI (List.take ((List.length out_31) - (Int.toNat n_20)) (List.map (fun b => (UInt8.toNat b : Int)) (Array.toList (ByteArray.data (ByteArray.extract s_3 (Int.toNat (List.getD d_2 (Int.toNat t_21) zE).1) (Int.toNat (List.getD d_2 (Int.toNat t_21) zE).2.1))))))))) ≤ (lnI (putAt out_31 (List.take ((List.length out_31) - (Int.toNat n_20)) (List.map (fun b => (UInt8.toNat b : Int)) (Array.toList (ByteArray.data (ByteArray.extract s_3 (Int.toNat (List.getD d_2 (Int.toNat t_21) zE).1) (Int.toNat (List.getD d_2 (Int.toNat t_21) zE).2.1)))))) (Int.toNat n_20)))] (by kernel_rfl) rfl rfl (ap2 c_38.1 (ap1 c_38.2)) (by kernel_rfl) (by kernel_rfl) ?_
        refine VL_nil (QB_end ?_)
        refine V_run hN hn 1 4 [1, 6, 7, 24, 25, 26] [1] ⟨[(1, cS s_3), (6, .c (.h 1)), (7, cI (w6 ((w6 (n_20 + (lnI (List.take ((List.length out_31) - (Int.toNat n_20)) (List.map (fun b => (UInt8.toNat b : Int)) (Array.toList (ByteArray.data (ByteArray.extract s_3 (Int.toNat (List.getD d_2 (Int.toNat t_21) zE).1) (Int.toNat (List.getD d_2 (Int.toNat t_21) zE).2.1))))))))) + (lnI (List.take ((List.length (putAt out_31 (List.take ((List.length out_31) - (Int.toNat n_20)) (List.map (fun b => (UInt8.toNat b : Int)) (Array.toList (ByteArray.data (ByteArray.extract s_3 (Int.toNat (List.getD d_2 (Int.toNat t_21) zE).1) (Int.toNat (List.getD d_2 (Int.toNat t_21) zE).2.1)))))) (Int.toNat n_20))) - (Int.toNat (w6 (n_20 + (lnI (List.take ((List.length out_31) - (Int.toNat n_20)) (List.map (fun b => (UInt8.toNat b : Int)) (Array.toList (ByteArray.data (ByteArray.extract s_3 (Int.toNat (List.getD d_2 (Int.toNat t_21) zE).1) (Int.toNat (List.getD d_2 (Int.toNat t_21) zE).2.1))))))))))) (List.map (fun b => (UInt8.toNat b : Int)) (Array.toList (ByteArray.data (List.getD d_2 (Int.toNat t_21) zE).2.2)))))))), (24, .c (.imm (.slice kE) d_2)), (25, cI (lnI d_2)), (26, cI (w6 (t_21 + (1 : Int))))], [(1, .row (.int .u8) (putAt (putAt out_31 (List.take ((List.length out_31) - (Int.toNat n_20)) (List.map (fun b => (UInt8.toNat b : Int)) (Array.toList (ByteArray.data (ByteArray.extract s_3 (Int.toNat (List.getD d_2 (Int.toNat t_21) zE).1) (Int.toNat (List.getD d_2 (Int.toNat t_21) zE).2.1)))))) (Int.toNat n_20)) (List.take ((List.length (putAt out_31 (List.take ((List.length out_31) - (Int.toNat n_20)) (List.map (fun b => (UInt8.toNat b : Int)) (Array.toList (ByteArray.data (ByteArray.extract s_3 (Int.toNat (List.getD d_2 (Int.toNat t_21) zE).1) (Int.toNat (List.getD d_2 (Int.toNat t_21) zE).2.1)))))) (Int.toNat n_20))) - (Int.toNat (w6 (n_20 + (lnI (List.take ((List.length out_31) - (Int.toNat n_20)) (List.map (fun b => (UInt8.toNat b : Int)) (Array.toList (ByteArray.data (ByteArray.extract s_3 (Int.toNat (List.getD d_2 (Int.toNat t_21) zE).1) (Int.toNat (List.getD d_2 (Int.toNat t_21) zE).2.1))))))))))) (List.map (fun b => (UInt8.toNat b : Int)) (Array.toList (ByteArray.data (List.getD d_2 (Int.toNat t_21) zE).2.2)))) (Int.toNat (w6 (n_20 + (lnI (List.take ((List.length out_31) - (Int.toNat n_20)) (List.map (fun b => (UInt8.toNat b : Int)) (Array.toList (ByteArray.data (ByteArray.extract s_3 (Int.toNat (List.getD d_2 (Int.toNat t_21) zE).1) (Int.toNat (List.getD d_2 (Int.toNat t_21) zE).2.1))))))))))))], 4⟩ [] (by kernel_rfl) rfl rfl ap0 ?_
        refine VL_nil ?_
        exact V_roundEnd ((putAt (putAt out_31 (List.take ((List.length out_31) - (Int.toNat n_20)) (List.map (fun b => (UInt8.toNat b : Int)) (Array.toList (ByteArray.data (ByteArray.extract s_3 (Int.toNat (List.getD d_2 (Int.toNat t_21) zE).1) (Int.toNat (List.getD d_2 (Int.toNat t_21) zE).2.1)))))) (Int.toNat n_20)) (List.take ((List.length (putAt out_31 (List.take ((List.length out_31) - (Int.toNat n_20)) (List.map (fun b => (UInt8.toNat b : Int)) (Array.toList (ByteArray.data (ByteArray.extract s_3 (Int.toNat (List.getD d_2 (Int.toNat t_21) zE).1) (Int.toNat (List.getD d_2 (Int.toNat t_21) zE).2.1)))))) (Int.toNat n_20))) - (Int.toNat (w6 (n_20 + (lnI (List.take ((List.length out_31) - (Int.toNat n_20)) (List.map (fun b => (UInt8.toNat b : Int)) (Array.toList (ByteArray.data (ByteArray.extract s_3 (Int.toNat (List.getD d_2 (Int.toNat t_21) zE).1) (Int.toNat (List.getD d_2 (Int.toNat t_21) zE).2.1))))))))))) (List.map (fun b => (UInt8.toNat b : Int)) (Array.toList (ByteArray.data (List.getD d_2 (Int.toNat t_21) zE).2.2)))) (Int.toNat (w6 (n_20 + (lnI (List.take ((List.length out_31) - (Int.toNat n_20)) (List.map (fun b => (UInt8.toNat b : Int)) (Array.toList (ByteArray.data (ByteArray.extract s_3 (Int.toNat (List.getD d_2 (Int.toNat t_21) zE).1) (Int.toNat (List.getD d_2 (Int.toNat t_21) zE).2.1))))))))))), (w6 ((w6 (n_20 + (lnI (List.take ((List.length out_31) - (Int.toNat n_20)) (List.map (fun b => (UInt8.toNat b : Int)) (Array.toList (ByteArray.data (ByteArray.extract s_3 (Int.toNat (List.getD d_2 (Int.toNat t_21) zE).1) (Int.toNat (List.getD d_2 (Int.toNat t_21) zE).2.1))))))))) + (lnI (List.take ((List.length (putAt out_31 (List.take ((List.length out_31) - (Int.toNat n_20)) (List.map (fun b => (UInt8.toNat b : Int)) (Array.toList (ByteArray.data (ByteArray.extract s_3 (Int.toNat (List.getD d_2 (Int.toNat t_21) zE).1) (Int.toNat (List.getD d_2 (Int.toNat t_21) zE).2.1)))))) (Int.toNat n_20))) - (Int.toNat (w6 (n_20 + (lnI (List.take ((List.length out_31) - (Int.toNat n_20)) (List.map (fun b => (UInt8.toNat b : Int)) (Array.toList (ByteArray.data (ByteArray.extract s_3 (Int.toNat (List.getD d_2 (Int.toNat t_21) zE).1) (Int.toNat (List.getD d_2 (Int.toNat t_21) zE).2.1))))))))))) (List.map (fun b => (UInt8.toNat b : Int)) (Array.toList (ByteArray.data (List.getD d_2 (Int.toNat t_21) zE).2.2))))))), (w6 (t_21 + (1 : Int)))) H_58 [(1, 1)] hn (by kernel_rfl) (by kernel_rfl) rfl rfl rfl
      · intro b_34; have H_55 := of_f H_53 b_34
        refine VL_exit ?_
        refine QL_exit ?_
        refine QB_here ?_
        refine V_run hN hn 2 3 [4, 5] [] ⟨[(4, cS (ofBytes out_31)), (5, cI (0 : Int))], [], 3⟩ [] (by kernel_rfl) rfl rfl ap0 ?_
        have H_59 := Option.some.inj (show some ((ofBytes out_31), (0 : Int)) = some r from H_55); subst H_59
        refine VL_ret ?_
        exact P_to [(4, cS (ofBytes out_31)), (5, cI (0 : Int))] [] [] hn (by kernel_rfl) (by kernel_rfl) rfl rfl rfl (QF_retS (by kernel_rfl) (by kernel_rfl) rfl)

theorem delta_Keep_spec (K : Nat) (base_1 : Int) (r : (Int × (List (Int × (Int × ByteArray))))) (H : delta_Keep K base_1 = some r) : Spec Try.prog 25 0 [cI base_1] [] (.agg [.val (.int .i64 r.1), .h 2]) [(2, .row kE r.2)] := by
  refine Spec_mk (fn := Try.f25) (c := (Try.f25.body).get!) Try.func25 (by kernel_rfl) rfl ?_
  intro C hN hn
  replace hN : C.N = 19 := hN
  unfold delta_Keep at H
  refine V_run hN hn 3 0 [0, 2] [0] ⟨[(0, cI base_1), (2, .c (.h 0))], [(0, .box [.val (.int .i64 (0 : Int)), .val (.slice none 0 0)])], 1⟩ [] (by kernel_rfl) rfl rfl ap0 ?_
  obtain ⟨r_3, h_4, H_13⟩ := of_bind H
  refine V_reg hN hn [(3, ⟨32, 0, [cI (mn2 (mx2 base_1 (0 : Int)) (20000 : Int))], [], .c (.h 0), [(0, .box [.val (.int .i64 (mn2 (mx2 base_1 (0 : Int)) (20000 : Int))), .val (.slice none 0 0)])], [(0, 1)], 2⟩)] [] (calls_cons (delta_NewMaker_spec K (mn2 (mx2 base_1 (0 : Int)) (20000 : Int)) r_3 h_4) (by kernel_rfl) calls_nil) 1 [2, 3] [0, 1] ⟨[(2, .c (.h 0)), (3, .c (.h 1))], [(0, .box [.val (.int .i64 (0 : Int)), .val (.slice none 0 0)]), (1, .box [.val (.int .i64 (mn2 (mx2 base_1 (0 : Int)) (20000 : Int))), .val (.slice none 0 0)])], 2⟩ [] (by kernel_rfl) rfl rfl ap0 (by kernel_rfl) (by kernel_rfl) ?_
  refine V_run hN hn 1 2 [2, 3] [0, 1] ⟨[(2, .c (.h 0)), (3, .c (.h 1))], [(0, .box [.val (.int .i64 (0 : Int)), .val (.slice none 0 0)]), (1, .box [.val (.int .i64 (mn2 (mx2 base_1 (0 : Int)) (20000 : Int))), .val (.slice none 0 0)])], 2⟩ [] (by kernel_rfl) rfl rfl ap0 ?_
  obtain ⟨r_7, h_8, H_14⟩ := of_bind H_13
  refine V_reg hN hn [(6, ⟨33, 1, [.c (.h 0), cI (0 : Int), cI (mn2 (mx2 base_1 (0 : Int)) (20000 : Int))], [(0, .box [.val (.int .i64 (mn2 (mx2 base_1 (0 : Int)) (20000 : Int))), .val (.slice none 0 0)])], .tup [], [(0, .box [.val (.int .i64 (mn2 (mx2 base_1 (0 : Int)) (20000 : Int))), .h 3]), (3, .row kE r_7)], [(0, 1), (3, 2)], 3⟩)] [] (calls_cons (delta_Maker_Copy_bgg_48161_spec K (mn2 (mx2 base_1 (0 : Int)) (20000 : Int)) (0 : Int) (mn2 (mx2 base_1 (0 : Int)) (20000 : Int)) r_7 h_8) (by kernel_rfl) calls_nil) 2 [2, 3] [0, 1, 2] ⟨[(2, .c (.h 0)), (3, .c (.h 1))], [(0, .box [.val (.int .i64 (0 : Int)), .val (.slice none 0 0)]), (1, .box [.val (.int .i64 (mn2 (mx2 base_1 (0 : Int)) (20000 : Int))), .h 2]), (2, .row kE r_7)], 3⟩ [] (by kernel_rfl) rfl rfl ap0 (by kernel_rfl) (by kernel_rfl) ?_
  refine V_run hN hn 2 3 [2] [0, 2] ⟨[(2, .c (.h 0))], [(0, .box [.val (.int .i64 (mn2 (mx2 base_1 (0 : Int)) (20000 : Int))), .h 2]), (2, .row kE r_7)], 3⟩ [] (by kernel_rfl) rfl rfl ap0 ?_
  have H_15 := Option.some.inj (show some ((mn2 (mx2 base_1 (0 : Int)) (20000 : Int)), r_7) = some r from H_14); subst H_15
  refine VL_ret ?_
  exact P_to [(2, .c (.h 0))] [(0, .box [.val (.int .i64 (mn2 (mx2 base_1 (0 : Int)) (20000 : Int))), .h 2]), (2, .row kE r_7)] [(0, 0), (2, 2)] hn (by kernel_rfl) (by kernel_rfl) rfl rfl rfl (QF_retS (by kernel_rfl) (by kernel_rfl) rfl)

theorem delta_Is_sgr_spec (K : Nat) (d_1 : Int) (d_2 : (List (Int × (Int × ByteArray)))) (r : Bool) (H : delta_Is K d_1 d_2 = some r) : Spec Try.prog 36 1 [.agg [.val (.int .i64 d_1), .h 0]] [(0, .row kE d_2)] (cB r) [(0, .row kE d_2)] := by
  refine Spec_mk (fn := Try.f36) (c := (Try.f36.body).get!) Try.func36 (by kernel_rfl) rfl ?_
  intro C hN hn
  replace hN : C.N = 68 := hN
  unfold delta_Is at H
  refine V_run hN hn 4 1 [1] [0, 1] ⟨[(1, .c (.h 1))], [(0, .row kE d_2), (1, .box [.val (.int .i64 d_1), .h 0])], 2⟩ [] (by kernel_rfl) rfl rfl ap0 ?_
  obtain ⟨q_53, H_54, H_55⟩ := of_bind H
  refine V_cut (Y := Bool) (R := Bool) q_53 (fun y => y) (fun y => [(1, .c (.h 1)), (21, cB y)]) (fun y => [(0, .row kE d_2), (1, .box [.val (.int .i64 d_1), .h 0])]) ?_ ?_
  · skip
    rcases Bool.eq_false_or_eq_true ((decide (d_1 < (0 : Int)))) with b_4 | b_4
    · have H_57 := of_t H_54 b_4
      refine V_reg hN hn [] [(11, true)] calls_nil 2 [1, 21] [0, 1] ⟨[(1, .c (.h 1)), (21, cB true)], [(0, .row kE d_2), (1, .box [.val (.int .i64 d_1), .h 0])], 2⟩ [(decide (d_1 < (0 : Int))) = true] (by kernel_rfl) rfl rfl (ap1 b_4) (by kernel_rfl) (by kernel_rfl) ?_
      have H_59 := Option.some.inj (show some true = some q_53 from H_57); subst H_59
      refine VL_nil ?_
      exact QP_end true rfl [(1, 1)] hn (by kernel_rfl) (by kernel_rfl) rfl rfl rfl
    · have H_58 := of_f H_54 b_4
      rcases Bool.eq_false_or_eq_true ((decide (d_1 > (20000 : Int)))) with b_6 | b_6
      · have H_60 := of_t H_58 b_6
        refine V_reg hN hn [] [(11, false), (16, true)] calls_nil 2 [1, 21] [0, 1] ⟨[(1, .c (.h 1)), (21, cB true)], [(0, .row kE d_2), (1, .box [.val (.int .i64 d_1), .h 0])], 2⟩ [(decide (d_1 < (0 : Int))) = false, (decide (d_1 > (20000 : Int))) = true] (by kernel_rfl) rfl rfl (ap2 b_4 (ap1 b_6)) (by kernel_rfl) (by kernel_rfl) ?_
        have H_62 := Option.some.inj (show some true = some q_53 from H_60); subst H_62
        refine VL_nil ?_
        exact QP_end true rfl [(1, 1)] hn (by kernel_rfl) (by kernel_rfl) rfl rfl rfl
      · have H_61 := of_f H_58 b_6
        refine V_reg hN hn [] [(11, false), (16, false)] calls_nil 2 [1, 21] [0, 1] ⟨[(1, .c (.h 1)), (21, cB (decide ((lnI d_2) > (60 : Int))))], [(0, .row kE d_2), (1, .box [.val (.int .i64 d_1), .h 0])], 2⟩ [(decide (d_1 < (0 : Int))) = false, (decide (d_1 > (20000 : Int))) = false] (by kernel_rfl) rfl rfl (ap2 b_4 (ap1 b_6)) (by kernel_rfl) (by kernel_rfl) ?_
        have H_63 := Option.some.inj (show some (decide ((lnI d_2) > (60 : Int))) = some q_53 from H_61); subst H_63
        refine VL_nil ?_
        exact QP_end (decide ((lnI d_2) > (60 : Int))) rfl [(1, 1)] hn (by kernel_rfl) (by kernel_rfl) rfl rfl rfl
  · intro y_56 hy; subst hy
    skip
    skip
    refine VL_cond (y_56) (by kernel_rfl) ?_ ?_
    · intro b_10; have H_64 := of_t H_55 b_10
      refine V_run hN hn 2 2 [2] [0] ⟨[(2, cB false)], [(0, .row kE d_2)], 2⟩ [] (by kernel_rfl) rfl rfl ap0 ?_
      have H_66 := Option.some.inj (show some false = some r from H_64); subst H_66
      refine VL_ret ?_
      exact P_to [(2, cB false)] [(0, .row kE d_2)] [] hn (by kernel_rfl) (by kernel_rfl) rfl rfl rfl (QF_retS (by kernel_rfl) (by kernel_rfl) rfl)
    · intro b_10; have H_65 := of_f H_55 b_10
      refine V_run hN hn 6 2 [1, 3, 4, 23, 24, 25] [0, 1] ⟨[(1, .c (.h 1)), (3, cI (0 : Int)), (4, cI (0 : Int)), (23, .c (.h 0)), (24, cI (lnI d_2)), (25, cI (0 : Int))], [(0, .row kE d_2), (1, .box [.val (.int .i64 d_1), .h 0])], 2⟩ [] (by kernel_rfl) rfl rfl ap0 ?_
      refine VL_block ?_
      refine V_to [(1, .c (.h 1)), (3, cI (0 : Int)), (4, cI (0 : Int)), (23, .c (.h 0)), (24, cI (lnI d_2)), (25, cI (0 : Int))] [(0, .row kE d_2), (1, .box [.val (.int .i64 d_1), .h 0])] [(1, 1)] hn (by kernel_rfl) (by kernel_rfl) rfl rfl rfl ?_
      refine VL_loop (X := (Int × Int × Int)) (fun x => [(1, .c (.h 1)), (3, cI x.1), (4, cI x.2.1), (23, .c (.h 0)), (24, cI (lnI d_2)), (25, cI x.2.2)]) (fun x => [(0, .row kE d_2), (1, .box [.val (.int .i64 d_1), .h 0])]) (fun k x => delta_Is.l0 K d_2 d_1 k x.1 x.2.1 x.2.2 = some r) K ((0 : Int), (0 : Int), (0 : Int)) H_65 (fun _ h => no_none h) ?_
      intro k_16 x_16 H_67
      obtain ⟨size_13, to_14, t_15⟩ := x_16
      have H_68 : delta_Is.l0 K d_2 d_1 (k_16 + 1) size_13 to_14 t_15 = some r := H_67
      rw [delta_Is.l0] at H_68
      refine V_run hN hn 3 2 [1, 3, 4, 23, 24, 25, 26] [0, 1] ⟨[(1, .c (.h 1)), (3, cI size_13), (4, cI to_14), (23, .c (.h 0)), (24, cI (lnI d_2)), (25, cI t_15), (26, cB (decide (t_15 < (lnI d_2))))], [(0, .row kE d_2), (1, .box [.val (.int .i64 d_1), .h 0])], 2⟩ [] (by kernel_rfl) rfl rfl ap0 ?_
      refine VL_cond ((decide (t_15 < (lnI d_2)))) (by kernel_rfl) ?_ ?_
      · intro b_18; have H_69 := of_t H_68 b_18
        refine V_run hN hn 2 2 [1, 3, 4, 23, 24, 25, 26] [0, 1] ⟨[(1, .c (.h 1)), (3, cI size_13), (4, cI to_14), (23, .c (.h 0)), (24, cI (lnI d_2)), (25, cI t_15), (26, cB (decide (t_15 < (lnI d_2))))], [(0, .row kE d_2), (1, .box [.val (.int .i64 d_1), .h 0])], 2⟩ [] (by kernel_rfl) rfl rfl ap0 ?_
        refine VL_block ?_
        obtain ⟨c_20, H_71⟩ := of_if H_69
        refine V_run hN hn 3 2 [1, 3, 4, 5, 6, 23, 24, 25] [0, 1, 2] ⟨[(1, .c (.h 1)), (3, cI size_13), (4, cI to_14), (5, cI t_15), (6, .c (.h 2)), (23, .c (.h 0)), (24, cI (lnI d_2)), (25, cI t_15)], [(0, .row kE d_2), (1, .box [.val (.int .i64 d_1), .h 0]), (2, .box [.val (.int .i64 (List.getD d_2 (Int.toNat t_15) zE).1), .val (.int .i64 (List.getD d_2 (Int.toNat t_15) zE).2.1), .val (.string (List.getD d_2 (Int.toNat t_15) zE).2.2)])], 3⟩ [0 ≤ t_15, t_15 < (lnI d_2)] (by kernel_rfl) rfl rfl (ap2 c_20.1 (ap1 c_20.2)) ?_
        obtain ⟨q_72, H_73, H_74⟩ := of_bind H_71
        refine V_cut (Y := Bool) (R := Bool) q_72 (fun y => y) (fun y => [(1, .c (.h 1)), (3, cI size_13), (4, cI to_14), (5, cI t_15), (6, .c (.h 2)), (7, cB y), (23, .c (.h 0)), (24, cI (lnI d_2)), (25, cI t_15)]) (fun y => [(0, .row kE d_2), (1, .box [.val (.int .i64 d_1), .h 0]), (2, .box [.val (.int .i64 (List.getD d_2 (Int.toNat t_15) zE).1), .val (.int .i64 (List.getD d_2 (Int.toNat t_15) zE).2.1), .val (.string (List.getD d_2 (Int.toNat t_15) zE).2.2)])]) ?_ ?_
        · skip
          rcases Bool.eq_false_or_eq_true ((decide (t_15 > (0 : Int)))) with b_21 | b_21
          · have H_76 := of_t H_73 b_21
            obtain ⟨r_22, h_23, H_78⟩ := of_bind H_76
            obtain ⟨c_24, H_79⟩ := of_if H_78
            refine V_reg hN hn [(9, ⟨62, 0, [.agg [.val (.int .i64 (List.getD d_2 (Int.toNat (w6 (t_15 - (1 : Int)))) zE).1), .val (.int .i64 (List.getD d_2 (Int.toNat (w6 (t_15 - (1 : Int)))) zE).2.1), .val (.string (List.getD d_2 (Int.toNat (w6 (t_15 - (1 : Int)))) zE).2.2)]], [], cB r_22, [], [], 3⟩)] [(32, true)] (calls_cons (delta_IsCopy_spec K (List.getD d_2 (Int.toNat (w6 (t_15 - (1 : Int)))) zE).1 (List.getD d_2 (Int.toNat (w6 (t_15 - (1 : Int)))) zE).2.1 (List.getD d_2 (Int.toNat (w6 (t_15 - (1 : Int)))) zE).2.2 r_22 h_23) (by kernel_rfl) calls_nil) 3 [1, 3, 4, 5, 6, 7, 23, 24, 25] [0, 1, 2] ⟨[(1, .c (.h 1)), (3, cI size_13), (4, cI to_14), (5, cI t_15), (6, .c (.h 2)), (7, cB r_22), (23, .c (.h 0)), (24, cI (lnI d_2)), (25, cI t_15)], [(0, .row kE d_2), (1, .box [.val (.int .i64 d_1), .h 0]), (2, .box [.val (.int .i64 (List.getD d_2 (Int.toNat t_15) zE).1), .val (.int .i64 (List.getD d_2 (Int.toNat t_15) zE).2.1), .val (.string (List.getD d_2 (Int.toNat t_15) zE).2.2)])], 3⟩ [(decide (t_15 > (0 : Int))) = true, 0 ≤ (w6 (t_15 - (1 : Int))), (w6 (t_15 - (1 : Int))) < (lnI d_2)] (by kernel_rfl) rfl rfl (ap2 b_21 (ap2 c_24.1 (ap1 c_24.2))) (by kernel_rfl) (by kernel_rfl) ?_
            have H_80 := Option.some.inj (show some r_22 = some q_72 from H_79); subst H_80
            refine VL_nil ?_
            exact QP_end r_22 rfl [(1, 1), (2, 2)] hn (by kernel_rfl) (by kernel_rfl) rfl rfl rfl
          · have H_77 := of_f H_73 b_21
            refine V_reg hN hn [] [(32, false)] calls_nil 3 [1, 3, 4, 5, 6, 7, 23, 24, 25] [0, 1, 2] ⟨[(1, .c (.h 1)), (3, cI size_13), (4, cI to_14), (5, cI t_15), (6, .c (.h 2)), (7, cB false), (23, .c (.h 0)), (24, cI (lnI d_2)), (25, cI t_15)], [(0, .row kE d_2), (1, .box [.val (.int .i64 d_1), .h 0]), (2, .box [.val (.int .i64 (List.getD d_2 (Int.toNat t_15) zE).1), .val (.int .i64 (List.getD d_2 (Int.toNat t_15) zE).2.1), .val (.string (List.getD d_2 (Int.toNat t_15) zE).2.2)])], 3⟩ [(decide (t_15 > (0 : Int))) = false] (by kernel_rfl) rfl rfl (ap1 b_21) (by kernel_rfl) (by kernel_rfl) ?_
            have H_81 := Option.some.inj (show some false = some q_72 from H_77); subst H_81
            refine VL_nil ?_
            exact QP_end false rfl [(1, 1), (2, 2)] hn (by kernel_rfl) (by kernel_rfl) rfl rfl rfl
        · intro y_75 hy; subst hy
          skip
          skip
          refine V_run hN hn 2 3 [1, 3, 4, 5, 6, 7, 23, 24, 25] [0, 1, 2] ⟨[(1, .c (.h 1)), (3, cI size_13), (4, cI to_14), (5, cI t_15), (6, .c (.h 2)), (7, cB y_75), (23, .c (.h 0)), (24, cI (lnI d_2)), (25, cI t_15)], [(0, .row kE d_2), (1, .box [.val (.int .i64 d_1), .h 0]), (2, .box [.val (.int .i64 (List.getD d_2 (Int.toNat t_15) zE).1), .val (.int .i64 (List.getD d_2 (Int.toNat t_15) zE).2.1), .val (.string (List.getD d_2 (Int.toNat t_15) zE).2.2)])], 3⟩ [] (by kernel_rfl) rfl rfl ap0 ?_
          obtain ⟨r_28, h_29, H_82⟩ := of_bind H_74
          refine V_reg hN hn [(7, ⟨63, 0, [.agg [.val (.int .i64 (List.getD d_2 (Int.toNat t_15) zE).1), .val (.int .i64 (List.getD d_2 (Int.toNat t_15) zE).2.1), .val (.string (List.getD d_2 (Int.toNat t_15) zE).2.2)], cI d_1, cI to_14, cB (decide (t_15 > (0 : Int))), cB y_75], [], cB r_28, [], [], 3⟩)] [] (calls_cons (delta_elem_spec K (List.getD d_2 (Int.toNat t_15) zE).1 (List.getD d_2 (Int.toNat t_15) zE).2.1 (List.getD d_2 (Int.toNat t_15) zE).2.2 d_1 to_14 (decide (t_15 > (0 : Int))) y_75 r_28 h_29) (by kernel_rfl) calls_nil) 3 [1, 3, 4, 6, 23, 24, 25, 49] [0, 1, 2] ⟨[(1, .c (.h 1)), (3, cI size_13), (4, cI to_14), (6, .c (.h 2)), (23, .c (.h 0)), (24, cI (lnI d_2)), (25, cI t_15), (49, cB (!r_28))], [(0, .row kE d_2), (1, .box [.val (.int .i64 d_1), .h 0]), (2, .box [.val (.int .i64 (List.getD d_2 (Int.toNat t_15) zE).1), .val (.int .i64 (List.getD d_2 (Int.toNat t_15) zE).2.1), .val (.string (List.getD d_2 (Int.toNat t_15) zE).2.2)])], 3⟩ [] (by kernel_rfl) rfl rfl ap0 (by kernel_rfl) (by kernel_rfl) ?_
          refine VL_cond ((!r_28)) (by kernel_rfl) ?_ ?_
          · intro b_31; have H_83 := of_t H_82 b_31
            refine V_run hN hn 2 3 [2] [0] ⟨[(2, cB false)], [(0, .row kE d_2)], 3⟩ [] (by kernel_rfl) rfl rfl ap0 ?_
            have H_85 := Option.some.inj (show some false = some r from H_83); subst H_85
            refine VL_ret ?_
            refine QB_ret ?_
            refine QL_ret ?_
            refine QB_ret ?_
            exact P_to [(2, cB false)] [(0, .row kE d_2)] [] hn (by kernel_rfl) (by kernel_rfl) rfl rfl rfl (QF_retS (by kernel_rfl) (by kernel_rfl) rfl)
          · intro b_31; have H_84 := of_f H_82 b_31
            refine V_run hN hn 3 3 [1, 3, 4, 6, 23, 24, 25, 49] [0, 1, 2] ⟨[(1, .c (.h 1)), (3, cI size_13), (4, cI to_14), (6, .c (.h 2)), (23, .c (.h 0)), (24, cI (lnI d_2)), (25, cI t_15), (49, cB (!r_28))], [(0, .row kE d_2), (1, .box [.val (.int .i64 d_1), .h 0]), (2, .box [.val (.int .i64 (List.getD d_2 (Int.toNat t_15) zE).1), .val (.int .i64 (List.getD d_2 (Int.toNat t_15) zE).2.1), .val (.string (List.getD d_2 (Int.toNat t_15) zE).2.2)])], 3⟩ [] (by kernel_rfl) rfl rfl ap0 ?_
            obtain ⟨r_34, h_35, H_86⟩ := of_bind H_84
            refine V_reg hN hn [(1, ⟨62, 0, [.agg [.val (.int .i64 (List.getD d_2 (Int.toNat t_15) zE).1), .val (.int .i64 (List.getD d_2 (Int.toNat t_15) zE).2.1), .val (.string (List.getD d_2 (Int.toNat t_15) zE).2.2)]], [], cB r_34, [], [], 3⟩)] [] (calls_cons (delta_IsCopy_spec K (List.getD d_2 (Int.toNat t_15) zE).1 (List.getD d_2 (Int.toNat t_15) zE).2.1 (List.getD d_2 (Int.toNat t_15) zE).2.2 r_34 h_35) (by kernel_rfl) calls_nil) 3 [1, 3, 4, 6, 23, 24, 25, 51] [0, 1, 2] ⟨[(1, .c (.h 1)), (3, cI size_13), (4, cI to_14), (6, .c (.h 2)), (23, .c (.h 0)), (24, cI (lnI d_2)), (25, cI t_15), (51, cB r_34)], [(0, .row kE d_2), (1, .box [.val (.int .i64 d_1), .h 0]), (2, .box [.val (.int .i64 (List.getD d_2 (Int.toNat t_15) zE).1), .val (.int .i64 (List.getD d_2 (Int.toNat t_15) zE).2.1), .val (.string (List.getD d_2 (Int.toNat t_15) zE).2.2)])], 3⟩ [] (by kernel_rfl) rfl rfl ap0 (by kernel_rfl) (by kernel_rfl) ?_
            obtain ⟨q_87, H_88, H_89⟩ := of_bind H_86
            refine V_cut (Y := Int) (R := Int) q_87 (fun y => y) (fun y => [(1, .c (.h 1)), (3, cI size_13), (4, cI y), (6, .c (.h 2)), (23, .c (.h 0)), (24, cI (lnI d_2)), (25, cI t_15)]) (fun y => [(0, .row kE d_2), (1, .box [.val (.int .i64 d_1), .h 0]), (2, .box [.val (.int .i64 (List.getD d_2 (Int.toNat t_15) zE).1), .val (.int .i64 (List.getD d_2 (Int.toNat t_15) zE).2.1), .val (.string (List.getD d_2 (Int.toNat t_15) zE).2.2)])]) ?_ ?_
            · skip
              refine VL_cond (r_34) (by kernel_rfl) ?_ ?_
              · intro b_37; have H_91 := of_t H_88 b_37
                refine V_run hN hn 1 3 [1, 3, 4, 6, 23, 24, 25] [0, 1, 2] ⟨[(1, .c (.h 1)), (3, cI size_13), (4, .c (.val (.int .i64 (List.getD d_2 (Int.toNat t_15) zE).2.1))), (6, .c (.h 2)), (23, .c (.h 0)), (24, cI (lnI d_2)), (25, cI t_15)], [(0, .row kE d_2), (1, .box [.val (.int .i64 d_1), .h 0]), (2, .box [.val (.int .i64 (List.getD d_2 (Int.toNat t_15) zE).1), .val (.int .i64 (List.getD d_2 (Int.toNat t_15) zE).2.1), .val (.string (List.getD d_2 (Int.toNat t_15) zE).2.2)])], 3⟩ [] (by kernel_rfl) rfl rfl ap0 ?_
                have H_93 := Option.some.inj (show some (List.getD d_2 (Int.toNat t_15) zE).2.1 = some q_87 from H_91); subst H_93
                refine VL_nil ?_
                exact QP_end (List.getD d_2 (Int.toNat t_15) zE).2.1 rfl [(1, 1), (2, 2)] hn (by kernel_rfl) (by kernel_rfl) rfl rfl rfl
              · intro b_37; have H_92 := of_f H_88 b_37
                refine V_run hN hn 1 3 [1, 3, 4, 6, 23, 24, 25, 51] [0, 1, 2] ⟨[(1, .c (.h 1)), (3, cI size_13), (4, cI to_14), (6, .c (.h 2)), (23, .c (.h 0)), (24, cI (lnI d_2)), (25, cI t_15), (51, cB r_34)], [(0, .row kE d_2), (1, .box [.val (.int .i64 d_1), .h 0]), (2, .box [.val (.int .i64 (List.getD d_2 (Int.toNat t_15) zE).1), .val (.int .i64 (List.getD d_2 (Int.toNat t_15) zE).2.1), .val (.string (List.getD d_2 (Int.toNat t_15) zE).2.2)])], 3⟩ [] (by kernel_rfl) rfl rfl ap0 ?_
                have H_94 := Option.some.inj (show some to_14 = some q_87 from H_92); subst H_94
                refine VL_nil ?_
                exact QP_end to_14 rfl [(1, 1), (2, 2)] hn (by kernel_rfl) (by kernel_rfl) rfl rfl rfl
            · intro y_90 hy; subst hy
              skip
              skip
              refine V_run hN hn 4 3 [1, 3, 4, 23, 24, 25, 66] [0, 1] ⟨[(1, .c (.h 1)), (3, cI (w6 (size_13 + (w6 ((w6 ((List.getD d_2 (Int.toNat t_15) zE).2.1 - (List.getD d_2 (Int.toNat t_15) zE).1)) + (((ByteArray.size (List.getD d_2 (Int.toNat t_15) zE).2.2) : Nat) : Int)))))), (4, cI y_90), (23, .c (.h 0)), (24, cI (lnI d_2)), (25, cI t_15), (66, cB (decide ((w6 (size_13 + (w6 ((w6 ((List.getD d_2 (Int.toNat t_15) zE).2.1 - (List.getD d_2 (Int.toNat t_15) zE).1)) + (((ByteArray.size (List.getD d_2 (Int.toNat t_15) zE).2.2) : Nat) : Int))))) > (20000 : Int))))], [(0, .row kE d_2), (1, .box [.val (.int .i64 d_1), .h 0])], 3⟩ [] (by kernel_rfl) rfl rfl ap0 ?_
              refine VL_cond ((decide ((w6 (size_13 + (w6 ((w6 ((List.getD d_2 (Int.toNat t_15) zE).2.1 - (List.getD d_2 (Int.toNat t_15) zE).1)) + (((ByteArray.size (List.getD d_2 (Int.toNat t_15) zE).2.2) : Nat) : Int))))) > (20000 : Int)))) (by kernel_rfl) ?_ ?_
              · intro b_42; have H_95 := of_t H_89 b_42
                refine V_run hN hn 2 3 [2] [0] ⟨[(2, cB false)], [(0, .row kE d_2)], 3⟩ [] (by kernel_rfl) rfl rfl ap0 ?_
                have H_97 := Option.some.inj (show some false = some r from H_95); subst H_97
                refine VL_ret ?_
                refine QB_ret ?_
                refine QL_ret ?_
                refine QB_ret ?_
                exact P_to [(2, cB false)] [(0, .row kE d_2)] [] hn (by kernel_rfl) (by kernel_rfl) rfl rfl rfl (QF_retS (by kernel_rfl) (by kernel_rfl) rfl)
              · intro b_42; have H_96 := of_f H_89 b_42
                refine V_run hN hn 1 3 [1, 3, 4, 23, 24, 25, 66] [0, 1] ⟨[(1, .c (.h 1)), (3, cI (w6 (size_13 + (w6 ((w6 ((List.getD d_2 (Int.toNat t_15) zE).2.1 - (List.getD d_2 (Int.toNat t_15) zE).1)) + (((ByteArray.size (List.getD d_2 (Int.toNat t_15) zE).2.2) : Nat) : Int)))))), (4, cI y_90), (23, .c (.h 0)), (24, cI (lnI d_2)), (25, cI t_15), (66, cB (decide ((w6 (size_13 + (w6 ((w6 ((List.getD d_2 (Int.toNat t_15) zE).2.1 - (List.getD d_2 (Int.toNat t_15) zE).1)) + (((ByteArray.size (List.getD d_2 (Int.toNat t_15) zE).2.2) : Nat) : Int))))) > (20000 : Int))))], [(0, .row kE d_2), (1, .box [.val (.int .i64 d_1), .h 0])], 3⟩ [] (by kernel_rfl) rfl rfl ap0 ?_
                refine VL_nil (QB_end ?_)
                refine V_run hN hn 1 3 [1, 3, 4, 23, 24, 25] [0, 1] ⟨[(1, .c (.h 1)), (3, cI (w6 (size_13 + (w6 ((w6 ((List.getD d_2 (Int.toNat t_15) zE).2.1 - (List.getD d_2 (Int.toNat t_15) zE).1)) + (((ByteArray.size (List.getD d_2 (Int.toNat t_15) zE).2.2) : Nat) : Int)))))), (4, cI y_90), (23, .c (.h 0)), (24, cI (lnI d_2)), (25, cI (w6 (t_15 + (1 : Int))))], [(0, .row kE d_2), (1, .box [.val (.int .i64 d_1), .h 0])], 3⟩ [] (by kernel_rfl) rfl rfl ap0 ?_
                refine VL_nil ?_
                exact V_roundEnd ((w6 (size_13 + (w6 ((w6 ((List.getD d_2 (Int.toNat t_15) zE).2.1 - (List.getD d_2 (Int.toNat t_15) zE).1)) + (((ByteArray.size (List.getD d_2 (Int.toNat t_15) zE).2.2) : Nat) : Int))))), y_90, (w6 (t_15 + (1 : Int)))) H_96 [(1, 1)] hn (by kernel_rfl) (by kernel_rfl) rfl rfl rfl
      · intro b_18; have H_70 := of_f H_68 b_18
        refine VL_exit ?_
        refine QL_exit ?_
        refine QB_here ?_
        refine V_run hN hn 2 2 [2] [0] ⟨[(2, cB true)], [(0, .row kE d_2)], 2⟩ [] (by kernel_rfl) rfl rfl ap0 ?_
        have H_98 := Option.some.inj (show some true = some r from H_70); subst H_98
        refine VL_ret ?_
        exact P_to [(2, cB true)] [(0, .row kE d_2)] [] hn (by kernel_rfl) (by kernel_rfl) rfl rfl rfl (QF_retS (by kernel_rfl) (by kernel_rfl) rfl)

theorem region_Move_1_sggb_04ec6_spec (K : Nat) (r_1 : Int) (r_2 : Int) (p_3 : Int) (p_4 : (List (Int × (Int × ByteArray)))) (r : Bool) (H : region_Move_1_sggb_1a382 K r_1 r_2 p_3 p_4 = some r) : Spec Try.prog 37 2 [.agg [.val (.int .i64 r_1), .val (.int .i64 r_2)], .c (.h 0)] [(0, .box [.val (.int .i64 p_3), .h 1]), (1, .row kE p_4)] (cB r) [(0, .box [.val (.int .i64 p_3), .h 1]), (1, .row kE p_4)] := by
  refine Spec_mk (fn := Try.f37) (c := (Try.f37.body).get!) Try.func37 (by kernel_rfl) rfl ?_
  intro C hN hn
  replace hN : C.N = 9 := hN
  unfold region_Move_1_sggb_1a382 at H
  refine V_run hN hn 3 2 [1, 2] [0, 1, 2] ⟨[(1, .c (.h 0)), (2, .c (.h 2))], [(0, .box [.val (.int .i64 p_3), .h 1]), (1, .row kE p_4), (2, .box [.val (.int .i64 r_1), .val (.int .i64 r_2)])], 3⟩ [] (by kernel_rfl) rfl rfl ap0 ?_
  obtain ⟨r_6, h_7, H_12⟩ := of_bind H
  obtain ⟨r_8, h_9, H_13⟩ := of_bind H_12
  refine V_draw hN hn (by kernel_rfl) [(1, ⟨21, 0, [.agg [.val (.int .i64 r_1), .val (.int .i64 r_2)]], [], .agg [.val (.int .i64 r_6.1), .val (.int .i64 r_6.2)], [], [], 3⟩), (4, ⟨38, 0, [.agg [.val (.int .i64 r_6.1), .val (.int .i64 r_6.2)], cI p_3], [], cB r_8, [], [], 3⟩)] [] (calls_cons (region_Span_spec K r_1 r_2 r_6 h_7) (by kernel_rfl) (calls_cons (interval_Is_spec K r_6.1 r_6.2 p_3 r_8 h_9) (by kernel_rfl) calls_nil)) 3 [3] [0, 1] ⟨[(3, cB r_8)], [(0, .box [.val (.int .i64 p_3), .h 1]), (1, .row kE p_4)], 3⟩ [] (by kernel_rfl) rfl rfl ap0 (by kernel_rfl) (by kernel_rfl) ?_
  have H_14 := Option.some.inj (show some r_8 = some r from H_13); subst H_14
  refine VL_ret ?_
  exact P_to [(3, cB r_8)] [(0, .box [.val (.int .i64 p_3), .h 1]), (1, .row kE p_4)] [] hn (by kernel_rfl) (by kernel_rfl) rfl rfl rfl (QF_retS (by kernel_rfl) (by kernel_rfl) rfl)

theorem region_every_1_sggb_a49df_spec (K : Nat) (x_1 : Int) (x_2 : Int) (p_3 : Int) (p_4 : (List (Int × (Int × ByteArray)))) (r : Bool) (H : region_every_1_sggb_77714 K x_1 x_2 p_3 p_4 = some r) : Spec Try.prog 47 3 [.agg [.val (.int .i64 x_1), .val (.int .i64 x_2)], .c (.h 0)] [(0, .box [.clo 37 [1]]), (1, .box [.val (.int .i64 p_3), .h 2]), (2, .row kE p_4)] (cB r) [(0, .box [.clo 37 [1]]), (1, .box [.val (.int .i64 p_3), .h 2]), (2, .row kE p_4)] := by
  refine Spec_mk (fn := Try.f47) (c := (Try.f47.body).get!) Try.func47 (by kernel_rfl) rfl ?_
  intro C hN hn
  replace hN : C.N = 8 := hN
  unfold region_every_1_sggb_77714 at H
  refine V_run hN hn 3 3 [1, 2] [0, 1, 2, 3] ⟨[(1, .c (.h 0)), (2, .c (.h 3))], [(0, .box [.clo 37 [1]]), (1, .box [.val (.int .i64 p_3), .h 2]), (2, .row kE p_4), (3, .box [.val (.int .i64 x_1), .val (.int .i64 x_2)])], 4⟩ [] (by kernel_rfl) rfl rfl ap0 ?_
  obtain ⟨r_6, h_7, H_10⟩ := of_bind H
  refine V_reg hN hn [(2, ⟨37, 2, [.agg [.val (.int .i64 x_1), .val (.int .i64 x_2)], .c (.h 0)], [(0, .box [.val (.int .i64 p_3), .h 1]), (1, .row kE p_4)], cB r_6, [(0, .box [.val (.int .i64 p_3), .h 1]), (1, .row kE p_4)], [(0, 1), (1, 2)], 4⟩)] [] (calls_cons (region_Move_1_sggb_04ec6_spec K x_1 x_2 p_3 p_4 r_6 h_7) (by kernel_rfl) calls_nil) 4 [3] [0, 1, 2] ⟨[(3, cB (!r_6))], [(0, .box [.clo 37 [1]]), (1, .box [.val (.int .i64 p_3), .h 2]), (2, .row kE p_4)], 4⟩ [] (by kernel_rfl) rfl rfl ap0 (by kernel_rfl) (by kernel_rfl) ?_
  have H_11 := Option.some.inj (show some (!r_6) = some r from H_10); subst H_11
  refine VL_ret ?_
  exact P_to [(3, cB (!r_6))] [(0, .box [.clo 37 [1]]), (1, .box [.val (.int .i64 p_3), .h 2]), (2, .row kE p_4)] [] hn (by kernel_rfl) (by kernel_rfl) rfl rfl rfl (QF_retS (by kernel_rfl) (by kernel_rfl) rfl)

end Go.Pal
