/- The Go functions that WholeForgets reaches compute what the plain functions say: a part, printed by a program of this workplace. -/
import Derived.Test.YtidbfmbocikkgaaGreatChecked
import Derived.Test.YtidbfmbocikkgaaGreatWalkWholeForgets0
namespace Go.Pal
open Go Go.Proofs
set_option maxRecDepth 100000
set_option linter.unusedVariables false
theorem breaks_Is_spec {K l_1 n_2}:FS Tryz.prog 166 0 [.c (.imm (.slice (.int .i64)) l_1),cI n_2] [] (breaks_Is K l_1 n_2) (fun r=>cB r) fun r=>[]:=by
 refine jfn (fn:=Tryz.f166) Tryz.func166 (jy (breaks_Is.eq_1 ..) ?_)
 refine jm 8 (hr:=?_)
 refine jl (X:=Int) (fun k x=>breaks_Is.l0 K l_1 n_2 k x) K _ rfl 0 [] (fun x_5=>[(0,.c (.imm (.slice (.int .i64)) l_1)),(1,cI (mn2 n_2 (20000:Int))),(9,.c (.imm (.slice (.int .i64)) l_1)),(10,cI (lnI l_1)),(11,cI x_5)]) (fun x_5=>[]) (fun _=>rfl) (round:=fun k x_5=>jy (breaks_Is.l0.eq_2 ..) ?_)
 refine jm 3 (hr:=?_)
 refine jc (h1:=fun b_7=>?_) (h2:=fun b_7=>?_)
 ·refine ji 6 (hr:=fun c_8=>?_)
  refine ja (Y:=Bool) 0 (fun y_24=>[(0,.c (.imm (.slice (.int .i64)) l_1)),(1,cI (mn2 n_2 (20000:Int))),(9,.c (.imm (.slice (.int .i64)) l_1)),(10,cI (lnI l_1)),(11,cI x_5),(35,cB y_24)]) (fun y_24=>[]) (h1:=?_) (h2:=fun y_24=>?_)
  ·refine js (fun b_9=>?_) fun b_9=>?_
   ·refine jr [] [(18,true)] [(decide ((List.getD l_1 (Int.toNat x_5) (0:Int))≤(0:Int)))=true] (ap1 b_9) (hr:=?_)
    exact jo []
   ·refine js (fun b_11=>?_) fun b_11=>?_
    ·refine jr [] [(18,false),(23,true)] [(decide ((List.getD l_1 (Int.toNat x_5) (0:Int))≤(0:Int)))=false,(decide ((List.getD l_1 (Int.toNat x_5) (0:Int))≥(mn2 n_2 (20000:Int))))=true] (ap2 b_9 (ap1 b_11)) (hr:=?_)
     exact jo []
    ·refine js (fun b_13=>?_) fun b_13=>?_
     ·refine jp fun c_14=>?_
      refine jr [] [(18,false),(23,false),(26,true)] [(decide ((List.getD l_1 (Int.toNat x_5) (0:Int))≤(0:Int)))=false,(decide ((List.getD l_1 (Int.toNat x_5) (0:Int))≥(mn2 n_2 (20000:Int))))=false,(decide (x_5 > (0:Int)))=true,0≤(w6 (x_5 - (1:Int))),(w6 (x_5 - (1:Int)))<(lnI l_1)] (ap2 b_9 (ap2 b_11 (ap2 b_13 (ap2 c_14.1 (ap1 c_14.2))))) (hr:=?_)
      exact jo []
     ·refine jr [] [(18,false),(23,false),(26,false)] [(decide ((List.getD l_1 (Int.toNat x_5) (0:Int))≤(0:Int)))=false,(decide ((List.getD l_1 (Int.toNat x_5) (0:Int))≥(mn2 n_2 (20000:Int))))=false,(decide (x_5 > (0:Int)))=false] (ap2 b_9 (ap2 b_11 (ap1 b_13))) (hr:=?_)
      exact jo []
  ·refine jc (h1:=fun b_17=>?_) (h2:=fun b_17=>?_)
   ·refine jm 2 (hr:=?_)
    exact jt (rl (rr []))
   ·refine jm 3 (hr:=?_)
    exact jx _ rfl []
 ·refine jq 0 (ql (qh ?_))
  refine jm 2 (hr:=?_)
  exact jt (rr [])
theorem delta_sums_spec {K d_1 d_2}:FS Tryz.prog 226 0 [.agg [.val (.int .i64 d_1),.imm (.slice kE) d_2]] [] (delta_sums K d_1 d_2) (fun r=>.tup [(false,[.val (.int .i64 r.1)]),(false,[.val (.int .i64 r.2)])]) fun r=>[]:=by
 refine jfn (fn:=Tryz.f226) Tryz.func226 (jy (delta_sums.eq_1 ..) ?_)
 refine jm 6 (hr:=?_)
 refine jb fun r_4 h_5=>?_
 refine jr0 [cp 1 (delta_Is_spec _ h_5) [] 1] (hr:=?_)
 refine jc (h1:=fun b_7=>?_) (h2:=fun b_7=>?_)
 ·refine jm 2 (hr:=?_)
  exact jt (rr [])
 ·refine jm 5 (hr:=?_)
  refine jl (X:=(Int×Int×Int)) (fun k x=>delta_sums.l0 K d_2 k x.1 x.2.1 x.2.2) K ((0:Int),(0:Int),(0:Int)) rfl 1 [] (fun x_13=>[(4,cI x_13.1),(5,cI x_13.2.1),(12,.c (.imm (.slice kE) d_2)),(13,cI (lnI d_2)),(14,cI x_13.2.2)]) (fun x_13=>[]) (fun _=>rfl) (round:=fun k x_13=>jy (delta_sums.l0.eq_2 ..) ?_)
  refine jm 3 (hr:=?_)
  refine jc (h1:=fun b_15=>?_) (h2:=fun b_15=>?_)
  ·refine ji 8 (hr:=fun c_16=>?_)
   refine jm 2 (hr:=?_)
   exact jx ((w6 (x_13.1+(w6 ((List.getD d_2 (Int.toNat x_13.2.2) zE).2.1 - (List.getD d_2 (Int.toNat x_13.2.2) zE).1)))),(w6 (x_13.2.1+(((ByteArray.size (List.getD d_2 (Int.toNat x_13.2.2) zE).2.2):Nat):Int))),(w6 (x_13.2.2+(1:Int)))) rfl []
  ·refine jq 0 (ql (qh ?_))
   refine jm 2 (hr:=?_)
   exact jt (rr [])
theorem delta_Size_spec {K d_1 d_2}:FS Tryz.prog 167 0 [.agg [.val (.int .i64 d_1),.imm (.slice kE) d_2]] [] (delta_Size K d_1 d_2) (fun r=>cI r) fun r=>[]:=by
 refine jfn (fn:=Tryz.f167) Tryz.func167 (jy (delta_Size.eq_1 ..) ?_)
 refine jm 3 (hr:=?_)
 refine jb fun r_4 h_5=>?_
 refine jr0 [cp 1 (delta_sums_spec _ h_5) [] 1] (hr:=?_)
 refine jm 2 (hr:=?_)
 exact jt (rr [])
theorem breaks_Edit_spec {K l_1 d_2 d_3}:FS Tryz.prog 108 0 [.c (.imm (.slice (.int .i64)) l_1),.agg [.val (.int .i64 d_2),.imm (.slice kE) d_3]] [] (breaks_Edit K l_1 d_2 d_3) (fun r=>.tup [(false,[.h 0]),(false,[.val (.int .i64 r.2)])]) fun r=>[(0,.row (.int .i64) r.1)]:=by
 refine jfn (fn:=Tryz.f108) Tryz.func108 (jy (breaks_Edit.eq_1 ..) ?_)
 refine jm 4 (hr:=?_)
 refine ja (Y:=Bool) 1 (fun y_69=>[(0,.c (.imm (.slice (.int .i64)) l_1)),(3,.c (.h 0)),(20,cB y_69)]) (fun y_69=>[(0,.box [.val (.int .i64 d_2),.imm (.slice kE) d_3])]) (h1:=?_) (h2:=fun y_69=>?_)
 ·refine jb fun r_5 h_6=>?_
  refine js (fun b_7=>?_) fun b_7=>?_
  ·refine jr [cp 1 (delta_Is_spec _ h_6) [] 1] [(14,true)] [(!r_5)=true] (ap1 b_7) (hr:=?_)
   exact jo []
  ·refine jb fun r_9 h_10=>?_
   refine jr [cp 1 (delta_Is_spec _ h_6) [] 1,cp 7 (breaks_Is_spec _ h_10) [] 1] [(14,false)] [(!r_5)=false] (ap1 b_7) (hr:=?_)
   exact jo []
 ·refine jc (h1:=fun b_13=>?_) (h2:=fun b_13=>?_)
  ·refine jm 2 (hr:=?_)
   refine jg [.nilSlot 4 (.int .i64)] ?_
   exact jt (rr [(0,1)])
  ·refine jm 4 (hr:=?_)
   refine jb fun r_16 h_17=>?_
   refine jr0 [cp 1 (delta_Size_spec _ h_17) [] 1] (hr:=?_)
   refine jm 4 (hr:=?_)
   refine jg [.nilSlot 6 (.int .i64)] ?_
   refine jl (X:=((List Int)×Int)) (fun k x=>breaks_Edit.l0 K l_1 d_2 d_3 r_16 k x.1 x.2) K (([]:List Int),(0:Int)) rfl 5 [(4,1)] (fun x_43=>[(3,.c (.h 0)),(6,.c (.h 4)),(7,cI r_16),(23,.c (.imm (.slice (.int .i64)) l_1)),(24,cI (lnI l_1)),(25,cI x_43.2)]) (fun x_43=>[(0,.box [.val (.int .i64 d_2),.imm (.slice kE) d_3]),(4,.row (.int .i64) x_43.1)]) (fun _=>rfl) (round:=fun k x_43=>jy (breaks_Edit.l0.eq_2 ..) ?_)
   refine jm 3 (hr:=?_)
   refine jc (h1:=fun b_45=>?_) (h2:=fun b_45=>?_)
   ·refine ji 6 (hr:=fun c_46=>?_)
    refine jb fun r_47 h_48=>?_
    refine jr0 [cp 2 (offset_Move_spec _ h_48) [] 5] (hr:=?_)
    refine jm 1 (hr:=?_)
    refine ja (Y:=Bool) 5 (fun y_70=>[(3,.c (.h 0)),(6,.c (.h 4)),(7,cI r_16),(10,cI r_47),(23,.c (.imm (.slice (.int .i64)) l_1)),(24,cI (lnI l_1)),(25,cI x_43.2),(53,cB y_70)]) (fun y_70=>[(0,.box [.val (.int .i64 d_2),.imm (.slice kE) d_3]),(4,.row (.int .i64) x_43.1)]) (h1:=?_) (h2:=fun y_70=>?_)
    ·refine js (fun b_51=>?_) fun b_51=>?_
     ·refine js (fun b_52=>?_) fun b_52=>?_
      ·refine js (fun b_53=>?_) fun b_53=>?_
       ·refine jr [] [(34,true),(39,true),(43,true)] [(decide (r_47 > (0:Int)))=true,(decide (r_47<r_16))=true,((lnI x_43.1)==(0:Int))=true] (ap2 b_51 (ap2 b_52 (ap1 b_53))) (hr:=?_)
        exact jo []
       ·refine jp fun c_55=>?_
        refine jr [] [(34,true),(39,true),(43,false)] [(decide (r_47 > (0:Int)))=true,(decide (r_47<r_16))=true,((lnI x_43.1)==(0:Int))=false,0≤(w6 ((lnI x_43.1) - (1:Int))),(w6 ((lnI x_43.1) - (1:Int)))<(lnI x_43.1)] (ap2 b_51 (ap2 b_52 (ap2 b_53 (ap2 c_55.1 (ap1 c_55.2))))) (hr:=?_)
        exact jo []
      ·refine jr [] [(34,true),(39,false)] [(decide (r_47 > (0:Int)))=true,(decide (r_47<r_16))=false] (ap2 b_51 (ap1 b_52)) (hr:=?_)
       exact jo []
     ·refine jr [] [(34,false)] [(decide (r_47 > (0:Int)))=false] (ap1 b_51) (hr:=?_)
      exact jo []
    ·refine jc (h1:=fun b_59=>?_) (h2:=fun b_59=>?_)
     ·refine ji 1 (hr:=fun c_60=>?_)
      refine jm 2 (hr:=?_)
      exact jx ((x_43.1++([r_47]:List Int)),(w6 (x_43.2+(1:Int)))) rfl [(4,6)]
     ·refine jm 3 (hr:=?_)
      exact jx (x_43.1,(w6 (x_43.2+(1:Int)))) rfl []
   ·refine jq 0 (ql (qh ?_))
    refine jm 2 (hr:=?_)
    exact jt (rr [(0,4)])
theorem view_View_follows_bb_9d9e7_spec {K v_1 v_2 v_3 v_4 v_5 v_6 v_7 v_8 v_9 was_10 was_11 was_12 was_13 was_14 was_15 was_16 was_17 was_18}:FS Tryz.prog 65 12 [.c (.h 0),.c (.h 6)] [(0,.box [.h 1,.imm (.opt (.opt .node)) v_6,.imm (.slice kP) v_7,.imm (.slice kS) v_8,.imm (.slice (.int .i64)) v_9]),(1,.box [.imm (.slice (.pair .str (.pair (.int .i64) (.pair (.int .i64) (.pair (.int .i64) (.slice kP)))))) v_1,.h 2]),(2,.box [.h 3,.val (.int .i64 v_3),.h 4,.h 5]),(3,.sets v_2 none),(4,.map v_4),(5,.map v_5),(6,.box [.h 7,.imm (.opt (.opt .node)) was_15,.imm (.slice kP) was_16,.imm (.slice kS) was_17,.imm (.slice (.int .i64)) was_18]),(7,.box [.imm (.slice (.pair .str (.pair (.int .i64) (.pair (.int .i64) (.pair (.int .i64) (.slice kP)))))) was_10,.h 8]),(8,.box [.h 9,.val (.int .i64 was_12),.h 10,.h 11]),(9,.sets was_11 none),(10,.map was_13),(11,.map was_14)] (view_View_follows_bb_9d9e7 K v_1 v_2 v_3 v_4 v_5 v_6 v_7 v_8 v_9 was_10 was_11 was_12 was_13 was_14 was_15 was_16 was_17 was_18) (fun r=>cI r.1) fun r=>[(0,.box [.h 1,.imm (.opt (.opt .node)) v_6,.imm (.slice kP) r.2.1,.imm (.slice kS) r.2.2.1,.imm (.slice (.int .i64)) r.2.2.2]),(1,.box [.imm (.slice (.pair .str (.pair (.int .i64) (.pair (.int .i64) (.pair (.int .i64) (.slice kP)))))) v_1,.h 2]),(2,.box [.h 3,.val (.int .i64 v_3),.h 4,.h 5]),(3,.sets v_2 none),(4,.map v_4),(5,.map v_5),(6,.box [.h 7,.imm (.opt (.opt .node)) was_15,.imm (.slice kP) was_16,.imm (.slice kS) was_17,.imm (.slice (.int .i64)) was_18]),(7,.box [.imm (.slice (.pair .str (.pair (.int .i64) (.pair (.int .i64) (.pair (.int .i64) (.slice kP)))))) was_10,.h 8]),(8,.box [.h 9,.val (.int .i64 was_12),.h 10,.h 11]),(9,.sets was_11 none),(10,.map was_13),(11,.map was_14)]:=by
 refine jfn (fn:=Tryz.f65) Tryz.func65 (jy (view_View_follows_bb_9d9e7.eq_1 ..) ?_)
 refine jm 3 (hr:=?_)
 refine jb fun r_20 h_21=>?_
 refine jb fun r_22 h_23=>?_
 refine jb fun r_24 h_25=>?_
 refine jw0 [cp 5 (view_View_Head_b_bc99c_spec _ h_21) [(0,6),(1,7),(2,8),(3,9),(4,10),(5,11)] 12,cp 7 (view_View_Head_b_bc99c_spec _ h_23) [(0,0),(1,1),(2,2),(3,3),(4,4),(5,5)] 12,cp 8 (diff_Between_bgg_e6ce3_spec _ h_25) [(0,1),(1,2),(2,3),(3,4),(4,5)] 12] (hr:=?_)
 refine jm 3 (hr:=?_)
 refine jc (h1:=fun b_28=>?_) (h2:=fun b_28=>?_)
 ·refine jm 2 (hr:=?_)
  exact jt (rr [])
 ·refine jm 3 (hr:=?_)
  refine jb fun r_31 h_32=>?_
  refine jw0 [cp 6 (region_Move_spec _ h_32) [(0,13)] 14] (hr:=?_)
  refine jm 2 (hr:=?_)
  refine jc (h1:=fun b_35=>?_) (h2:=fun b_35=>?_)
  ·refine jm 2 (hr:=?_)
   refine jg [.shut 13] ?_
   exact jt (rr [])
  ·refine jm 3 (hr:=?_)
   refine jb fun r_38 h_39=>?_
   refine jw0 [cp 6 (spans_Edit_spec _ h_39) [(0,14)] 15] (hr:=?_)
   refine jm 2 (hr:=?_)
   refine jc (h1:=fun b_42=>?_) (h2:=fun b_42=>?_)
   ·refine jm 2 (hr:=?_)
    refine jg [.shut 13,.shut 14] ?_
    exact jt (rr [])
   ·refine jm 2 (hr:=?_)
    refine jb fun r_45 h_46=>?_
    refine jw0 [cp 6 (breaks_Edit_spec _ h_46) [(0,15)] 16] (hr:=?_)
    refine jm 2 (hr:=?_)
    refine jg [.shut 13,.shut 14,.shut 15] ?_
    exact jt (rr [])
theorem engine_Engine_Undone_b_0db29_spec {K e_1 e_2 e_3 e_4 e_5}:FS Tryz.prog 24 5 [.c (.h 0)] [(0,.box [.imm (.slice (.pair .str (.pair (.int .i64) (.pair (.int .i64) (.pair (.int .i64) (.slice kP)))))) e_1,.h 1]),(1,.box [.h 2,.val (.int .i64 e_3),.h 3,.h 4]),(2,.sets e_2 none),(3,.map e_4),(4,.map e_5)] (engine_Engine_Undone_b_0db29 K e_1 e_2 e_3 e_4 e_5) (fun r=>.c (.h 5)) fun r=>[(0,.box [.imm (.slice (.pair .str (.pair (.int .i64) (.pair (.int .i64) (.pair (.int .i64) (.slice kP)))))) e_1,.h 1]),(1,.box [.h 2,.val (.int .i64 e_3),.h 3,.h 4]),(2,.sets e_2 none),(3,.map e_4),(4,.map e_5),(5,.row (.int .i64) r)]:=by
 refine jfn (fn:=Tryz.f24) Tryz.func24 (jy (engine_Engine_Undone_b_0db29.eq_1 ..) ?_)
 refine jm 3 (hr:=?_)
 refine jb fun r_7 h_8=>?_
 refine jb fun r_9 h_10=>?_
 refine jw0 [cp 5 (engine_Engine_Head_b_0db29_spec _ h_8) [(0,0),(1,1),(2,2),(3,3),(4,4)] 5,cp 6 (rev_Revs_Undone_bg_43267_spec _ h_10) [(0,1),(1,2),(2,3),(3,4),(4,5)] 6] (hr:=?_)
 exact jt (rr [])
theorem rev_Revs_Forget_n_spec {K r_1 r_2 r_3 r_4}:FS Tryz.prog 80 4 [.c (.h 0),.c (.val (.slice none 0 0))] [(0,.box [.h 1,.val (.int .i64 r_2),.h 2,.h 3]),(1,.sets r_1 none),(2,.map r_3),(3,.map r_4)] (rev_Revs_Forget K r_1 r_2 r_3 r_4 ([]:(List Int))) (fun r=>cI r.1) fun r=>[(0,.box [.h 4,.val (.int .i64 r.2.2.1),.h 2,.h 3]),(2,.map r.2.2.2.1),(3,.map r.2.2.2.2),(4,.sets r.2.1 none)]:=by
 refine jfn (fn:=Tryz.f80) Tryz.func80 (jy (rev_Revs_Forget.eq_1 ..) ?_)
 refine jm 7 (hr:=?_)
 refine ja2 (Y:=(List Int)) 6 (fun y_50=>[(0,.c (.h 0)),(5,.c (.h 4))]) (fun y_50=>[(0,.box [.h 1,.val (.int .i64 r_2),.h 2,.h 3]),(1,.sets r_1 none),(2,.map r_3),(3,.map r_4),(4,.map y_50)]) (h1:=?_) (h2:=fun y_50=>?_)
 ·refine jm 1 (hr:=?_)
  refine jl (X:=((List Int)×Int)) (fun k x=>rev_Revs_Forget.l0 K ([]:(List Int)) r_1 r_2 r_3 r_4 k x.1 x.2) K (([]:List Int),(0:Int)) rfl 6 [] (fun x_24=>[(0,.c (.h 0)),(5,.c (.h 4)),(13,.c (.val (.slice none 0 0))),(14,cI (lnI ([]:(List Int)))),(15,cI x_24.2)]) (fun x_24=>[(0,.box [.h 1,.val (.int .i64 r_2),.h 2,.h 3]),(1,.sets r_1 none),(2,.map r_3),(3,.map r_4),(4,.map x_24.1)]) (fun _=>rfl) (round:=fun k x_24=>jy (rev_Revs_Forget.l0.eq_2 ..) ?_)
  refine jm 3 (hr:=?_)
  refine jc (h1:=fun b_26=>?_) (h2:=fun b_26=>?_)
  ·refine ji 9 (hr:=fun c_27=>?_)
   refine ja (Y:=Bool) 7 (fun y_51=>[(0,.c (.h 0)),(5,.c (.h 4)),(7,cI (List.getD ([]:(List Int)) (Int.toNat x_24.2) (0:Int))),(13,.c (.val (.slice none 0 0))),(14,cI (lnI ([]:(List Int)))),(15,cI x_24.2),(31,cB y_51)]) (fun y_51=>[(0,.box [.h 1,.val (.int .i64 r_2),.h 2,.h 3]),(1,.sets r_1 none),(2,.map r_3),(3,.map r_4),(4,.map x_24.1)]) (h1:=?_) (h2:=fun y_51=>?_)
   ·refine js (fun b_28=>?_) fun b_28=>?_
    ·refine jr [] [(26,true)] [(List.contains x_24.1 (List.getD ([]:(List Int)) (Int.toNat x_24.2) (0:Int)))=true] (ap1 b_28) (hr:=?_)
     exact jo []
    ·refine jb fun r_30 h_31=>?_
     refine jr [cp 4 (rev_Revs_has_bg_43267_spec _ h_31) [(0,0),(1,1),(2,2),(3,3)] 7] [(26,false)] [(List.contains x_24.1 (List.getD ([]:(List Int)) (Int.toNat x_24.2) (0:Int)))=false] (ap1 b_28) (hr:=?_)
     exact jo []
   ·refine jc (h1:=fun b_34=>?_) (h2:=fun b_34=>?_)
    ·refine jm 2 (hr:=?_)
     exact jt (rl (rc (rr [(4,1)])))
    ·refine ji 2 (hr:=fun c_36=>?_)
     refine jm 2 (hr:=?_)
     exact jx ((insS (List.getD ([]:(List Int)) (Int.toNat x_24.2) (0:Int)) x_24.1),(w6 (x_24.2+(1:Int)))) rfl []
  ·refine jq 0 (ql (qh ?_))
   exact jo []
 ·refine jm 1 (hr:=?_)
  refine jwi [] [] (hr:=fun c_40=>?_)
  refine jm 1 (hr:=?_)
  refine jb fun r_42 h_43=>?_
  refine jr0 [cp 2 (rev_Revs_Head_b_3cfb0_spec _ h_43) [(0,0),(1,1),(2,2),(3,3)] 6] (hr:=?_)
  refine jp fun c_1=>?_
  refine jspl 10 1 _ r_1 c_1 (hr:=?_)
  refine jm 2 (hr:=?_)
  refine jg0 (.lits 7) (hr:=?_)
  refine jm 4 (hr:=?_)
  refine jl (X:=(List Int×Option Int×List Int×List Int×List Int)) (fun k x=>if x.1.length<k∧inW x.1=true then some (fgR r_42 x.1 x.2.2.1 x.2.2.2.1 x.2.2.2.2) else none) (y_50.length+1) (y_50,none,r_1.getD (Int.toNat (IntKind.wrap .i64 ((((List.length r_1):Nat):Int) - (1:Int)))) [],r_3,r_4) rfl 10 [] (fun x=>[(0,.c (.h 0)),(10,.c (.h 6)),(59,.c (.h 9))]) (fun x=>[(0,.box [.h 8,.val (.int .i64 r_42),.h 2,.h 3]),(2,.map x.2.2.2.1),(3,.map x.2.2.2.2),(6,.map x.2.2.1),(8,.sets [] (some 6)),(9,.mit x.1 x.2.1)]) (fun _=>by simp) (round:=fun k x=>jp fun c_2=>?_)
  refine jm 1 (hr:=?_)
  refine jmit x.1 (fun g=>by kernel_rfl) (h1:=fun g hg=>?_) (h0:=fun h0=>?_)
  ·refine jn 12 [-9223372036854775808≤g,g≤9223372036854775807] (by have:=List.all_eq_true.1 c_2.2 g hg; simpa [allP] using this) (hr:=?_)
   refine jx (x.1.erase g,some g,delS g x.2.2.1,delS g x.2.2.2.1,insS g x.2.2.2.2) ?_ []
   rw [fgR_step hg,if_pos]
   refine ⟨?_,List.all_eq_true.2 fun y hy=>List.all_eq_true.1 c_2.2 y (List.mem_of_mem_erase hy)⟩
   have:=List.length_erase_of_mem hg
   have:=List.length_pos_of_mem hg
   have:=c_2.1
   show (x.1.erase g).length<k
   omega
  ·refine jy (y:=some (0,[x.2.2.1],r_42,x.2.2.2.1,x.2.2.2.2)) (by rw [h0]; simp [fgR]) ?_
   refine jm 2 (hr:=?_)
   refine jq 2 (ql (qh ?_))
   refine jm 2 (hr:=?_)
   refine jg0 (.absorb 8) (hr:=?_)
   exact jt (rr [(4,10)])
theorem slices_Index_spec {K s_1 v_2}:FS Tryz.prog 201 0 [.c (.imm (.slice (.int .i64)) s_1),cI v_2] [] (slices_Index_rg K s_1 v_2) (fun r=>cI r) fun r=>[]:=by
 refine jfn (fn:=Tryz.f201) Tryz.func201 (jy (slices_Index_rg.eq_1 ..) ?_)
 refine jm 6 (hr:=?_)
 refine jl (X:=Int) (fun k x=>slices_Index_rg.l0 K s_1 v_2 k x) K _ rfl 0 [] (fun x_5=>[(0,.c (.imm (.slice (.int .i64)) s_1)),(1,cI v_2),(7,cI (lnI s_1)),(8,cI x_5)]) (fun x_5=>[]) (fun _=>rfl) (round:=fun k x_5=>jy (slices_Index_rg.l0.eq_2 ..) ?_)
 refine jm 3 (hr:=?_)
 refine jc (h1:=fun b_7=>?_) (h2:=fun b_7=>?_)
 ·refine ji 7 (hr:=fun c_8=>?_)
  refine jc (h1:=fun b_9=>?_) (h2:=fun b_9=>?_)
  ·refine jm 2 (hr:=?_)
   exact jt (rl (rr []))
  ·refine jm 3 (hr:=?_)
   exact jx _ rfl []
 ·refine jq 0 (ql (qh ?_))
  refine jm 2 (hr:=?_)
  exact jt (rr [])
theorem slices_Contains_spec {K s_1 v_2}:FS Tryz.prog 131 0 [.c (.imm (.slice (.int .i64)) s_1),cI v_2] [] (slices_Contains_rg K s_1 v_2) (fun r=>cB r) fun r=>[]:=by
 refine jfn (fn:=Tryz.f131) Tryz.func131 (jy (slices_Contains_rg.eq_1 ..) ?_)
 refine jm 3 (hr:=?_)
 refine jb fun r_4 h_5=>?_
 refine jr0 [cp 2 (slices_Index_spec _ h_5) [] 0] (hr:=?_)
 exact jt (rr [])
theorem engine_rest_1_gbb_dc736_spec {K g_1 p_2 p_3}:FS Tryz.prog 130 3 [cI g_1,.c (.h 0),.c (.h 1)] [(0,.box [.imm (.slice (.int .i64)) p_2]),(1,.box [.h 2]),(2,.row (.int .i64) p_3)] (engine_rest_1_gbb_dc736 K g_1 p_2 p_3) (fun r=>cB r) fun r=>[(0,.box [.imm (.slice (.int .i64)) p_2]),(1,.box [.h 2]),(2,.row (.int .i64) p_3)]:=by
 refine jfn (fn:=Tryz.f130) Tryz.func130 (jy (engine_rest_1_gbb_dc736.eq_1 ..) ?_)
 refine jm 3 (hr:=?_)
 refine jb fun r_5 h_6=>?_
 refine js (fun b_7=>?_) fun b_7=>?_
 ·refine jb fun r_8 h_9=>?_
  refine jr [cp 2 (slices_Contains_spec _ h_6) [] 3,cp 6 (slices_Contains_rg_spec _ h_9) [(0,2)] 3] [(8,true)] [r_5=true] (ap1 b_7) (hr:=?_)
  exact jt (rr [])
 ·refine jr [cp 2 (slices_Contains_spec _ h_6) [] 3] [(8,false)] [r_5=false] (ap1 b_7) (hr:=?_)
  exact jt (rr [])
theorem engine_rest_2_gbb_dc736_spec {K g_1 p_2 p_3}:FS Tryz.prog 132 3 [cI g_1,.c (.h 0),.c (.h 1)] [(0,.box [.imm (.slice (.int .i64)) p_2]),(1,.box [.h 2]),(2,.row (.int .i64) p_3)] (engine_rest_2_gbb_dc736 K g_1 p_2 p_3) (fun r=>cB r) fun r=>[(0,.box [.imm (.slice (.int .i64)) p_2]),(1,.box [.h 2]),(2,.row (.int .i64) p_3)]:=by
 refine jfn (fn:=Tryz.f132) Tryz.func132 (jy (engine_rest_2_gbb_dc736.eq_1 ..) ?_)
 refine jm 3 (hr:=?_)
 refine jb fun r_5 h_6=>?_
 refine js (fun b_7=>?_) fun b_7=>?_
 ·refine jb fun r_8 h_9=>?_
  refine jr [cp 2 (slices_Contains_spec _ h_6) [] 3,cp 6 (slices_Contains_rg_spec _ h_9) [(0,2)] 3] [(8,true)] [r_5=true] (ap1 b_7) (hr:=?_)
  exact jt (rr [])
 ·refine jr [cp 2 (slices_Contains_spec _ h_6) [] 3] [(8,false)] [r_5=false] (ap1 b_7) (hr:=?_)
  exact jt (rr [])
theorem engine_rest_3_sggb_2cd3c_spec {K c_1 c_2 p_3 p_4}:FS Tryz.prog 134 4 [.agg [.val (.int .i64 c_1),.val (.int .i64 c_2)],.c (.h 0)] [(0,.box [.clo 132 [1,2]]),(1,.box [.imm (.slice (.int .i64)) p_3]),(2,.box [.h 3]),(3,.row (.int .i64) p_4)] (engine_rest_3_sggb_2cd3c K c_1 c_2 p_3 p_4) (fun r=>cB r) fun r=>[(0,.box [.clo 132 [1,2]]),(1,.box [.imm (.slice (.int .i64)) p_3]),(2,.box [.h 3]),(3,.row (.int .i64) p_4)]:=by
 refine jfn (fn:=Tryz.f134) Tryz.func134 (jy (engine_rest_3_sggb_2cd3c.eq_1 ..) ?_)
 refine jm 3 (hr:=?_)
 refine jb fun r_6 h_7=>?_
 refine jr0 [cp 3 (engine_rest_2_gbb_dc736_spec _ h_7) [(0,1),(1,2),(2,3)] 5] (hr:=?_)
 exact jt (rr [])
theorem slices_IndexFunc_gcenginerest3_dcdc0_spec {K s_1 f_2 f_3}:FS Tryz.prog 202 4 [.c (.imm (.slice kP) s_1),.c (.clo 134 [0])] [(0,.box [.clo 132 [1,2]]),(1,.box [.imm (.slice (.int .i64)) f_2]),(2,.box [.h 3]),(3,.row (.int .i64) f_3)] (slices_IndexFunc_gcenginerest3_dcdc0 K s_1 f_2 f_3) (fun r=>cI r) fun r=>[(0,.box [.clo 132 [1,2]]),(1,.box [.imm (.slice (.int .i64)) f_2]),(2,.box [.h 3]),(3,.row (.int .i64) f_3)]:=by
 refine jfn (fn:=Tryz.f202) Tryz.func202 (jy (slices_IndexFunc_gcenginerest3_dcdc0.eq_1 ..) ?_)
 refine jm 6 (hr:=?_)
 refine jl (X:=Int) (fun k x=>slices_IndexFunc_gcenginerest3_dcdc0.l0 K s_1 f_2 f_3 k x) K _ rfl 4 [] (fun x_6=>[(0,.c (.imm (.slice kP) s_1)),(1,.c (.clo 134 [0])),(7,cI (lnI s_1)),(8,cI x_6)]) (fun x_6=>[(0,.box [.clo 132 [1,2]]),(1,.box [.imm (.slice (.int .i64)) f_2]),(2,.box [.h 3]),(3,.row (.int .i64) f_3)]) (fun _=>rfl) (round:=fun k x_6=>jy (slices_IndexFunc_gcenginerest3_dcdc0.l0.eq_2 ..) ?_)
 refine jm 3 (hr:=?_)
 refine jc (h1:=fun b_8=>?_) (h2:=fun b_8=>?_)
 ·refine jm 6 (hr:=?_)
  refine jb fun r_10 h_11=>?_
  refine jri [cp 5 (engine_rest_3_sggb_2cd3c_spec _ h_11) [(0,0),(1,1),(2,2),(3,3)] 4] [] (hr:=fun c_12=>?_)
  refine jc (h1:=fun b_13=>?_) (h2:=fun b_13=>?_)
  ·refine jm 2 (hr:=?_)
   exact jt (rl (rr []))
  ·refine jm 3 (hr:=?_)
   exact jx _ rfl []
 ·refine jq 0 (ql (qh ?_))
  refine jm 2 (hr:=?_)
  exact jt (rr [])
theorem slices_ContainsFunc_gcenginerest3_dcdc0_spec {K s_1 f_2 f_3}:FS Tryz.prog 133 4 [.c (.imm (.slice kP) s_1),.c (.clo 134 [0])] [(0,.box [.clo 132 [1,2]]),(1,.box [.imm (.slice (.int .i64)) f_2]),(2,.box [.h 3]),(3,.row (.int .i64) f_3)] (slices_ContainsFunc_gcenginerest3_dcdc0 K s_1 f_2 f_3) (fun r=>cB r) fun r=>[(0,.box [.clo 132 [1,2]]),(1,.box [.imm (.slice (.int .i64)) f_2]),(2,.box [.h 3]),(3,.row (.int .i64) f_3)]:=by
 refine jfn (fn:=Tryz.f133) Tryz.func133 (jy (slices_ContainsFunc_gcenginerest3_dcdc0.eq_1 ..) ?_)
 refine jm 3 (hr:=?_)
 refine jb fun r_5 h_6=>?_
 refine jr0 [cp 2 (slices_IndexFunc_gcenginerest3_dcdc0_spec _ h_6) [(0,0),(1,1),(2,2),(3,3)] 4] (hr:=?_)
 exact jt (rr [])
theorem engine_rest_4_sggb_39294_spec {K c_1 c_2 p_3 p_4}:FS Tryz.prog 136 4 [.agg [.val (.int .i64 c_1),.val (.int .i64 c_2)],.c (.h 0)] [(0,.box [.clo 130 [1,2]]),(1,.box [.imm (.slice (.int .i64)) p_3]),(2,.box [.h 3]),(3,.row (.int .i64) p_4)] (engine_rest_4_sggb_39294 K c_1 c_2 p_3 p_4) (fun r=>cB r) fun r=>[(0,.box [.clo 130 [1,2]]),(1,.box [.imm (.slice (.int .i64)) p_3]),(2,.box [.h 3]),(3,.row (.int .i64) p_4)]:=by
 refine jfn (fn:=Tryz.f136) Tryz.func136 (jy (engine_rest_4_sggb_39294.eq_1 ..) ?_)
 refine jm 3 (hr:=?_)
 refine jb fun r_6 h_7=>?_
 refine jr0 [cp 3 (engine_rest_1_gbb_dc736_spec _ h_7) [(0,1),(1,2),(2,3)] 5] (hr:=?_)
 exact jt (rr [])
theorem slices_IndexFunc_rcenginerest4_f8e5e_spec {K s_1 f_2 f_3}:FS Tryz.prog 202 5 [.c (.h 0),.c (.clo 136 [1])] [(0,.row kP s_1),(1,.box [.clo 130 [2,3]]),(2,.box [.imm (.slice (.int .i64)) f_2]),(3,.box [.h 4]),(4,.row (.int .i64) f_3)] (slices_IndexFunc_rcenginerest4_f8e5e K s_1 f_2 f_3) (fun r=>cI r) fun r=>[(0,.row kP s_1),(1,.box [.clo 130 [2,3]]),(2,.box [.imm (.slice (.int .i64)) f_2]),(3,.box [.h 4]),(4,.row (.int .i64) f_3)]:=by
 refine jfn (fn:=Tryz.f202) Tryz.func202 (jy (slices_IndexFunc_rcenginerest4_f8e5e.eq_1 ..) ?_)
 refine jm 6 (hr:=?_)
 refine jl (X:=Int) (fun k x=>slices_IndexFunc_rcenginerest4_f8e5e.l0 K s_1 f_2 f_3 k x) K _ rfl 5 [] (fun x_6=>[(0,.c (.h 0)),(1,.c (.clo 136 [1])),(7,cI (lnI s_1)),(8,cI x_6)]) (fun x_6=>[(0,.row kP s_1),(1,.box [.clo 130 [2,3]]),(2,.box [.imm (.slice (.int .i64)) f_2]),(3,.box [.h 4]),(4,.row (.int .i64) f_3)]) (fun _=>rfl) (round:=fun k x_6=>jy (slices_IndexFunc_rcenginerest4_f8e5e.l0.eq_2 ..) ?_)
 refine jm 3 (hr:=?_)
 refine jc (h1:=fun b_8=>?_) (h2:=fun b_8=>?_)
 ·refine jm 6 (hr:=?_)
  refine jb fun r_10 h_11=>?_
  refine jri [cp 5 (engine_rest_4_sggb_39294_spec _ h_11) [(0,1),(1,2),(2,3),(3,4)] 5] [] (hr:=fun c_12=>?_)
  refine jc (h1:=fun b_13=>?_) (h2:=fun b_13=>?_)
  ·refine jm 2 (hr:=?_)
   exact jt (rl (rr []))
  ·refine jm 3 (hr:=?_)
   exact jx _ rfl []
 ·refine jq 0 (ql (qh ?_))
  refine jm 2 (hr:=?_)
  exact jt (rr [])
theorem slices_DeleteFunc_rcenginerest4_f8e5e_spec {K s_1 del_2 del_3}:FS Tryz.prog 135 5 [.c (.h 0),.c (.clo 136 [1])] [(0,.row kP s_1),(1,.box [.clo 130 [2,3]]),(2,.box [.imm (.slice (.int .i64)) del_2]),(3,.box [.h 4]),(4,.row (.int .i64) del_3)] (slices_DeleteFunc_rcenginerest4_f8e5e K s_1 del_2 del_3) (fun r=>.c (.h 5)) fun r=>[(1,.box [.clo 130 [2,3]]),(2,.box [.imm (.slice (.int .i64)) del_2]),(3,.box [.h 4]),(4,.row (.int .i64) del_3),(5,.row kP r)]:=by
 refine jfn (fn:=Tryz.f135) Tryz.func135 (jy (slices_DeleteFunc_rcenginerest4_f8e5e.eq_1 ..) ?_)
 refine jm 3 (hr:=?_)
 refine jb fun r_5 h_6=>?_
 refine jr0 [cp 2 (slices_IndexFunc_rcenginerest4_f8e5e_spec _ h_6) [(0,0),(1,1),(2,2),(3,3),(4,4)] 5] (hr:=?_)
 refine jm 3 (hr:=?_)
 refine jc (h1:=fun b_9=>?_) (h2:=fun b_9=>?_)
 ·refine jm 2 (hr:=?_)
  exact jt (rr [(5,0)])
 ·refine jm 4 (hr:=?_)
  refine ja (Y:=((List (Int×Int))×Int)) 6 (fun y_43=>[(0,.c (.h 0)),(5,cI y_43.2)]) (fun y_43=>[(0,.row kP y_43.1),(1,.box [.clo 130 [2,3]]),(2,.box [.imm (.slice (.int .i64)) del_2]),(3,.box [.h 4]),(4,.row (.int .i64) del_3)]) (h1:=?_) (h2:=fun y_43=>?_)
  ·refine jm 1 (hr:=?_)
   refine jl (X:=((List (Int×Int))×Int×Int)) (fun k x=>slices_DeleteFunc_rcenginerest4_f8e5e.l0 K del_2 del_3 k x.1 x.2.1 x.2.2) K (s_1,r_5,(w6 (r_5+(1:Int)))) rfl 6 [] (fun x_27=>[(0,.c (.h 0)),(1,.c (.clo 136 [1])),(5,cI x_27.2.1),(6,cI x_27.2.2)]) (fun x_27=>[(0,.row kP x_27.1),(1,.box [.clo 130 [2,3]]),(2,.box [.imm (.slice (.int .i64)) del_2]),(3,.box [.h 4]),(4,.row (.int .i64) del_3)]) (fun _=>rfl) (round:=fun k x_27=>jy (slices_DeleteFunc_rcenginerest4_f8e5e.l0.eq_2 ..) ?_)
   refine jm 3 (hr:=?_)
   refine jc (h1:=fun b_29=>?_) (h2:=fun b_29=>?_)
   ·refine ji 6 (hr:=fun c_30=>?_)
    refine jb fun r_31 h_32=>?_
    refine jr0 [cp 2 (engine_rest_4_sggb_39294_spec _ h_32) [(0,1),(1,2),(2,3),(3,4)] 7] (hr:=?_)
    refine jc (h1:=fun b_34=>?_) (h2:=fun b_34=>?_)
    ·refine ji 3 (hr:=fun c_35=>?_)
     refine jm 2 (hr:=?_)
     exact jx ((List.set x_27.1 (Int.toNat x_27.2.1) ((List.getD x_27.1 (Int.toNat x_27.2.2) zP).1,(List.getD x_27.1 (Int.toNat x_27.2.2) zP).2)),(w6 (x_27.2.1+(1:Int))),(w6 (x_27.2.2+(1:Int)))) rfl []
    ·refine jm 3 (hr:=?_)
     exact jx (x_27.1,x_27.2.1,(w6 (x_27.2.2+(1:Int)))) rfl []
   ·refine jq 0 (ql (qh ?_))
    exact jo []
  ·refine jp fun c_40=>?_
   refine jn 4 [(0:Int)≤y_43.2,y_43.2≤(lnI y_43.1),(0:Int)≤y_43.2,y_43.2≤(lnI (putAt y_43.1 (List.replicate ((List.length y_43.1) - (Int.toNat y_43.2)) zP) (Int.toNat y_43.2)))] (ap2 c_40.1 (ap2 c_40.2.1 (ap2 c_40.1 (ap1 c_40.2.2)))) (hr:=?_)
   refine jg [.own 4] ?_
   exact jt (rr [(5,6)])
theorem engine_rest_gnr_spec {K l_1 undone_3}:FS Tryz.prog 81 1 [.c (.imm (.slice (.pair .str (.pair (.int .i64) (.pair (.int .i64) (.pair (.int .i64) (.slice kP)))))) l_1),.c (.val (.slice none 0 0)),.c (.h 0)] [(0,.row (.int .i64) undone_3)] (engine_rest_gnr K l_1 ([]:(List Int)) undone_3) (fun r=>.c (.h 1)) fun r=>[(0,.row (.int .i64) undone_3),(1,.row (.pair .str (.pair (.int .i64) (.pair (.int .i64) (.pair (.int .i64) (.slice kP))))) r)]:=by
 refine jfn (fn:=Tryz.f81) Tryz.func81 (jy (engine_rest_gnr.eq_1 ..) ?_)
 refine ji 13 (hr:=fun c_4=>?_)
 refine jm 1 (hr:=?_)
 refine jg [.readCell 1 0 (.slice (.int .i64))] ?_
 refine jl (X:=((List Int)×(List (ByteArray×(Int×(Int×(Int×(List (Int×Int)))))))×Int×Int)) (fun k x=>engine_rest_gnr.l0 K l_1 undone_3 k x.1 x.2.1 x.2.2.1 x.2.2.2) K (([]:(List Int)),(List.replicate (Int.toNat (lnI l_1)) (ByteArray.empty,((0:Int),((0:Int),((0:Int),([]:List (Int×Int))))))),(0:Int),(0:Int)) rfl 10 [] (fun x_42=>[(4,.c (.h 1)),(7,.c (.h 3)),(8,.c (.h 4)),(9,.c (.h 5)),(10,cI x_42.2.2.1),(18,.c (.imm (.slice (.pair .str (.pair (.int .i64) (.pair (.int .i64) (.pair (.int .i64) (.slice kP)))))) l_1)),(19,cI (lnI l_1)),(20,cI x_42.2.2.2)]) (fun x_42=>[(0,.row (.int .i64) undone_3),(1,.box [.imm (.slice (.int .i64)) x_42.1]),(2,.box [.h 0]),(3,.box [.clo 130 [1,2]]),(4,.box [.clo 132 [1,2]]),(5,.row (.pair .str (.pair (.int .i64) (.pair (.int .i64) (.pair (.int .i64) (.slice kP))))) x_42.2.1)]) (fun _=>rfl) (round:=fun k x_42=>jy (engine_rest_gnr.l0.eq_2 ..) ?_)
 refine jm 3 (hr:=?_)
 refine jc (h1:=fun b_44=>?_) (h2:=fun b_44=>?_)
 ·refine ji 7 (hr:=fun c_45=>?_)
  refine ja (Y:=Bool) 11 (fun y_77=>[(4,.c (.h 1)),(7,.c (.h 3)),(8,.c (.h 4)),(9,.c (.h 5)),(10,cI x_42.2.2.1),(12,.c (.h 10)),(18,.c (.imm (.slice (.pair .str (.pair (.int .i64) (.pair (.int .i64) (.pair (.int .i64) (.slice kP)))))) l_1)),(19,cI (lnI l_1)),(20,cI x_42.2.2.2),(33,cB y_77)]) (fun y_77=>[(0,.row (.int .i64) undone_3),(1,.box [.imm (.slice (.int .i64)) x_42.1]),(2,.box [.h 0]),(3,.box [.clo 130 [1,2]]),(4,.box [.clo 132 [1,2]]),(5,.row (.pair .str (.pair (.int .i64) (.pair (.int .i64) (.pair (.int .i64) (.slice kP))))) x_42.2.1),(10,.box [.val (.string (List.getD l_1 (Int.toNat x_42.2.2.2) (ByteArray.empty,((0:Int),((0:Int),((0:Int),([]:(List (Int×Int)))))))).1),.val (.int .i64 (List.getD l_1 (Int.toNat x_42.2.2.2) (ByteArray.empty,((0:Int),((0:Int),((0:Int),([]:(List (Int×Int)))))))).2.1),.val (.int .i64 (List.getD l_1 (Int.toNat x_42.2.2.2) (ByteArray.empty,((0:Int),((0:Int),((0:Int),([]:(List (Int×Int)))))))).2.2.1),.val (.int .i64 (List.getD l_1 (Int.toNat x_42.2.2.2) (ByteArray.empty,((0:Int),((0:Int),((0:Int),([]:(List (Int×Int)))))))).2.2.2.1),.imm (.slice kP) (List.getD l_1 (Int.toNat x_42.2.2.2) (ByteArray.empty,((0:Int),((0:Int),((0:Int),([]:(List (Int×Int)))))))).2.2.2.2])]) (h1:=?_) (h2:=fun y_77=>?_)
  ·refine jb fun r_46 h_47=>?_
   refine js (fun b_48=>?_) fun b_48=>?_
   ·refine jr [cp 3 (engine_rest_1_gbb_dc736_spec _ h_47) [(0,1),(1,2),(2,0)] 11] [(28,true)] [r_46=true] (ap1 b_48) (hr:=?_)
    exact jo []
   ·refine jb fun r_50 h_51=>?_
    refine jr [cp 3 (engine_rest_1_gbb_dc736_spec _ h_47) [(0,1),(1,2),(2,0)] 11,cp 8 (slices_ContainsFunc_gcenginerest3_dcdc0_spec _ h_51) [(0,4),(1,1),(2,2),(3,0)] 11] [(28,false)] [r_46=false] (ap1 b_48) (hr:=?_)
    exact jo []
  ·refine jc (h1:=fun b_54=>?_) (h2:=fun b_54=>?_)
   ·refine jm 2 (hr:=?_)
    exact jx (x_42.1,x_42.2.1,x_42.2.2.1,(w6 (x_42.2.2.2+(1:Int)))) rfl []
   ·refine jm 2 (hr:=?_)
    refine jb fun r_57 h_58=>?_
    refine jb fun r_59 h_60=>?_
    refine jr0 [cp 2 (slices_Clone_spec _ h_58) [(0,11)] 12,cp 4 (slices_DeleteFunc_rcenginerest4_f8e5e_spec _ h_60) [(0,11),(1,3),(2,1),(3,2),(4,0),(5,12)] 13] (hr:=?_)
    refine jm 2 (hr:=?_)
    refine jb fun r_63 h_64=>?_
    refine jr0 [cp 3 (slices_Contains_spec _ h_64) [] 13] (hr:=?_)
    refine jc (h1:=fun b_66=>?_) (h2:=fun b_66=>?_)
    ·refine jm 1 (hr:=?_)
     refine jg [.shut 12] ?_
     refine jp fun c_68=>?_
     refine jw [] [] [(0:Int)≤x_42.2.2.1,x_42.2.2.1≤(lnI x_42.2.1),(0:Int)≤x_42.2.2.1,x_42.2.2.1≤(lnI x_42.2.1)] (ap2 c_68.1 (ap2 c_68.2 (ap2 c_68.1 (ap1 c_68.2)))) (hr:=?_)
     refine jm 2 (hr:=?_)
     exact jx (x_42.1,(putAt x_42.2.1 (List.take ((List.length x_42.2.1) - (Int.toNat x_42.2.2.1)) ([((List.getD l_1 (Int.toNat x_42.2.2.2) (ByteArray.empty,((0:Int),((0:Int),((0:Int),([]:(List (Int×Int)))))))).1,((List.getD l_1 (Int.toNat x_42.2.2.2) (ByteArray.empty,((0:Int),((0:Int),((0:Int),([]:(List (Int×Int)))))))).2.1,((-1:Int),((List.getD l_1 (Int.toNat x_42.2.2.2) (ByteArray.empty,((0:Int),((0:Int),((0:Int),([]:(List (Int×Int)))))))).2.2.2.1,r_59))))]:List (ByteArray×(Int×(Int×(Int×(List (Int×Int)))))))) (Int.toNat x_42.2.2.1)),(w6 (x_42.2.2.1+(lnI (List.take ((List.length x_42.2.1) - (Int.toNat x_42.2.2.1)) ([((List.getD l_1 (Int.toNat x_42.2.2.2) (ByteArray.empty,((0:Int),((0:Int),((0:Int),([]:(List (Int×Int)))))))).1,((List.getD l_1 (Int.toNat x_42.2.2.2) (ByteArray.empty,((0:Int),((0:Int),((0:Int),([]:(List (Int×Int)))))))).2.1,((-1:Int),((List.getD l_1 (Int.toNat x_42.2.2.2) (ByteArray.empty,((0:Int),((0:Int),((0:Int),([]:(List (Int×Int)))))))).2.2.2.1,r_59))))]:List (ByteArray×(Int×(Int×(Int×(List (Int×Int))))))))))),(w6 (x_42.2.2.2+(1:Int)))) rfl []
    ·refine jm 1 (hr:=?_)
     refine jg [.shut 12] ?_
     refine jp fun c_71=>?_
     refine jw [] [] [(0:Int)≤x_42.2.2.1,x_42.2.2.1≤(lnI x_42.2.1),(0:Int)≤x_42.2.2.1,x_42.2.2.1≤(lnI x_42.2.1)] (ap2 c_71.1 (ap2 c_71.2 (ap2 c_71.1 (ap1 c_71.2)))) (hr:=?_)
     refine jm 2 (hr:=?_)
     exact jx (x_42.1,(putAt x_42.2.1 (List.take ((List.length x_42.2.1) - (Int.toNat x_42.2.2.1)) ([((List.getD l_1 (Int.toNat x_42.2.2.2) (ByteArray.empty,((0:Int),((0:Int),((0:Int),([]:(List (Int×Int)))))))).1,((List.getD l_1 (Int.toNat x_42.2.2.2) (ByteArray.empty,((0:Int),((0:Int),((0:Int),([]:(List (Int×Int)))))))).2.1,((List.getD l_1 (Int.toNat x_42.2.2.2) (ByteArray.empty,((0:Int),((0:Int),((0:Int),([]:(List (Int×Int)))))))).2.2.1,((List.getD l_1 (Int.toNat x_42.2.2.2) (ByteArray.empty,((0:Int),((0:Int),((0:Int),([]:(List (Int×Int)))))))).2.2.2.1,r_59))))]:List (ByteArray×(Int×(Int×(Int×(List (Int×Int)))))))) (Int.toNat x_42.2.2.1)),(w6 (x_42.2.2.1+(lnI (List.take ((List.length x_42.2.1) - (Int.toNat x_42.2.2.1)) ([((List.getD l_1 (Int.toNat x_42.2.2.2) (ByteArray.empty,((0:Int),((0:Int),((0:Int),([]:(List (Int×Int)))))))).1,((List.getD l_1 (Int.toNat x_42.2.2.2) (ByteArray.empty,((0:Int),((0:Int),((0:Int),([]:(List (Int×Int)))))))).2.1,((List.getD l_1 (Int.toNat x_42.2.2.2) (ByteArray.empty,((0:Int),((0:Int),((0:Int),([]:(List (Int×Int)))))))).2.2.1,((List.getD l_1 (Int.toNat x_42.2.2.2) (ByteArray.empty,((0:Int),((0:Int),((0:Int),([]:(List (Int×Int)))))))).2.2.2.1,r_59))))]:List (ByteArray×(Int×(Int×(Int×(List (Int×Int))))))))))),(w6 (x_42.2.2.2+(1:Int)))) rfl []
 ·refine jq 0 (ql (qh ?_))
  refine ji 2 (hr:=fun c_73=>?_)
  refine jg [.own 6] ?_
  exact jt (rr [(1,10)])
theorem engine_Engine_Forget_bn_1fea6_spec {K e_1 e_2 e_3 e_4 e_5}:FS Tryz.prog 49 5 [.c (.h 0),.c (.val (.slice none 0 0))] [(0,.box [.imm (.slice (.pair .str (.pair (.int .i64) (.pair (.int .i64) (.pair (.int .i64) (.slice kP)))))) e_1,.h 1]),(1,.box [.h 2,.val (.int .i64 e_3),.h 3,.h 4]),(2,.sets e_2 none),(3,.map e_4),(4,.map e_5)] (engine_Engine_Forget_bn_1fea6 K e_1 e_2 e_3 e_4 e_5 ([]:(List Int))) (fun r=>cI r.1) fun r=>[(0,.box [.imm (.slice (.pair .str (.pair (.int .i64) (.pair (.int .i64) (.pair (.int .i64) (.slice kP)))))) r.2.1,.h 1]),(1,.box [.h 5,.val (.int .i64 r.2.2.2.1),.h 3,.h 4]),(3,.map r.2.2.2.2.1),(4,.map r.2.2.2.2.2),(5,.sets r.2.2.1 none)]:=by
 refine jfn (fn:=Tryz.f49) Tryz.func49 (jy (engine_Engine_Forget_bn_1fea6.eq_1 ..) ?_)
 refine jm 3 (hr:=?_)
 refine jb fun r_8 h_9=>?_
 refine jr0 [cp 1 (engine_Engine_Undone_b_0db29_spec _ h_9) [(0,0),(1,1),(2,2),(3,3),(4,4),(5,5)] 6] (hr:=?_)
 refine jm 2 (hr:=?_)
 refine jb fun r_12 h_13=>?_
 refine jr0 [cp 5 (rev_Revs_Forget_n_spec _ h_13) [(0,1),(1,2),(2,3),(3,4),(4,6)] 7] (hr:=?_)
 refine jm 2 (hr:=?_)
 refine jc (h1:=fun b_16=>?_) (h2:=fun b_16=>?_)
 ·refine jm 2 (hr:=?_)
  exact jt (rr [(5,6)])
 ·refine jm 2 (hr:=?_)
  refine jb fun r_19 h_20=>?_
  refine jr0 [cp 7 (engine_rest_gnr_spec _ h_20) [(0,5),(1,7)] 8] (hr:=?_)
  refine jm 2 (hr:=?_)
  refine jg [.shut 7] ?_
  exact jt (rr [(5,6)])
theorem region_count_n_spec {K}:FS Tryz.prog 159 0 [.c (.val (.slice none 0 0))] [] (region_count K ([]:(List (Int×Int)))) (fun r=>cI r) fun r=>[]:=by
 refine jfn (fn:=Tryz.f159) Tryz.func159 (jy (region_count.eq_1 ..) ?_)
 refine jm 6 (hr:=?_)
 refine jc (h1:=fun b_3=>?_) (h2:=fun b_3=>?_)
 ·refine jm 2 (hr:=?_)
  exact jt (rr [])
 ·refine jm 2 (hr:=?_)
  refine jc (h1:=fun b_6=>?_) (h2:=fun b_6=>?_)
  ·refine jm 2 (hr:=?_)
   exact jt (rr [])
  ·refine jm 4 (hr:=?_)
   exact jt (rr [])
theorem slices_IndexFunc_ncregionevery1_d20d0_spec {K f_2}:FS Tryz.prog 253 2 [.c (.val (.slice none 0 0)),.c (.clo 215 [0])] [(0,.box [.clo 227 [1]]),(1,.box [.val (.string f_2)])] (slices_IndexFunc_gcregionevery1_cb99b K ([]:(List (Int×Int))) f_2) (fun r=>cI r) fun r=>[(0,.box [.clo 227 [1]]),(1,.box [.val (.string f_2)])]:=by
 refine jfn (fn:=Tryz.f253) Tryz.func253 (jy (slices_IndexFunc_gcregionevery1_cb99b.eq_1 ..) ?_)
 refine jm 6 (hr:=?_)
 refine jl (X:=Int) (fun k x=>slices_IndexFunc_gcregionevery1_cb99b.l0 K ([]:(List (Int×Int))) f_2 k x) K _ rfl 2 [] (fun x_5=>[(0,.c (.val (.slice none 0 0))),(1,.c (.clo 215 [0])),(7,cI (lnI ([]:(List (Int×Int))))),(8,cI x_5)]) (fun x_5=>[(0,.box [.clo 227 [1]]),(1,.box [.val (.string f_2)])]) (fun _=>rfl) (round:=fun k x_5=>jy (slices_IndexFunc_gcregionevery1_cb99b.l0.eq_2 ..) ?_)
 refine jm 3 (hr:=?_)
 refine jc (h1:=fun b_7=>?_) (h2:=fun b_7=>?_)
 ·refine jm 6 (hr:=?_)
  refine jb fun r_9 h_10=>?_
  refine jri [cp 5 (region_every_1_sggb_7e816_spec _ h_10) [(0,0),(1,1)] 2] [] (hr:=fun c_11=>?_)
  refine jc (h1:=fun b_12=>?_) (h2:=fun b_12=>?_)
  ·refine jm 2 (hr:=?_)
   exact jt (rl (rr []))
  ·refine jm 3 (hr:=?_)
   exact jx _ rfl []
 ·refine jq 0 (ql (qh ?_))
  refine jm 2 (hr:=?_)
  exact jt (rr [])
theorem slices_ContainsFunc_ncregionevery1_d20d0_spec {K f_2}:FS Tryz.prog 214 2 [.c (.val (.slice none 0 0)),.c (.clo 215 [0])] [(0,.box [.clo 227 [1]]),(1,.box [.val (.string f_2)])] (slices_ContainsFunc_gcregionevery1_cb99b K ([]:(List (Int×Int))) f_2) (fun r=>cB r) fun r=>[(0,.box [.clo 227 [1]]),(1,.box [.val (.string f_2)])]:=by
 refine jfn (fn:=Tryz.f214) Tryz.func214 (jy (slices_ContainsFunc_gcregionevery1_cb99b.eq_1 ..) ?_)
 refine jm 3 (hr:=?_)
 refine jb fun r_4 h_5=>?_
 refine jr0 [cp 2 (slices_IndexFunc_ncregionevery1_d20d0_spec _ h_5) [(0,0),(1,1)] 2] (hr:=?_)
 exact jt (rr [])
theorem region_every_ncregioninside1_98415_spec {K is_2}:FS Tryz.prog 156 1 [.c (.val (.slice none 0 0)),.c (.clo 227 [0])] [(0,.box [.val (.string is_2)])] (region_every_gcregioninside1_08bb4 K ([]:(List (Int×Int))) is_2) (fun r=>cB r) fun r=>[(0,.box [.val (.string is_2)])]:=by
 refine jfn (fn:=Tryz.f156) Tryz.func156 (jy (region_every_gcregioninside1_08bb4.eq_1 ..) ?_)
 refine jm 3 (hr:=?_)
 refine jb fun r_4 h_5=>?_
 refine jr0 [cp 2 (slices_ContainsFunc_ncregionevery1_d20d0_spec _ h_5) [(0,1),(1,0)] 2] (hr:=?_)
 exact jt (rr [])
theorem slices_IndexFunc_ncregionevery1_a55c1_spec {K f_2}:FS Tryz.prog 253 2 [.c (.val (.slice none 0 0)),.c (.clo 215 [0])] [(0,.box [.clo 228 [1]]),(1,.box [.val (.string f_2)])] (slices_IndexFunc_gcregionevery1_75cf2 K ([]:(List (Int×Int))) f_2) (fun r=>cI r) fun r=>[(0,.box [.clo 228 [1]]),(1,.box [.val (.string f_2)])]:=by
 refine jfn (fn:=Tryz.f253) Tryz.func253 (jy (slices_IndexFunc_gcregionevery1_75cf2.eq_1 ..) ?_)
 refine jm 6 (hr:=?_)
 refine jl (X:=Int) (fun k x=>slices_IndexFunc_gcregionevery1_75cf2.l0 K ([]:(List (Int×Int))) f_2 k x) K _ rfl 2 [] (fun x_5=>[(0,.c (.val (.slice none 0 0))),(1,.c (.clo 215 [0])),(7,cI (lnI ([]:(List (Int×Int))))),(8,cI x_5)]) (fun x_5=>[(0,.box [.clo 228 [1]]),(1,.box [.val (.string f_2)])]) (fun _=>rfl) (round:=fun k x_5=>jy (slices_IndexFunc_gcregionevery1_75cf2.l0.eq_2 ..) ?_)
 refine jm 3 (hr:=?_)
 refine jc (h1:=fun b_7=>?_) (h2:=fun b_7=>?_)
 ·refine jm 6 (hr:=?_)
  refine jb fun r_9 h_10=>?_
  refine jri [cp 5 (region_every_1_sggb_f969f_spec _ h_10) [(0,0),(1,1)] 2] [] (hr:=fun c_11=>?_)
  refine jc (h1:=fun b_12=>?_) (h2:=fun b_12=>?_)
  ·refine jm 2 (hr:=?_)
   exact jt (rl (rr []))
  ·refine jm 3 (hr:=?_)
   exact jx _ rfl []
 ·refine jq 0 (ql (qh ?_))
  refine jm 2 (hr:=?_)
  exact jt (rr [])
theorem slices_ContainsFunc_ncregionevery1_a55c1_spec {K f_2}:FS Tryz.prog 214 2 [.c (.val (.slice none 0 0)),.c (.clo 215 [0])] [(0,.box [.clo 228 [1]]),(1,.box [.val (.string f_2)])] (slices_ContainsFunc_gcregionevery1_75cf2 K ([]:(List (Int×Int))) f_2) (fun r=>cB r) fun r=>[(0,.box [.clo 228 [1]]),(1,.box [.val (.string f_2)])]:=by
 refine jfn (fn:=Tryz.f214) Tryz.func214 (jy (slices_ContainsFunc_gcregionevery1_75cf2.eq_1 ..) ?_)
 refine jm 3 (hr:=?_)
 refine jb fun r_4 h_5=>?_
 refine jr0 [cp 2 (slices_IndexFunc_ncregionevery1_a55c1_spec _ h_5) [(0,0),(1,1)] 2] (hr:=?_)
 exact jt (rr [])
theorem region_every_ncregionedges1_582ed_spec {K is_2}:FS Tryz.prog 156 1 [.c (.val (.slice none 0 0)),.c (.clo 228 [0])] [(0,.box [.val (.string is_2)])] (region_every_gcregionedges1_96dfe K ([]:(List (Int×Int))) is_2) (fun r=>cB r) fun r=>[(0,.box [.val (.string is_2)])]:=by
 refine jfn (fn:=Tryz.f156) Tryz.func156 (jy (region_every_gcregionedges1_96dfe.eq_1 ..) ?_)
 refine jm 3 (hr:=?_)
 refine jb fun r_4 h_5=>?_
 refine jr0 [cp 2 (slices_ContainsFunc_ncregionevery1_a55c1_spec _ h_5) [(0,1),(1,0)] 2] (hr:=?_)
 exact jt (rr [])
theorem region_Make_ng_spec {K s_2}:FS Tryz.prog 109 0 [.c (.val (.slice none 0 0)),cS s_2] [] (region_Make_ng K ([]:(List (Int×Int))) s_2) (fun r=>.tup [(false,[.imm (.slice kP) r.1]),(false,[.val (.int .i64 r.2)])]) fun r=>[]:=by
 refine jfn (fn:=Tryz.f109) Tryz.func109 (jy (region_Make_ng.eq_1 ..) ?_)
 refine jm 4 (hr:=?_)
 refine jb fun r_4 h_5=>?_
 refine jr0 [cp 1 (region_count_n_spec _ h_5) [] 0] (hr:=?_)
 refine jm 2 (hr:=?_)
 refine jc (h1:=fun b_8=>?_) (h2:=fun b_8=>?_)
 ·refine jm 2 (hr:=?_)
  refine jg [.read 4 (.slice kP)] ?_
  exact jt (rr [])
 ·refine jm 4 (hr:=?_)
  refine jb fun r_11 h_12=>?_
  refine jb fun r_13 h_14=>?_
  refine jr0 [cp 2 (region_inside_spec _ h_12) [(0,0)] 1,cp 3 (region_every_ncregioninside1_98415_spec _ h_14) [(0,0)] 1] (hr:=?_)
  refine jc (h1:=fun b_16=>?_) (h2:=fun b_16=>?_)
  ·refine jm 2 (hr:=?_)
   refine jg [.read 4 (.slice kP)] ?_
   exact jt (rr [])
  ·refine jm 1 (hr:=?_)
   refine jb fun r_19 h_20=>?_
   refine jb fun r_21 h_22=>?_
   refine jr0 [cp 2 (region_edges_spec _ h_20) [(0,1)] 2,cp 3 (region_every_ncregionedges1_582ed_spec _ h_22) [(0,1)] 2] (hr:=?_)
   refine jc (h1:=fun b_24=>?_) (h2:=fun b_24=>?_)
   ·refine jm 2 (hr:=?_)
    refine jg [.read 4 (.slice kP)] ?_
    exact jt (rr [])
   ·refine jm 3 (hr:=?_)
    exact jd
theorem spans_Put_spec {K l_1 s_2 s_3 s_4}:FS Tryz.prog 110 0 [.c (.imm (.slice kS) l_1),.agg [.val (.int .i64 s_2),.val (.int .i64 s_3),.val (.int .i64 s_4)]] [] (spans_Put K l_1 s_2 s_3 s_4) (fun r=>.tup [(false,[.h 0]),(false,[.val (.int .i64 r.2)])]) fun r=>[(0,.row kS r.1)]:=by
 refine jfn (fn:=Tryz.f110) Tryz.func110 (jy (spans_Put.eq_1 ..) ?_)
 refine jm 4 (hr:=?_)
 refine ja (Y:=Bool) 1 (fun y_79=>[(0,.c (.imm (.slice kS) l_1)),(3,.c (.h 0)),(34,cB y_79)]) (fun y_79=>[(0,.box [.val (.int .i64 s_2),.val (.int .i64 s_3),.val (.int .i64 s_4)])]) (h1:=?_) (h2:=fun y_79=>?_)
 ·refine jb fun r_6 h_7=>?_
  refine js (fun b_8=>?_) fun b_8=>?_
  ·refine jr [cp 1 (spans_Is_spec _ h_7) [] 1] [(12,true)] [(!r_6)=true] (ap1 b_8) (hr:=?_)
   exact jo []
  ·refine jb fun r_10 h_11=>?_
   refine js (fun b_12=>?_) fun b_12=>?_
   ·refine jr [cp 1 (spans_Is_spec _ h_7) [] 1,cp 6 (spans_within_spec _ h_11) [] 1] [(12,false),(18,true)] [(!r_6)=false,(!r_10)=true] (ap2 b_8 (ap1 b_12)) (hr:=?_)
    exact jo []
   ·refine js (fun b_14=>?_) fun b_14=>?_
    ·refine jr [cp 1 (spans_Is_spec _ h_7) [] 1,cp 6 (spans_within_spec _ h_11) [] 1] [(12,false),(18,false),(23,true)] [(!r_6)=false,(!r_10)=false,(decide (s_2<(0:Int)))=true] (ap2 b_8 (ap2 b_12 (ap1 b_14))) (hr:=?_)
     exact jo []
    ·refine js (fun b_16=>?_) fun b_16=>?_
     ·refine jr [cp 1 (spans_Is_spec _ h_7) [] 1,cp 6 (spans_within_spec _ h_11) [] 1] [(12,false),(18,false),(23,false),(30,true)] [(!r_6)=false,(!r_10)=false,(decide (s_2<(0:Int)))=false,(decide (s_2 > s_3))=true] (ap2 b_8 (ap2 b_12 (ap2 b_14 (ap1 b_16)))) (hr:=?_)
      exact jo []
     ·refine jr [cp 1 (spans_Is_spec _ h_7) [] 1,cp 6 (spans_within_spec _ h_11) [] 1] [(12,false),(18,false),(23,false),(30,false)] [(!r_6)=false,(!r_10)=false,(decide (s_2<(0:Int)))=false,(decide (s_2 > s_3))=false] (ap2 b_8 (ap2 b_12 (ap2 b_14 (ap1 b_16)))) (hr:=?_)
      exact jo []
 ·refine jc (h1:=fun b_20=>?_) (h2:=fun b_20=>?_)
  ·refine jm 2 (hr:=?_)
   refine jg [.nilSlot 4 kS] ?_
   exact jt (rr [(0,1)])
  ·refine jm 6 (hr:=?_)
   refine ja (Y:=(List (Int×(Int×Int)))) 6 (fun y_80=>[(3,.c (.h 0)),(6,.c (.h 1))]) (fun y_80=>[(0,.box [.val (.int .i64 s_2),.val (.int .i64 s_3),.val (.int .i64 s_4)]),(1,.box [.h 5]),(5,.row kS y_80)]) (h1:=?_) (h2:=fun y_80=>?_)
   ·refine jm 1 (hr:=?_)
    refine jg [.nilCell 1 0 kS] ?_
    refine jl (X:=((List (Int×(Int×Int)))×Int)) (fun k x=>spans_Put.l0 K l_1 s_2 s_3 k x.1 x.2) K (([]:List (Int×(Int×Int))),(0:Int)) rfl 6 [(5,2)] (fun x_44=>[(3,.c (.h 0)),(6,.c (.h 1)),(35,.c (.imm (.slice kS) l_1)),(36,cI (lnI l_1)),(37,cI x_44.2)]) (fun x_44=>[(0,.box [.val (.int .i64 s_2),.val (.int .i64 s_3),.val (.int .i64 s_4)]),(1,.box [.h 5]),(5,.row kS x_44.1)]) (fun _=>rfl) (round:=fun k x_44=>jy (spans_Put.l0.eq_2 ..) ?_)
    refine jm 3 (hr:=?_)
    refine jc (h1:=fun b_46=>?_) (h2:=fun b_46=>?_)
    ·refine ji 8 (hr:=fun c_47=>?_)
     refine jc (h1:=fun b_48=>?_) (h2:=fun b_48=>?_)
     ·refine jm 1 (hr:=?_)
      refine jb fun r_50 h_51=>?_
      refine jr0 [cp 6 (spans_row_add_bggg_b0cf7_spec _ h_51) [(0,1),(1,5),(2,7)] 8] (hr:=?_)
      refine jm 2 (hr:=?_)
      exact jx (r_50,(w6 (x_44.2+(1:Int)))) rfl [(5,7)]
     ·refine jm 2 (hr:=?_)
      refine jb fun r_55 h_56=>?_
      refine jr0 [cp 9 (spans_row_add_bggg_b0cf7_spec _ h_56) [(0,1),(1,5),(2,7)] 8] (hr:=?_)
      refine jb fun r_58 h_59=>?_
      refine jr0 [cp 9 (spans_row_add_bggg_b0cf7_spec _ h_59) [(0,1),(1,7),(2,8)] 9] (hr:=?_)
      refine jm 2 (hr:=?_)
      exact jx (r_58,(w6 (x_44.2+(1:Int)))) rfl [(5,8)]
    ·refine jq 0 (ql (qh ?_))
     exact jo []
   ·refine jm 3 (hr:=?_)
    refine ja (Y:=(List (Int×(Int×Int)))) 8 (fun y_81=>[(6,.c (.h 1))]) (fun y_81=>[(1,.box [.h 7]),(7,.row kS y_81)]) (h1:=?_) (h2:=fun y_81=>?_)
    ·refine jc (h1:=fun b_64=>?_) (h2:=fun b_64=>?_)
     ·refine jb fun r_65 h_66=>?_
      refine jr0 [cp 6 (spans_row_add_bggg_b0cf7_spec _ h_66) [(0,1),(1,5),(2,6)] 7] (hr:=?_)
      exact jo [(7,6)]
     ·refine jm 1 (hr:=?_)
      exact jo [(7,5)]
    ·refine jm 1 (hr:=?_)
     refine jb fun r_71 h_72=>?_
     refine jr0 [cp 1 (spans_told_r_spec _ h_72) [(0,7),(1,8)] 9] (hr:=?_)
     exact jt (rr [(0,8)])
theorem cmp_Less_spec {K x_1 y_2}:FS Tryz.prog 229 0 [cI x_1,cI y_2] [] (cmp_Less K x_1 y_2) (fun r=>cB r) fun r=>[]:=by
 refine jfn (fn:=Tryz.f229) Tryz.func229 (jy (cmp_Less.eq_1 ..) ?_)
 refine jm 3 (hr:=?_)
 refine jb fun r_4 h_5=>?_
 refine js (fun b_6=>?_) fun b_6=>?_
 ·refine jb fun r_7 h_8=>?_
  refine js (fun b_9=>?_) fun b_9=>?_
  ·refine jr [cp 1 (cmp_isNaN_spec _ h_5) [] 0,cp 4 (cmp_isNaN_spec _ h_8) [] 0] [(7,true),(12,true)] [r_4=true,(!r_7)=true] (ap2 b_6 (ap1 b_9)) (hr:=?_)
   exact jt (rr [])
  ·refine jr [cp 1 (cmp_isNaN_spec _ h_5) [] 0,cp 4 (cmp_isNaN_spec _ h_8) [] 0] [(7,true),(12,false)] [r_4=true,(!r_7)=false] (ap2 b_6 (ap1 b_9)) (hr:=?_)
   exact jt (rr [])
 ·refine jr [cp 1 (cmp_isNaN_spec _ h_5) [] 0] [(7,false)] [r_4=false] (ap1 b_6) (hr:=?_)
  exact jt (rr [])
theorem slices_isNaN_spec {K x_1}:FS Tryz.prog 230 0 [cI x_1] [] (slices_isNaN K x_1) (fun r=>cB r) fun r=>[]:=by
 refine jfn (fn:=Tryz.f230) Tryz.func230 (jy (slices_isNaN.eq_1 ..) ?_)
 refine jm 4 (hr:=?_)
 exact jt (rr [])
theorem slices_BinarySearch_spec {K x_1 target_2}:FS Tryz.prog 171 0 [.c (.imm (.slice (.int .i64)) x_1),cI target_2] [] (slices_BinarySearch K x_1 target_2) (fun r=>.tup [(false,[.val (.int .i64 r.1)]),(false,[.val (.bool r.2)])]) fun r=>[]:=by
 refine jfn (fn:=Tryz.f171) Tryz.func171 (jy (slices_BinarySearch.eq_1 ..) ?_)
 refine jm 7 (hr:=?_)
 refine ja (Y:=Int) 0 (fun y_33=>[(0,.c (.imm (.slice (.int .i64)) x_1)),(1,cI target_2),(6,cI (lnI x_1)),(7,cI y_33)]) (fun y_33=>[]) (h1:=?_) (h2:=fun y_33=>?_)
 ·refine jm 1 (hr:=?_)
  refine jl (X:=(Int×Int)) (fun k x=>slices_BinarySearch.l0 K x_1 target_2 k x.1 x.2) K ((0:Int),(lnI x_1)) rfl 0 [] (fun x_7=>[(0,.c (.imm (.slice (.int .i64)) x_1)),(1,cI target_2),(6,cI (lnI x_1)),(7,cI x_7.1),(8,cI x_7.2)]) (fun x_7=>[]) (fun _=>rfl) (round:=fun k x_7=>jy (slices_BinarySearch.l0.eq_2 ..) ?_)
  refine jm 3 (hr:=?_)
  refine jc (h1:=fun b_9=>?_) (h2:=fun b_9=>?_)
  ·refine jn 5 [(0:Int)≤(1:Int)] (ap1 (by decide)) (hr:=?_)
   refine jb fun r_11 h_12=>?_
   refine jri [cp 5 (cmp_Less_spec _ h_12) [] 0] [] (hr:=fun c_13=>?_)
   refine jc (h1:=fun b_14=>?_) (h2:=fun b_14=>?_)
   ·refine jm 2 (hr:=?_)
    exact jx ((w6 ((w6 (Int.fdiv (IntKind.wrap .u64 (w6 (x_7.1+x_7.2))) (2:Int)))+(1:Int))),x_7.2) rfl []
   ·refine jm 2 (hr:=?_)
    exact jx (x_7.1,(w6 (Int.fdiv (IntKind.wrap .u64 (w6 (x_7.1+x_7.2))) (2:Int)))) rfl []
  ·refine jq 0 (ql (qh ?_))
   exact jo []
 ·refine jm 1 (hr:=?_)
  refine js (fun b_19=>?_) fun b_19=>?_
  ·refine js (fun b_20=>?_) fun b_20=>?_
   ·refine jp fun c_21=>?_
    refine jr [] [(35,true),(42,true)] [(decide (y_33<(lnI x_1)))=true,0≤y_33,y_33<(lnI x_1),((List.getD x_1 (Int.toNat y_33) (0:Int))==target_2)=true] (ap2 b_19 (ap2 c_21.1 (ap2 c_21.2 (ap1 b_20)))) (hr:=?_)
    exact jt (rr [])
   ·refine jb fun r_22 h_23=>?_
    refine js (fun b_24=>?_) fun b_24=>?_
    ·refine jb fun r_25 h_26=>?_
     refine jp fun c_27=>?_
     refine jr [cp 16 (slices_isNaN_spec _ h_23) [] 0,cp 19 (slices_isNaN_spec _ h_26) [] 0] [(35,true),(42,false),(48,true)] [(decide (y_33<(lnI x_1)))=true,0≤y_33,y_33<(lnI x_1),((List.getD x_1 (Int.toNat y_33) (0:Int))==target_2)=false,0≤y_33,y_33<(lnI x_1),r_22=true] (ap2 b_19 (ap2 c_27.1 (ap2 c_27.2 (ap2 b_20 (ap2 c_27.1 (ap2 c_27.2 (ap1 b_24))))))) (hr:=?_)
     exact jt (rr [])
    ·refine jp fun c_28=>?_
     refine jr [cp 16 (slices_isNaN_spec _ h_23) [] 0] [(35,true),(42,false),(48,false)] [(decide (y_33<(lnI x_1)))=true,0≤y_33,y_33<(lnI x_1),((List.getD x_1 (Int.toNat y_33) (0:Int))==target_2)=false,0≤y_33,y_33<(lnI x_1),r_22=false] (ap2 b_19 (ap2 c_28.1 (ap2 c_28.2 (ap2 b_20 (ap2 c_28.1 (ap2 c_28.2 (ap1 b_24))))))) (hr:=?_)
     exact jt (rr [])
  ·refine jr [] [(35,false)] [(decide (y_33<(lnI x_1)))=false] (ap1 b_19) (hr:=?_)
   exact jt (rr [])
def insRen:Go.Shelf.Ren:=⟨fun n=>match n with | 21=>172 | 27=>231 | 28=>232 | 35=>259 | 39=>275 | n=>n,fun n=>match n with | 0=>0 | 3=>3 | 4=>4 | 22=>41 | n=>n,fun n=>n⟩
theorem insLays:Lays2.n21 Tryz.prog insRen where
 mixed:=by kernel_rfl
 f21:=by kernel_rfl
 f27:=by kernel_rfl
 f28:=by kernel_rfl
 f35:=by kernel_rfl
 f39:=by kernel_rfl
 t0:=by kernel_rfl
 a0:=fun _=>by kernel_rfl
 z0:=fun _=>by kernel_rfl
 v0:=fun _=>by kernel_rfl
 t3:=by kernel_rfl
 a3:=fun _=>by kernel_rfl
 z3:=fun _=>by kernel_rfl
 v3:=fun _=>by kernel_rfl
 t4:=by kernel_rfl
 a4:=fun _=>by kernel_rfl
 z4:=fun _=>by kernel_rfl
 v4:=fun _=>by kernel_rfl
 t22:=by kernel_rfl
 a22:=fun _=>by kernel_rfl
 z22:=fun _=>by kernel_rfl
 v22:=fun _=>by kernel_rfl
 i3:=by kernel_rfl
theorem slices_Insert_rgr_spec {K s_1 i_2 v_3}:FS Tryz.prog 172 2 [.c (.h 0),.c (.val (.int .i64 i_2)),.c (.h 1)] [(0,.row (.int .i64) s_1),(1,.row (.int .i64) v_3)] (slices_Insert_rgr K s_1 i_2 v_3) (fun r=>.c (.h 2)) fun r=>[(2,.row (.int .i64) r)]:=by
 intro r H
 unfold slices_Insert_rgr at H
 obtain ⟨c_1,H⟩:=of_if H
 have e:=Option.some.inj H
 subst e
 exact Insert_spec insLays s_1 v_3 i_2 c_1.1 c_1.2.1 c_1.2.2.1 c_1.2.2.2
theorem breaks_Put_spec {K l_1 at_2}:FS Tryz.prog 111 0 [.c (.imm (.slice (.int .i64)) l_1),cI at_2] [] (breaks_Put K l_1 at_2) (fun r=>.tup [(false,[.h 0]),(false,[.val (.int .i64 r.2)])]) fun r=>[(0,.row (.int .i64) r.1)]:=by
 refine jfn (fn:=Tryz.f111) Tryz.func111 (jy (breaks_Put.eq_1 ..) ?_)
 refine jm 4 (hr:=?_)
 refine ja (Y:=Bool) 0 (fun y_31=>[(0,.c (.imm (.slice (.int .i64)) l_1)),(1,cI at_2),(19,cB y_31)]) (fun y_31=>[]) (h1:=?_) (h2:=fun y_31=>?_)
 ·refine jb fun r_4 h_5=>?_
  refine js (fun b_6=>?_) fun b_6=>?_
  ·refine jr [cp 1 (breaks_Is_spec _ h_5) [] 0] [(12,true)] [(!r_4)=true] (ap1 b_6) (hr:=?_)
   exact jo []
  ·refine js (fun b_8=>?_) fun b_8=>?_
   ·refine jr [cp 1 (breaks_Is_spec _ h_5) [] 0] [(12,false),(16,true)] [(!r_4)=false,(decide (at_2≤(0:Int)))=true] (ap2 b_6 (ap1 b_8)) (hr:=?_)
    exact jo []
   ·refine jr [cp 1 (breaks_Is_spec _ h_5) [] 0] [(12,false),(16,false)] [(!r_4)=false,(decide (at_2≤(0:Int)))=false] (ap2 b_6 (ap1 b_8)) (hr:=?_)
    exact jo []
 ·refine jc (h1:=fun b_12=>?_) (h2:=fun b_12=>?_)
  ·refine jm 2 (hr:=?_)
   refine jg [.nilSlot 4 (.int .i64)] ?_
   exact jt (rr [])
  ·refine jm 2 (hr:=?_)
   refine jb fun r_15 h_16=>?_
   refine jr0 [cp 2 (slices_BinarySearch_spec _ h_16) [] 0] (hr:=?_)
   refine ji 7 (hr:=fun c_18=>?_)
   refine jc (h1:=fun b_19=>?_) (h2:=fun b_19=>?_)
   ·refine jm 2 (hr:=?_)
    exact jt (rr [])
   ·refine jm 4 (hr:=?_)
    refine jc (h1:=fun b_22=>?_) (h2:=fun b_22=>?_)
    ·refine jm 2 (hr:=?_)
     refine jg [.nilSlot 4 (.int .i64)] ?_
     exact jt (rr [(0,1)])
    ·refine jm 2 (hr:=?_)
     refine jb fun r_25 h_26=>?_
     refine jr0 [cp 4 (slices_Insert_rgr_spec _ h_26) [(0,0),(1,1),(2,2)] 3] (hr:=?_)
     exact jt (rr [(0,2)])
theorem view_View_marks_bsggggnnngggg_1dfa8_spec {K v_1 v_2 v_3 v_4 v_5 v_6 v_7 v_8 v_9 a_10 a_11 a_12 a_13 a_14 a_15 a_16 a_17}:FS Tryz.prog 66 6 [.c (.h 0),.agg [.val (.int .i64 a_10),.val (.int .i64 a_11),.val (.int .i64 a_12),.val (.int .i64 a_13),.val (.slice none 0 0),.val (.slice none 0 0),.val (.slice none 0 0),.val (.string a_14),.val (.int .i64 a_15),.val (.int .i64 a_16),.val (.int .i64 a_17)]] [(0,.box [.h 1,.imm (.opt (.opt .node)) v_6,.imm (.slice kP) v_7,.imm (.slice kS) v_8,.imm (.slice (.int .i64)) v_9]),(1,.box [.imm (.slice (.pair .str (.pair (.int .i64) (.pair (.int .i64) (.pair (.int .i64) (.slice kP)))))) v_1,.h 2]),(2,.box [.h 3,.val (.int .i64 v_3),.h 4,.h 5]),(3,.sets v_2 none),(4,.map v_4),(5,.map v_5)] (view_View_marks_bsggggnnngggg_1dfa8 K v_1 v_2 v_3 v_4 v_5 v_6 v_7 v_8 v_9 a_10 a_11 a_12 a_13 a_14 a_15 a_16 a_17) (fun r=>cI r.1) fun r=>[(0,.box [.h 1,.imm (.opt (.opt .node)) v_6,.imm (.slice kP) r.2.2.2.2.2.2.1,.imm (.slice kS) r.2.2.2.2.2.2.2.1,.imm (.slice (.int .i64)) r.2.2.2.2.2.2.2.2]),(1,.box [.imm (.slice (.pair .str (.pair (.int .i64) (.pair (.int .i64) (.pair (.int .i64) (.slice kP)))))) r.2.1,.h 2]),(2,.box [.h 6,.val (.int .i64 r.2.2.2.1),.h 4,.h 5]),(4,.map r.2.2.2.2.1),(5,.map r.2.2.2.2.2.1),(6,.sets r.2.2.1 none)]:=by
 refine jfn (fn:=Tryz.f66) Tryz.func66 (jy (view_View_marks_bsggggnnngggg_1dfa8.eq_1 ..) ?_)
 refine jm 5 (hr:=?_)
 refine jb fun r_19 h_20=>?_
 refine jr0 [cp 1 (view_View_Text_b_bc99c_spec _ h_20) [(0,0),(1,1),(2,2),(3,3),(4,4),(5,5)] 7] (hr:=?_)
 refine jm 6 (hr:=?_)
 refine jc (h1:=fun b_23=>?_) (h2:=fun b_23=>?_)
 ·refine jm 1 (hr:=?_)
  refine jb fun r_25 h_26=>?_
  refine jw0 [cp 6 (engine_Engine_Forget_bn_1fea6_spec _ h_26) [(0,1),(1,2),(2,3),(3,4),(4,5),(5,7)] 8] (hr:=?_)
  exact jt (rr [(6,7)])
 ·refine jm 2 (hr:=?_)
  refine jc (h1:=fun b_29=>?_) (h2:=fun b_29=>?_)
  ·refine jb fun r_30 h_31=>?_
   refine jr0 [cp 4 (region_Make_ng_spec _ h_31) [] 7] (hr:=?_)
   refine jm 3 (hr:=?_)
   exact jt (rr [(6,3)])
  ·refine jm 2 (hr:=?_)
   refine jc (h1:=fun b_35=>?_) (h2:=fun b_35=>?_)
   ·refine jm 5 (hr:=?_)
    refine ja (Y:=Bool) 8 (fun y_91=>[(0,.c (.h 0)),(6,cS r_19),(7,.c (.h 7)),(67,cB y_91)]) (fun y_91=>[(0,.box [.h 1,.imm (.opt (.opt .node)) v_6,.imm (.slice kP) v_7,.imm (.slice kS) v_8,.imm (.slice (.int .i64)) v_9]),(1,.box [.imm (.slice (.pair .str (.pair (.int .i64) (.pair (.int .i64) (.pair (.int .i64) (.slice kP)))))) v_1,.h 2]),(2,.box [.h 3,.val (.int .i64 v_3),.h 4,.h 5]),(3,.sets v_2 none),(4,.map v_4),(5,.map v_5),(7,.box [.val (.int .i64 a_15),.val (.int .i64 a_16),.val (.int .i64 a_17)])]) (h1:=?_) (h2:=fun y_91=>?_)
    ·refine js (fun b_37=>?_) fun b_37=>?_
     ·refine jr [] [(71,true)] [(decide (a_15<(0:Int)))=true] (ap1 b_37) (hr:=?_)
      exact jo []
     ·refine js (fun b_39=>?_) fun b_39=>?_
      ·refine jr [] [(71,false),(78,true)] [(decide (a_15<(0:Int)))=false,(decide (a_15 > a_16))=true] (ap2 b_37 (ap1 b_39)) (hr:=?_)
       exact jo []
      ·refine jr [] [(71,false),(78,false)] [(decide (a_15<(0:Int)))=false,(decide (a_15 > a_16))=false] (ap2 b_37 (ap1 b_39)) (hr:=?_)
       exact jo []
    ·refine jc (h1:=fun b_43=>?_) (h2:=fun b_43=>?_)
     ·refine jm 2 (hr:=?_)
      exact jt (rr [(6,3)])
     ·refine jm 1 (hr:=?_)
      refine ja (Y:=Bool) 8 (fun y_92=>[(0,.c (.h 0)),(7,.c (.h 7)),(85,cB y_92)]) (fun y_92=>[(0,.box [.h 1,.imm (.opt (.opt .node)) v_6,.imm (.slice kP) v_7,.imm (.slice kS) v_8,.imm (.slice (.int .i64)) v_9]),(1,.box [.imm (.slice (.pair .str (.pair (.int .i64) (.pair (.int .i64) (.pair (.int .i64) (.slice kP)))))) v_1,.h 2]),(2,.box [.h 3,.val (.int .i64 v_3),.h 4,.h 5]),(3,.sets v_2 none),(4,.map v_4),(5,.map v_5),(7,.box [.val (.int .i64 a_15),.val (.int .i64 a_16),.val (.int .i64 a_17)])]) (h1:=?_) (h2:=fun y_92=>?_)
      ·refine jb fun r_46 h_47=>?_
       refine js (fun b_48=>?_) fun b_48=>?_
       ·refine jr [cp 3 (utf_IsEdge_spec _ h_47) [] 8] [(91,true)] [(!r_46)=true] (ap1 b_48) (hr:=?_)
        exact jo []
       ·refine jb fun r_50 h_51=>?_
        refine jr [cp 3 (utf_IsEdge_spec _ h_47) [] 8,cp 9 (utf_IsEdge_spec _ h_51) [] 8] [(91,false)] [(!r_46)=false] (ap1 b_48) (hr:=?_)
        exact jo []
      ·refine jc (h1:=fun b_54=>?_) (h2:=fun b_54=>?_)
       ·refine jm 2 (hr:=?_)
        exact jt (rr [(6,3)])
       ·refine jm 2 (hr:=?_)
        refine jb fun r_57 h_58=>?_
        refine jw0 [cp 6 (spans_Put_spec _ h_58) [(0,8)] 9] (hr:=?_)
        refine jm 3 (hr:=?_)
        refine jg [.shut 8] ?_
        exact jt (rr [(6,3)])
   ·refine jm 3 (hr:=?_)
    refine ja (Y:=Bool) 7 (fun y_93=>[(0,.c (.h 0)),(3,.c (.h 6)),(6,cS r_19),(12,cB y_93)]) (fun y_93=>[(0,.box [.h 1,.imm (.opt (.opt .node)) v_6,.imm (.slice kP) v_7,.imm (.slice kS) v_8,.imm (.slice (.int .i64)) v_9]),(1,.box [.imm (.slice (.pair .str (.pair (.int .i64) (.pair (.int .i64) (.pair (.int .i64) (.slice kP)))))) v_1,.h 2]),(2,.box [.h 3,.val (.int .i64 v_3),.h 4,.h 5]),(3,.sets v_2 none),(4,.map v_4),(5,.map v_5),(6,.box [.val (.int .i64 a_10),.val (.int .i64 a_11),.val (.int .i64 a_12),.val (.int .i64 a_13),.val (.slice none 0 0),.val (.slice none 0 0),.val (.slice none 0 0),.val (.string a_14),.val (.int .i64 a_15),.val (.int .i64 a_16),.val (.int .i64 a_17)])]) (h1:=?_) (h2:=fun y_93=>?_)
    ·refine js (fun b_62=>?_) fun b_62=>?_
     ·refine jr [] [(16,true)] [(decide (a_11≤(0:Int)))=true] (ap1 b_62) (hr:=?_)
      exact jo []
     ·refine jr [] [(16,false)] [(decide (a_11≤(0:Int)))=false] (ap1 b_62) (hr:=?_)
      exact jo []
    ·refine jc (h1:=fun b_66=>?_) (h2:=fun b_66=>?_)
     ·refine jm 2 (hr:=?_)
      exact jt (rr [(6,3)])
     ·refine jm 1 (hr:=?_)
      refine jb fun r_69 h_70=>?_
      refine jr0 [cp 3 (utf_IsEdge_spec _ h_70) [] 7] (hr:=?_)
      refine jc (h1:=fun b_72=>?_) (h2:=fun b_72=>?_)
      ·refine jm 2 (hr:=?_)
       exact jt (rr [(6,3)])
      ·refine jm 2 (hr:=?_)
       refine jb fun r_75 h_76=>?_
       refine jw0 [cp 7 (breaks_Put_spec _ h_76) [(0,7)] 8] (hr:=?_)
       refine jm 3 (hr:=?_)
       refine jg [.shut 7] ?_
       exact jt (rr [(6,3)])
theorem view_View_told_b_bc99c_spec {K v_1 v_2 v_3 v_4 v_5 v_6 v_7 v_8 v_9}:FS Tryz.prog 61 6 [.c (.h 0)] [(0,.box [.h 1,.imm (.opt (.opt .node)) v_6,.imm (.slice kP) v_7,.imm (.slice kS) v_8,.imm (.slice (.int .i64)) v_9]),(1,.box [.imm (.slice (.pair .str (.pair (.int .i64) (.pair (.int .i64) (.pair (.int .i64) (.slice kP)))))) v_1,.h 2]),(2,.box [.h 3,.val (.int .i64 v_3),.h 4,.h 5]),(3,.sets v_2 none),(4,.map v_4),(5,.map v_5)] (view_View_told_b_bc99c K v_1 v_2 v_3 v_4 v_5 v_6 v_7 v_8 v_9) (fun r=>.c (.h 0)) fun r=>[(0,.box [.h 1,.imm (.opt (.opt .node)) r,.imm (.slice kP) v_7,.imm (.slice kS) v_8,.imm (.slice (.int .i64)) v_9]),(1,.box [.imm (.slice (.pair .str (.pair (.int .i64) (.pair (.int .i64) (.pair (.int .i64) (.slice kP)))))) v_1,.h 2]),(2,.box [.h 3,.val (.int .i64 v_3),.h 4,.h 5]),(3,.sets v_2 none),(4,.map v_4),(5,.map v_5)]:=by
 refine jfn (fn:=Tryz.f61) Tryz.func61 (jy (view_View_told_b_bc99c.eq_1 ..) ?_)
 refine jm 3 (hr:=?_)
 refine jb fun r_11 h_12=>?_
 refine jb fun r_13 h_14=>?_
 refine jw0 [cp 5 (view_View_Head_b_bc99c_spec _ h_12) [(0,0),(1,1),(2,2),(3,3),(4,4),(5,5)] 6,cp 6 (engine_Engine_Text_bg_d34b6_spec _ h_14) [(0,1),(1,2),(2,3),(3,4),(4,5)] 6] (hr:=?_)
 refine jm 1 (hr:=?_)
 refine jb fun r_17 h_18=>?_
 refine jr0 [cp 2 (rope_New_spec _ h_18) [] 6] (hr:=?_)
 refine jm 2 (hr:=?_)
 exact jt (rr [])
theorem view_View_Do_bsggggnnngggg_1dfa8_spec {K v_1 v_2 v_3 v_4 v_5 v_6 v_7 v_8 v_9 a_10 a_11 a_12 a_13 a_14 a_15 a_16 a_17}:FS Tryz.prog 26 6 [.c (.h 0),.agg [.val (.int .i64 a_10),.val (.int .i64 a_11),.val (.int .i64 a_12),.val (.int .i64 a_13),.val (.slice none 0 0),.val (.slice none 0 0),.val (.slice none 0 0),.val (.string a_14),.val (.int .i64 a_15),.val (.int .i64 a_16),.val (.int .i64 a_17)]] [(0,.box [.h 1,.imm (.opt (.opt .node)) v_6,.imm (.slice kP) v_7,.imm (.slice kS) v_8,.imm (.slice (.int .i64)) v_9]),(1,.box [.imm (.slice (.pair .str (.pair (.int .i64) (.pair (.int .i64) (.pair (.int .i64) (.slice kP)))))) v_1,.h 2]),(2,.box [.h 3,.val (.int .i64 v_3),.h 4,.h 5]),(3,.sets v_2 none),(4,.map v_4),(5,.map v_5)] (view_View_Do_bsggggnnngggg_1dfa8 K v_1 v_2 v_3 v_4 v_5 v_6 v_7 v_8 v_9 a_10 a_11 a_12 a_13 a_14 a_15 a_16 a_17) (fun r=>.tup [(false,[.val (.int .i64 r.1)]),(false,[.val (.int .i64 r.2.1)])]) fun r=>[(0,.box [.h 6,.imm (.opt (.opt .node)) r.2.2.2.2.2.2.2.1,.imm (.slice kP) r.2.2.2.2.2.2.2.2.1,.imm (.slice kS) r.2.2.2.2.2.2.2.2.2.1,.imm (.slice (.int .i64)) r.2.2.2.2.2.2.2.2.2.2]),(6,.box [.imm (.slice (.pair .str (.pair (.int .i64) (.pair (.int .i64) (.pair (.int .i64) (.slice kP)))))) r.2.2.1,.h 7]),(7,.box [.h 8,.val (.int .i64 r.2.2.2.2.1),.h 9,.h 10]),(8,.sets r.2.2.2.1 none),(9,.map r.2.2.2.2.2.1),(10,.map r.2.2.2.2.2.2.1)]:=by
 refine jfn (fn:=Tryz.f26) Tryz.func26 (jy (view_View_Do_bsggggnnngggg_1dfa8.eq_1 ..) ?_)
 refine jm 4 (hr:=?_)
 refine ja (Y:=Bool) 7 (fun y_80=>[(0,.c (.h 0)),(3,.c (.h 6)),(15,cB y_80)]) (fun y_80=>[(0,.box [.h 1,.imm (.opt (.opt .node)) v_6,.imm (.slice kP) v_7,.imm (.slice kS) v_8,.imm (.slice (.int .i64)) v_9]),(1,.box [.imm (.slice (.pair .str (.pair (.int .i64) (.pair (.int .i64) (.pair (.int .i64) (.slice kP)))))) v_1,.h 2]),(2,.box [.h 3,.val (.int .i64 v_3),.h 4,.h 5]),(3,.sets v_2 none),(4,.map v_4),(5,.map v_5),(6,.box [.val (.int .i64 a_10),.val (.int .i64 a_11),.val (.int .i64 a_12),.val (.int .i64 a_13),.val (.slice none 0 0),.val (.slice none 0 0),.val (.slice none 0 0),.val (.string a_14),.val (.int .i64 a_15),.val (.int .i64 a_16),.val (.int .i64 a_17)])]) (h1:=?_) (h2:=fun y_80=>?_)
 ·refine js (fun b_19=>?_) fun b_19=>?_
  ·refine jr [] [(11,true)] [(decide (a_10<(1:Int)))=true] (ap1 b_19) (hr:=?_)
   exact jo []
  ·refine jr [] [(11,false)] [(decide (a_10<(1:Int)))=false] (ap1 b_19) (hr:=?_)
   exact jo []
 ·refine jc (h1:=fun b_23=>?_) (h2:=fun b_23=>?_)
  ·refine jm 2 (hr:=?_)
   exact jt (rr [(6,1),(7,2),(8,3),(9,4),(10,5)])
  ·refine jm 2 (hr:=?_)
   refine jb fun r_26 h_27=>?_
   refine jr0 [cp 1 (view_View_Copy_b_bc99c_spec _ h_27) [(0,0),(1,1),(2,2),(3,3),(4,4),(5,5),(6,7),(7,8),(8,9),(9,10),(10,11),(11,12)] 13] (hr:=?_)
   refine jm 4 (hr:=?_)
   refine jb fun r_30 h_31=>?_
   refine jwi [cp 0 (view_edits_spec _ h_31) [] 13] [] (hr:=fun c_32=>?_)
   refine ja (Y:=((List (ByteArray×(Int×(Int×(Int×(List (Int×Int)))))))×(List (List Int))×Int×(List Int)×(List Int)×(List (Int×Int))×(List (Int×(Int×Int)))×(List Int)×Int)) 21 (fun y_81=>[(0,.c (.h 0)),(6,.c (.h 7)),(7,cI y_81.2.2.2.2.2.2.2.2)]) (fun y_81=>[(0,.box [.h 1,.imm (.opt (.opt .node)) v_6,.imm (.slice kP) v_7,.imm (.slice kS) v_8,.imm (.slice (.int .i64)) v_9]),(1,.box [.imm (.slice (.pair .str (.pair (.int .i64) (.pair (.int .i64) (.pair (.int .i64) (.slice kP)))))) v_1,.h 2]),(2,.box [.h 3,.val (.int .i64 v_3),.h 4,.h 5]),(3,.sets v_2 none),(4,.map v_4),(5,.map v_5),(7,.box [.h 8,.imm (.opt (.opt .node)) v_6,.imm (.slice kP) y_81.2.2.2.2.2.1,.imm (.slice kS) y_81.2.2.2.2.2.2.1,.imm (.slice (.int .i64)) y_81.2.2.2.2.2.2.2.1]),(8,.box [.imm (.slice (.pair .str (.pair (.int .i64) (.pair (.int .i64) (.pair (.int .i64) (.slice kP)))))) y_81.1,.h 17]),(17,.box [.h 18,.val (.int .i64 y_81.2.2.1),.h 19,.h 20]),(18,.sets y_81.2.1 none),(19,.map y_81.2.2.2.1),(20,.map y_81.2.2.2.2.1)]) (h1:=?_) (h2:=fun y_81=>?_)
   ·refine jc (h1:=fun b_33=>?_) (h2:=fun b_33=>?_)
    ·refine jm 1 (hr:=?_)
     refine jb fun r_35 h_36=>?_
     refine jr0 [cp 2 (view_View_edits_bsggggnnngggg_1dfa8_spec _ h_36) [(0,7),(1,8),(2,9),(3,10),(4,11),(5,12),(6,13),(7,14),(8,15),(9,16)] 17] (hr:=?_)
     refine jm 2 (hr:=?_)
     refine jc (h1:=fun b_39=>?_) (h2:=fun b_39=>?_)
     ·refine jb fun r_40 h_41=>?_
      refine jr0 [cp 2 (view_View_follows_bb_9d9e7_spec _ h_41) [(0,7),(1,8),(2,13),(3,14),(4,15),(5,16),(6,0),(7,1),(8,2),(9,3),(10,4),(11,5)] 17] (hr:=?_)
      exact jo [(17,13),(18,14),(19,15),(20,16)]
     ·refine jm 1 (hr:=?_)
      exact jo [(17,13),(18,14),(19,15),(20,16)]
    ·refine jb fun r_44 h_45=>?_
     refine jr0 [cp 2 (view_View_marks_bsggggnnngggg_1dfa8_spec _ h_45) [(0,7),(1,8),(2,9),(3,10),(4,11),(5,12),(6,13)] 14] (hr:=?_)
     exact jo [(17,9),(18,13),(19,11),(20,12)]
   ·refine jm 3 (hr:=?_)
    refine jc (h1:=fun b_57=>?_) (h2:=fun b_57=>?_)
    ·refine jm 2 (hr:=?_)
     exact jt (rr [(6,1),(7,2),(8,3),(9,4),(10,5)])
    ·refine jm 2 (hr:=?_)
     refine jb fun r_60 h_61=>?_
     refine jr0 [cp 2 (view_View_told_b_bc99c_spec _ h_61) [(0,7),(1,8),(2,17),(3,18),(4,19),(5,20)] 21] (hr:=?_)
     refine jm 1 (hr:=?_)
     refine jb fun r_64 h_65=>?_
     refine jr0 [cp 1 (view_View_Head_b_bc99c_spec _ h_65) [(0,0),(1,8),(2,17),(3,18),(4,19),(5,20)] 21] (hr:=?_)
     exact jt (rr [(6,8),(7,17),(8,18),(9,19),(10,20)])
theorem view_View_edits_bsggggrnngggg_1d458_spec {K v_1 v_2 v_3 v_4 v_5 v_6 v_7 v_8 v_9 a_10 a_11 a_12 a_13 a_14 a_15 a_16 a_17 a_18}:FS Tryz.prog 64 7 [.c (.h 0),.agg [.val (.int .i64 a_10),.val (.int .i64 a_11),.val (.int .i64 a_12),.val (.int .i64 a_13),.h 6,.val (.slice none 0 0),.val (.slice none 0 0),.val (.string a_15),.val (.int .i64 a_16),.val (.int .i64 a_17),.val (.int .i64 a_18)]] [(0,.box [.h 1,.imm (.opt (.opt .node)) v_6,.imm (.slice kP) v_7,.imm (.slice kS) v_8,.imm (.slice (.int .i64)) v_9]),(1,.box [.imm (.slice (.pair .str (.pair (.int .i64) (.pair (.int .i64) (.pair (.int .i64) (.slice kP)))))) v_1,.h 2]),(2,.box [.h 3,.val (.int .i64 v_3),.h 4,.h 5]),(3,.sets v_2 none),(4,.map v_4),(5,.map v_5),(6,.row kE a_14)] (view_View_edits_bsggggrnngggg_1d458 K v_1 v_2 v_3 v_4 v_5 v_6 v_7 v_8 v_9 a_10 a_11 a_12 a_13 a_14 a_15 a_16 a_17 a_18) (fun r=>cI r.1) fun r=>[(0,.box [.h 1,.imm (.opt (.opt .node)) v_6,.imm (.slice kP) v_7,.imm (.slice kS) v_8,.imm (.slice (.int .i64)) v_9]),(1,.box [.imm (.slice (.pair .str (.pair (.int .i64) (.pair (.int .i64) (.pair (.int .i64) (.slice kP)))))) r.2.1,.h 7]),(6,.row kE a_14),(7,.box [.h 8,.val (.int .i64 v_3),.h 9,.h 10]),(8,.sets r.2.2.1 none),(9,.map r.2.2.2.1),(10,.map r.2.2.2.2)]:=by
 refine jfn (fn:=Tryz.f64) Tryz.func64 (jy (view_View_edits_bsggggrnngggg_1d458.eq_1 ..) ?_)
 refine jm 10 (hr:=?_)
 refine jc (h1:=fun b_20=>?_) (h2:=fun b_20=>?_)
 ·refine jb fun r_21 h_22=>?_
  refine jw0 [cp 12 (engine_Engine_Edit_bgggr_cda4c_spec _ h_22) [(0,1),(1,2),(2,3),(3,4),(4,5),(5,6),(6,8),(7,9),(8,10),(9,11)] 12] (hr:=?_)
  refine jm 3 (hr:=?_)
  exact jt (rr [(7,8),(8,9),(9,10),(10,11)])
 ·refine jm 2 (hr:=?_)
  refine jc (h1:=fun b_26=>?_) (h2:=fun b_26=>?_)
  ·refine jb fun r_27 h_28=>?_
   refine jw0 [cp 6 (engine_Engine_Toggle_bg_d34b6_spec _ h_28) [(0,1),(1,2),(2,3),(3,4),(4,5),(5,8),(6,9),(7,10),(8,11)] 12] (hr:=?_)
   refine jm 3 (hr:=?_)
   exact jt (rr [(7,8),(8,9),(9,10),(10,11)])
  ·refine jm 2 (hr:=?_)
   refine jc (h1:=fun b_32=>?_) (h2:=fun b_32=>?_)
   ·refine jb fun r_33 h_34=>?_
    refine jb fun r_35 h_36=>?_
    refine jb fun r_37 h_38=>?_
    refine jw0 [cp 5 (view_View_Head_b_bc99c_spec _ h_34) [(0,0),(1,1),(2,2),(3,3),(4,4),(5,5)] 8,cp 14 (carets_Type_spec _ h_36) [(0,8)] 9,cp 15 (engine_Engine_Edit_bgggr_cda4c_spec _ h_38) [(0,1),(1,2),(2,3),(3,4),(4,5),(5,8),(6,9),(7,10),(8,11),(9,12)] 13] (hr:=?_)
    refine jm 3 (hr:=?_)
    exact jt (rr [(7,9),(8,10),(9,11),(10,12)])
   ·refine jm 1 (hr:=?_)
    refine jb fun r_42 h_43=>?_
    refine jb fun r_44 h_45=>?_
    refine jw0 [cp 5 (view_View_Text_b_bc99c_spec _ h_43) [(0,0),(1,1),(2,2),(3,3),(4,4),(5,5)] 8,cp 6 (carets_Erase_spec _ h_45) [(0,8)] 9] (hr:=?_)
    refine jm 2 (hr:=?_)
    refine jc (h1:=fun b_48=>?_) (h2:=fun b_48=>?_)
    ·refine jb fun r_49 h_50=>?_
     refine jb fun r_51 h_52=>?_
     refine jw0 [cp 5 (view_View_Head_b_bc99c_spec _ h_50) [(0,0),(1,1),(2,2),(3,3),(4,4),(5,5)] 9,cp 9 (engine_Engine_Edit_bgggr_cda4c_spec _ h_52) [(0,1),(1,2),(2,3),(3,4),(4,5),(5,8),(6,9),(7,10),(8,11),(9,12)] 13] (hr:=?_)
     refine jm 3 (hr:=?_)
     exact jt (rr [(7,9),(8,10),(9,11),(10,12)])
    ·refine jm 4 (hr:=?_)
     exact jt (rr [(7,2),(8,3),(9,4),(10,5)])
theorem view_View_marks_bsggggrnngggg_1d458_spec {K v_1 v_2 v_3 v_4 v_5 v_6 v_7 v_8 v_9 a_10 a_11 a_12 a_13 a_14 a_15 a_16 a_17 a_18}:FS Tryz.prog 66 7 [.c (.h 0),.agg [.val (.int .i64 a_10),.val (.int .i64 a_11),.val (.int .i64 a_12),.val (.int .i64 a_13),.h 6,.val (.slice none 0 0),.val (.slice none 0 0),.val (.string a_15),.val (.int .i64 a_16),.val (.int .i64 a_17),.val (.int .i64 a_18)]] [(0,.box [.h 1,.imm (.opt (.opt .node)) v_6,.imm (.slice kP) v_7,.imm (.slice kS) v_8,.imm (.slice (.int .i64)) v_9]),(1,.box [.imm (.slice (.pair .str (.pair (.int .i64) (.pair (.int .i64) (.pair (.int .i64) (.slice kP)))))) v_1,.h 2]),(2,.box [.h 3,.val (.int .i64 v_3),.h 4,.h 5]),(3,.sets v_2 none),(4,.map v_4),(5,.map v_5),(6,.row kE a_14)] (view_View_marks_bsggggrnngggg_1d458 K v_1 v_2 v_3 v_4 v_5 v_6 v_7 v_8 v_9 a_10 a_11 a_12 a_13 a_14 a_15 a_16 a_17 a_18) (fun r=>cI r.1) fun r=>[(0,.box [.h 1,.imm (.opt (.opt .node)) v_6,.imm (.slice kP) r.2.2.2.2.2.2.1,.imm (.slice kS) r.2.2.2.2.2.2.2.1,.imm (.slice (.int .i64)) r.2.2.2.2.2.2.2.2]),(1,.box [.imm (.slice (.pair .str (.pair (.int .i64) (.pair (.int .i64) (.pair (.int .i64) (.slice kP)))))) r.2.1,.h 2]),(2,.box [.h 7,.val (.int .i64 r.2.2.2.1),.h 4,.h 5]),(4,.map r.2.2.2.2.1),(5,.map r.2.2.2.2.2.1),(6,.row kE a_14),(7,.sets r.2.2.1 none)]:=by
 refine jfn (fn:=Tryz.f66) Tryz.func66 (jy (view_View_marks_bsggggrnngggg_1d458.eq_1 ..) ?_)
 refine jm 5 (hr:=?_)
 refine jb fun r_20 h_21=>?_
 refine jr0 [cp 1 (view_View_Text_b_bc99c_spec _ h_21) [(0,0),(1,1),(2,2),(3,3),(4,4),(5,5)] 8] (hr:=?_)
 refine jm 6 (hr:=?_)
 refine jc (h1:=fun b_24=>?_) (h2:=fun b_24=>?_)
 ·refine jm 1 (hr:=?_)
  refine jb fun r_26 h_27=>?_
  refine jw0 [cp 6 (engine_Engine_Forget_bn_1fea6_spec _ h_27) [(0,1),(1,2),(2,3),(3,4),(4,5),(5,8)] 9] (hr:=?_)
  exact jt (rr [(7,8)])
 ·refine jm 2 (hr:=?_)
  refine jc (h1:=fun b_30=>?_) (h2:=fun b_30=>?_)
  ·refine jb fun r_31 h_32=>?_
   refine jr0 [cp 4 (region_Make_ng_spec _ h_32) [] 8] (hr:=?_)
   refine jm 3 (hr:=?_)
   exact jt (rr [(7,3)])
  ·refine jm 2 (hr:=?_)
   refine jc (h1:=fun b_36=>?_) (h2:=fun b_36=>?_)
   ·refine jm 5 (hr:=?_)
    refine ja (Y:=Bool) 9 (fun y_92=>[(0,.c (.h 0)),(6,cS r_20),(7,.c (.h 8)),(67,cB y_92)]) (fun y_92=>[(0,.box [.h 1,.imm (.opt (.opt .node)) v_6,.imm (.slice kP) v_7,.imm (.slice kS) v_8,.imm (.slice (.int .i64)) v_9]),(1,.box [.imm (.slice (.pair .str (.pair (.int .i64) (.pair (.int .i64) (.pair (.int .i64) (.slice kP)))))) v_1,.h 2]),(2,.box [.h 3,.val (.int .i64 v_3),.h 4,.h 5]),(3,.sets v_2 none),(4,.map v_4),(5,.map v_5),(6,.row kE a_14),(8,.box [.val (.int .i64 a_16),.val (.int .i64 a_17),.val (.int .i64 a_18)])]) (h1:=?_) (h2:=fun y_92=>?_)
    ·refine js (fun b_38=>?_) fun b_38=>?_
     ·refine jr [] [(71,true)] [(decide (a_16<(0:Int)))=true] (ap1 b_38) (hr:=?_)
      exact jo []
     ·refine js (fun b_40=>?_) fun b_40=>?_
      ·refine jr [] [(71,false),(78,true)] [(decide (a_16<(0:Int)))=false,(decide (a_16 > a_17))=true] (ap2 b_38 (ap1 b_40)) (hr:=?_)
       exact jo []
      ·refine jr [] [(71,false),(78,false)] [(decide (a_16<(0:Int)))=false,(decide (a_16 > a_17))=false] (ap2 b_38 (ap1 b_40)) (hr:=?_)
       exact jo []
    ·refine jc (h1:=fun b_44=>?_) (h2:=fun b_44=>?_)
     ·refine jm 2 (hr:=?_)
      exact jt (rr [(7,3)])
     ·refine jm 1 (hr:=?_)
      refine ja (Y:=Bool) 9 (fun y_93=>[(0,.c (.h 0)),(7,.c (.h 8)),(85,cB y_93)]) (fun y_93=>[(0,.box [.h 1,.imm (.opt (.opt .node)) v_6,.imm (.slice kP) v_7,.imm (.slice kS) v_8,.imm (.slice (.int .i64)) v_9]),(1,.box [.imm (.slice (.pair .str (.pair (.int .i64) (.pair (.int .i64) (.pair (.int .i64) (.slice kP)))))) v_1,.h 2]),(2,.box [.h 3,.val (.int .i64 v_3),.h 4,.h 5]),(3,.sets v_2 none),(4,.map v_4),(5,.map v_5),(6,.row kE a_14),(8,.box [.val (.int .i64 a_16),.val (.int .i64 a_17),.val (.int .i64 a_18)])]) (h1:=?_) (h2:=fun y_93=>?_)
      ·refine jb fun r_47 h_48=>?_
       refine js (fun b_49=>?_) fun b_49=>?_
       ·refine jr [cp 3 (utf_IsEdge_spec _ h_48) [] 9] [(91,true)] [(!r_47)=true] (ap1 b_49) (hr:=?_)
        exact jo []
       ·refine jb fun r_51 h_52=>?_
        refine jr [cp 3 (utf_IsEdge_spec _ h_48) [] 9,cp 9 (utf_IsEdge_spec _ h_52) [] 9] [(91,false)] [(!r_47)=false] (ap1 b_49) (hr:=?_)
        exact jo []
      ·refine jc (h1:=fun b_55=>?_) (h2:=fun b_55=>?_)
       ·refine jm 2 (hr:=?_)
        exact jt (rr [(7,3)])
       ·refine jm 2 (hr:=?_)
        refine jb fun r_58 h_59=>?_
        refine jw0 [cp 6 (spans_Put_spec _ h_59) [(0,9)] 10] (hr:=?_)
        refine jm 3 (hr:=?_)
        refine jg [.shut 9] ?_
        exact jt (rr [(7,3)])
   ·refine jm 3 (hr:=?_)
    refine ja (Y:=Bool) 8 (fun y_94=>[(0,.c (.h 0)),(3,.c (.h 7)),(6,cS r_20),(12,cB y_94)]) (fun y_94=>[(0,.box [.h 1,.imm (.opt (.opt .node)) v_6,.imm (.slice kP) v_7,.imm (.slice kS) v_8,.imm (.slice (.int .i64)) v_9]),(1,.box [.imm (.slice (.pair .str (.pair (.int .i64) (.pair (.int .i64) (.pair (.int .i64) (.slice kP)))))) v_1,.h 2]),(2,.box [.h 3,.val (.int .i64 v_3),.h 4,.h 5]),(3,.sets v_2 none),(4,.map v_4),(5,.map v_5),(6,.row kE a_14),(7,.box [.val (.int .i64 a_10),.val (.int .i64 a_11),.val (.int .i64 a_12),.val (.int .i64 a_13),.h 6,.val (.slice none 0 0),.val (.slice none 0 0),.val (.string a_15),.val (.int .i64 a_16),.val (.int .i64 a_17),.val (.int .i64 a_18)])]) (h1:=?_) (h2:=fun y_94=>?_)
    ·refine js (fun b_63=>?_) fun b_63=>?_
     ·refine jr [] [(16,true)] [(decide (a_11≤(0:Int)))=true] (ap1 b_63) (hr:=?_)
      exact jo []
     ·refine jr [] [(16,false)] [(decide (a_11≤(0:Int)))=false] (ap1 b_63) (hr:=?_)
      exact jo []
    ·refine jc (h1:=fun b_67=>?_) (h2:=fun b_67=>?_)
     ·refine jm 2 (hr:=?_)
      exact jt (rr [(7,3)])
     ·refine jm 1 (hr:=?_)
      refine jb fun r_70 h_71=>?_
      refine jr0 [cp 3 (utf_IsEdge_spec _ h_71) [] 8] (hr:=?_)
      refine jc (h1:=fun b_73=>?_) (h2:=fun b_73=>?_)
      ·refine jm 2 (hr:=?_)
       exact jt (rr [(7,3)])
      ·refine jm 2 (hr:=?_)
       refine jb fun r_76 h_77=>?_
       refine jw0 [cp 7 (breaks_Put_spec _ h_77) [(0,8)] 9] (hr:=?_)
       refine jm 3 (hr:=?_)
       refine jg [.shut 8] ?_
       exact jt (rr [(7,3)])
theorem view_View_Do_bsggggrnngggg_1d458_spec {K v_1 v_2 v_3 v_4 v_5 v_6 v_7 v_8 v_9 a_10 a_11 a_12 a_13 a_14 a_15 a_16 a_17 a_18}:FS Tryz.prog 26 7 [.c (.h 0),.agg [.val (.int .i64 a_10),.val (.int .i64 a_11),.val (.int .i64 a_12),.val (.int .i64 a_13),.h 6,.val (.slice none 0 0),.val (.slice none 0 0),.val (.string a_15),.val (.int .i64 a_16),.val (.int .i64 a_17),.val (.int .i64 a_18)]] [(0,.box [.h 1,.imm (.opt (.opt .node)) v_6,.imm (.slice kP) v_7,.imm (.slice kS) v_8,.imm (.slice (.int .i64)) v_9]),(1,.box [.imm (.slice (.pair .str (.pair (.int .i64) (.pair (.int .i64) (.pair (.int .i64) (.slice kP)))))) v_1,.h 2]),(2,.box [.h 3,.val (.int .i64 v_3),.h 4,.h 5]),(3,.sets v_2 none),(4,.map v_4),(5,.map v_5),(6,.row kE a_14)] (view_View_Do_bsggggrnngggg_1d458 K v_1 v_2 v_3 v_4 v_5 v_6 v_7 v_8 v_9 a_10 a_11 a_12 a_13 a_14 a_15 a_16 a_17 a_18) (fun r=>.tup [(false,[.val (.int .i64 r.1)]),(false,[.val (.int .i64 r.2.1)])]) fun r=>[(0,.box [.h 7,.imm (.opt (.opt .node)) r.2.2.2.2.2.2.2.1,.imm (.slice kP) r.2.2.2.2.2.2.2.2.1,.imm (.slice kS) r.2.2.2.2.2.2.2.2.2.1,.imm (.slice (.int .i64)) r.2.2.2.2.2.2.2.2.2.2]),(6,.row kE a_14),(7,.box [.imm (.slice (.pair .str (.pair (.int .i64) (.pair (.int .i64) (.pair (.int .i64) (.slice kP)))))) r.2.2.1,.h 8]),(8,.box [.h 9,.val (.int .i64 r.2.2.2.2.1),.h 10,.h 11]),(9,.sets r.2.2.2.1 none),(10,.map r.2.2.2.2.2.1),(11,.map r.2.2.2.2.2.2.1)]:=by
 refine jfn (fn:=Tryz.f26) Tryz.func26 (jy (view_View_Do_bsggggrnngggg_1d458.eq_1 ..) ?_)
 refine jm 4 (hr:=?_)
 refine ja (Y:=Bool) 8 (fun y_81=>[(0,.c (.h 0)),(3,.c (.h 7)),(15,cB y_81)]) (fun y_81=>[(0,.box [.h 1,.imm (.opt (.opt .node)) v_6,.imm (.slice kP) v_7,.imm (.slice kS) v_8,.imm (.slice (.int .i64)) v_9]),(1,.box [.imm (.slice (.pair .str (.pair (.int .i64) (.pair (.int .i64) (.pair (.int .i64) (.slice kP)))))) v_1,.h 2]),(2,.box [.h 3,.val (.int .i64 v_3),.h 4,.h 5]),(3,.sets v_2 none),(4,.map v_4),(5,.map v_5),(6,.row kE a_14),(7,.box [.val (.int .i64 a_10),.val (.int .i64 a_11),.val (.int .i64 a_12),.val (.int .i64 a_13),.h 6,.val (.slice none 0 0),.val (.slice none 0 0),.val (.string a_15),.val (.int .i64 a_16),.val (.int .i64 a_17),.val (.int .i64 a_18)])]) (h1:=?_) (h2:=fun y_81=>?_)
 ·refine js (fun b_20=>?_) fun b_20=>?_
  ·refine jr [] [(11,true)] [(decide (a_10<(1:Int)))=true] (ap1 b_20) (hr:=?_)
   exact jo []
  ·refine jr [] [(11,false)] [(decide (a_10<(1:Int)))=false] (ap1 b_20) (hr:=?_)
   exact jo []
 ·refine jc (h1:=fun b_24=>?_) (h2:=fun b_24=>?_)
  ·refine jm 2 (hr:=?_)
   exact jt (rr [(7,1),(8,2),(9,3),(10,4),(11,5)])
  ·refine jm 2 (hr:=?_)
   refine jb fun r_27 h_28=>?_
   refine jr0 [cp 1 (view_View_Copy_b_bc99c_spec _ h_28) [(0,0),(1,1),(2,2),(3,3),(4,4),(5,5),(6,8),(7,9),(8,10),(9,11),(10,12),(11,13)] 14] (hr:=?_)
   refine jm 4 (hr:=?_)
   refine jb fun r_31 h_32=>?_
   refine jwi [cp 0 (view_edits_spec _ h_32) [] 14] [] (hr:=fun c_33=>?_)
   refine ja (Y:=((List (ByteArray×(Int×(Int×(Int×(List (Int×Int)))))))×(List (List Int))×Int×(List Int)×(List Int)×(List (Int×Int))×(List (Int×(Int×Int)))×(List Int)×Int)) 22 (fun y_82=>[(0,.c (.h 0)),(6,.c (.h 8)),(7,cI y_82.2.2.2.2.2.2.2.2)]) (fun y_82=>[(0,.box [.h 1,.imm (.opt (.opt .node)) v_6,.imm (.slice kP) v_7,.imm (.slice kS) v_8,.imm (.slice (.int .i64)) v_9]),(1,.box [.imm (.slice (.pair .str (.pair (.int .i64) (.pair (.int .i64) (.pair (.int .i64) (.slice kP)))))) v_1,.h 2]),(2,.box [.h 3,.val (.int .i64 v_3),.h 4,.h 5]),(3,.sets v_2 none),(4,.map v_4),(5,.map v_5),(6,.row kE a_14),(8,.box [.h 9,.imm (.opt (.opt .node)) v_6,.imm (.slice kP) y_82.2.2.2.2.2.1,.imm (.slice kS) y_82.2.2.2.2.2.2.1,.imm (.slice (.int .i64)) y_82.2.2.2.2.2.2.2.1]),(9,.box [.imm (.slice (.pair .str (.pair (.int .i64) (.pair (.int .i64) (.pair (.int .i64) (.slice kP)))))) y_82.1,.h 18]),(18,.box [.h 19,.val (.int .i64 y_82.2.2.1),.h 20,.h 21]),(19,.sets y_82.2.1 none),(20,.map y_82.2.2.2.1),(21,.map y_82.2.2.2.2.1)]) (h1:=?_) (h2:=fun y_82=>?_)
   ·refine jc (h1:=fun b_34=>?_) (h2:=fun b_34=>?_)
    ·refine jm 1 (hr:=?_)
     refine jb fun r_36 h_37=>?_
     refine jr0 [cp 2 (view_View_edits_bsggggrnngggg_1d458_spec _ h_37) [(0,8),(1,9),(2,10),(3,11),(4,12),(5,13),(6,6),(7,14),(8,15),(9,16),(10,17)] 18] (hr:=?_)
     refine jm 2 (hr:=?_)
     refine jc (h1:=fun b_40=>?_) (h2:=fun b_40=>?_)
     ·refine jb fun r_41 h_42=>?_
      refine jr0 [cp 2 (view_View_follows_bb_9d9e7_spec _ h_42) [(0,8),(1,9),(2,14),(3,15),(4,16),(5,17),(6,0),(7,1),(8,2),(9,3),(10,4),(11,5)] 18] (hr:=?_)
      exact jo [(18,14),(19,15),(20,16),(21,17)]
     ·refine jm 1 (hr:=?_)
      exact jo [(18,14),(19,15),(20,16),(21,17)]
    ·refine jb fun r_45 h_46=>?_
     refine jr0 [cp 2 (view_View_marks_bsggggrnngggg_1d458_spec _ h_46) [(0,8),(1,9),(2,10),(3,11),(4,12),(5,13),(6,6),(7,14)] 15] (hr:=?_)
     exact jo [(18,10),(19,14),(20,12),(21,13)]
   ·refine jm 3 (hr:=?_)
    refine jc (h1:=fun b_58=>?_) (h2:=fun b_58=>?_)
    ·refine jm 2 (hr:=?_)
     exact jt (rr [(7,1),(8,2),(9,3),(10,4),(11,5)])
    ·refine jm 2 (hr:=?_)
     refine jb fun r_61 h_62=>?_
     refine jr0 [cp 2 (view_View_told_b_bc99c_spec _ h_62) [(0,8),(1,9),(2,18),(3,19),(4,20),(5,21)] 22] (hr:=?_)
     refine jm 1 (hr:=?_)
     refine jb fun r_65 h_66=>?_
     refine jr0 [cp 1 (view_View_Head_b_bc99c_spec _ h_66) [(0,0),(1,9),(2,18),(3,19),(4,20),(5,21)] 22] (hr:=?_)
     exact jt (rr [(7,9),(8,18),(9,19),(10,20),(11,21)])
theorem palinodetop_known_spec {K}:FS Tryz.prog 14 0 [] [] (palinodetop_known K) (fun r=>cB r) fun r=>[]:=by
 refine jfn (fn:=Tryz.f14) Tryz.func14 (jy (palinodetop_known.eq_1 ..) ?_)
 refine jm 3 (hr:=?_)
 refine jb fun r_2 h_3=>?_
 refine jr0 [cp 0 (view_New_spec _ h_3) [(0,0),(1,1),(2,2),(3,3),(4,4),(5,5)] 6] (hr:=?_)
 refine jm 6 (hr:=?_)
 refine jb fun r_6 h_7=>?_
 refine jr0 [cp 2 (view_View_Do_bsggggnnngggg_1dfa8_spec _ h_7) [(0,0),(1,1),(2,2),(3,3),(4,4),(5,5),(6,6),(7,7),(8,8),(9,9),(10,10)] 11] (hr:=?_)
 refine jm 1 (hr:=?_)
 refine jb fun r_10 h_11=>?_
 refine jr0 [cp 4 (view_View_Do_bsggggrnngggg_1d458_spec _ h_11) [(0,0),(1,6),(2,7),(3,8),(4,9),(5,10),(6,11),(7,12),(8,13),(9,14),(10,15),(11,16)] 17] (hr:=?_)
 refine jm 1 (hr:=?_)
 refine js (fun b_14=>?_) fun b_14=>?_
 ·refine js (fun b_15=>?_) fun b_15=>?_
  ·refine jb fun r_16 h_17=>?_
   refine js (fun b_18=>?_) fun b_18=>?_
   ·refine jb fun r_19 h_20=>?_
    refine jr [cp 8 (view_View_Text_b_bc99c_spec _ h_17) [(0,0),(1,12),(2,13),(3,14),(4,15),(5,16)] 17,cp 13 (view_View_Head_b_bc99c_spec _ h_20) [(0,0),(1,12),(2,13),(3,14),(4,15),(5,16)] 17] [(25,true),(29,true),(34,true)] [(r_6.2.1==(0:Int))=true,(r_10.2.1==(0:Int))=true,(ByteArray.toList r_16==ByteArray.toList (ByteArray.mk #[97,98,10,60]))=true] (ap2 b_14 (ap2 b_15 (ap1 b_18))) (hr:=?_)
    exact jt (rr [])
   ·refine jr [cp 8 (view_View_Text_b_bc99c_spec _ h_17) [(0,0),(1,12),(2,13),(3,14),(4,15),(5,16)] 17] [(25,true),(29,true),(34,false)] [(r_6.2.1==(0:Int))=true,(r_10.2.1==(0:Int))=true,(ByteArray.toList r_16==ByteArray.toList (ByteArray.mk #[97,98,10,60]))=false] (ap2 b_14 (ap2 b_15 (ap1 b_18))) (hr:=?_)
    exact jt (rr [])
  ·refine jr [] [(25,true),(29,false)] [(r_6.2.1==(0:Int))=true,(r_10.2.1==(0:Int))=false] (ap2 b_14 (ap1 b_15)) (hr:=?_)
   exact jt (rr [])
 ·refine jr [] [(25,false)] [(r_6.2.1==(0:Int))=false] (ap1 b_14) (hr:=?_)
  exact jt (rr [])
theorem palinodetop_now_b_0db29_spec {K e_1 e_2 e_3 e_4 e_5}:FS Tryz.prog 18 5 [.c (.h 0)] [(0,.box [.imm (.slice (.pair .str (.pair (.int .i64) (.pair (.int .i64) (.pair (.int .i64) (.slice kP)))))) e_1,.h 1]),(1,.box [.h 2,.val (.int .i64 e_3),.h 3,.h 4]),(2,.sets e_2 none),(3,.map e_4),(4,.map e_5)] (palinodetop_now_b_0db29 K e_1 e_2 e_3 e_4 e_5) (fun r=>cS r) fun r=>[(0,.box [.imm (.slice (.pair .str (.pair (.int .i64) (.pair (.int .i64) (.pair (.int .i64) (.slice kP)))))) e_1,.h 1]),(1,.box [.h 2,.val (.int .i64 e_3),.h 3,.h 4]),(2,.sets e_2 none),(3,.map e_4),(4,.map e_5)]:=by
 refine jfn (fn:=Tryz.f18) Tryz.func18 (jy (palinodetop_now_b_0db29.eq_1 ..) ?_)
 refine jm 3 (hr:=?_)
 refine jb fun r_7 h_8=>?_
 refine jb fun r_9 h_10=>?_
 refine jr0 [cp 2 (engine_Engine_Head_b_0db29_spec _ h_8) [(0,0),(1,1),(2,2),(3,3),(4,4)] 5,cp 3 (engine_Engine_Text_bg_d34b6_spec _ h_10) [(0,0),(1,1),(2,2),(3,3),(4,4)] 5] (hr:=?_)
 refine jm 2 (hr:=?_)
 exact jt (rr [])
theorem palinodetop_fewChanges_spec {K c_1}:FS Tryz.prog 47 0 [.c (.imm (.slice kE) c_1)] [] (palinodetop_fewChanges K c_1) (fun r=>cB r) fun r=>[]:=by
 refine jfn (fn:=Tryz.f47) Tryz.func47 (jy (palinodetop_fewChanges.eq_1 ..) ?_)
 refine jm 6 (hr:=?_)
 refine jl (X:=Int) (fun k x=>palinodetop_fewChanges.l0 K c_1 k x) K _ rfl 0 [] (fun x_4=>[(0,.c (.imm (.slice kE) c_1)),(3,cI x_4)]) (fun x_4=>[]) (fun _=>rfl) (round:=fun k x_4=>jy (palinodetop_fewChanges.l0.eq_2 ..) ?_)
 refine jm 3 (hr:=?_)
 refine jc (h1:=fun b_6=>?_) (h2:=fun b_6=>?_)
 ·refine ji 5 (hr:=fun c_7=>?_)
  refine jc (h1:=fun b_8=>?_) (h2:=fun b_8=>?_)
  ·refine jm 2 (hr:=?_)
   exact jt (rl (rr []))
  ·refine jm 3 (hr:=?_)
   exact jx _ rfl []
 ·refine jq 0 (ql (qh ?_))
  refine jm 2 (hr:=?_)
  exact jt (rr [])
theorem palinodetop_fewSteps_spec {K l_1}:FS Tryz.prog 20 0 [.c (.imm (.slice (.pair (.int .i64) (.pair (.int .i64) (.pair (.int .i64) (.pair (.int .i64) (.pair (.slice kE) (.slice (.int .i64)))))))) l_1)] [] (palinodetop_fewSteps K l_1) (fun r=>cB r) fun r=>[]:=by
 refine jfn (fn:=Tryz.f20) Tryz.func20 (jy (palinodetop_fewSteps.eq_1 ..) ?_)
 refine jm 6 (hr:=?_)
 refine jl (X:=Int) (fun k x=>palinodetop_fewSteps.l0 K l_1 k x) K _ rfl 0 [] (fun x_4=>[(0,.c (.imm (.slice (.pair (.int .i64) (.pair (.int .i64) (.pair (.int .i64) (.pair (.int .i64) (.pair (.slice kE) (.slice (.int .i64)))))))) l_1)),(3,cI x_4)]) (fun x_4=>[]) (fun _=>rfl) (round:=fun k x_4=>jy (palinodetop_fewSteps.l0.eq_2 ..) ?_)
 refine jm 3 (hr:=?_)
 refine jc (h1:=fun b_6=>?_) (h2:=fun b_6=>?_)
 ·refine jm 4 (hr:=?_)
  refine ja (Y:=Bool) 0 (fun y_21=>[(0,.c (.imm (.slice (.pair (.int .i64) (.pair (.int .i64) (.pair (.int .i64) (.pair (.int .i64) (.pair (.slice kE) (.slice (.int .i64)))))))) l_1)),(3,cI x_4),(25,cB y_21)]) (fun y_21=>[]) (h1:=?_) (h2:=fun y_21=>?_)
  ·refine jb fun r_8 h_9=>?_
   refine js (fun b_10=>?_) fun b_10=>?_
   ·refine jp fun c_11=>?_
    refine jr [cp 5 (palinodetop_fewChanges_spec _ h_9) [] 0] [(17,true)] [0≤x_4,x_4<(lnI l_1),(!r_8)=true] (ap2 c_11.1 (ap2 c_11.2 (ap1 b_10))) (hr:=?_)
    exact jo []
   ·refine jp fun c_12=>?_
    refine jr [cp 5 (palinodetop_fewChanges_spec _ h_9) [] 0] [(17,false)] [0≤x_4,x_4<(lnI l_1),(!r_8)=false,0≤x_4,x_4<(lnI l_1)] (ap2 c_12.1 (ap2 c_12.2 (ap2 b_10 (ap2 c_12.1 (ap1 c_12.2))))) (hr:=?_)
    exact jo []
  ·refine jc (h1:=fun b_14=>?_) (h2:=fun b_14=>?_)
   ·refine jm 2 (hr:=?_)
    exact jt (rl (rr []))
   ·refine jm 3 (hr:=?_)
    exact jx _ rfl []
 ·refine jq 0 (ql (qh ?_))
  refine jm 2 (hr:=?_)
  exact jt (rr [])
theorem edit_first_ggceditCheck2_bee87_spec {K l_1 e_2 wrong_3}:FS Tryz.prog 87 1 [.c (.imm (.slice kE) l_1),cI e_2,.c (.clo 88 [0])] [(0,.box [.val (.string wrong_3)])] (edit_first_ngceditCheck2_618ba K l_1 e_2 wrong_3) (fun r=>cI r) fun r=>[(0,.box [.val (.string wrong_3)])]:=by
 refine jfn (fn:=Tryz.f87) Tryz.func87 (jy (edit_first_ngceditCheck2_618ba.eq_1 ..) ?_)
 refine jm 6 (hr:=?_)
 refine jl (X:=Int) (fun k x=>edit_first_ngceditCheck2_618ba.l0 K l_1 wrong_3 e_2 k x) K _ rfl 1 [] (fun x_6=>[(1,cI e_2),(2,.c (.clo 88 [0])),(9,.c (.imm (.slice kE) l_1)),(10,cI (lnI l_1)),(11,cI x_6)]) (fun x_6=>[(0,.box [.val (.string wrong_3)])]) (fun _=>rfl) (round:=fun k x_6=>jy (edit_first_ngceditCheck2_618ba.l0.eq_2 ..) ?_)
 refine jm 3 (hr:=?_)
 refine jc (h1:=fun b_8=>?_) (h2:=fun b_8=>?_)
 ·refine ji 6 (hr:=fun c_9=>?_)
  refine jb fun r_10 h_11=>?_
  refine jr0 [cp 2 (edit_Check_2_sgggb_cdd28_spec _ h_11) [(0,0)] 2] (hr:=?_)
  refine jc (h1:=fun b_13=>?_) (h2:=fun b_13=>?_)
  ·refine jm 2 (hr:=?_)
   exact jt (rl (rr []))
  ·refine jm 3 (hr:=?_)
   exact jx _ rfl []
 ·refine jq 0 (ql (qh ?_))
  refine jm 2 (hr:=?_)
  exact jt (rr [])
theorem edit_first_ggceditCheck3_2de63_spec {K l_1 e_2 wrong_3}:FS Tryz.prog 87 2 [.c (.imm (.slice kE) l_1),cI e_2,.c (.clo 89 [0])] [(0,.box [.clo 85 [1]]),(1,.box [.val (.string wrong_3)])] (edit_first_ngceditCheck3_a8d5c K l_1 e_2 wrong_3) (fun r=>cI r) fun r=>[(0,.box [.clo 85 [1]]),(1,.box [.val (.string wrong_3)])]:=by
 refine jfn (fn:=Tryz.f87) Tryz.func87 (jy (edit_first_ngceditCheck3_a8d5c.eq_1 ..) ?_)
 refine jm 6 (hr:=?_)
 refine jl (X:=Int) (fun k x=>edit_first_ngceditCheck3_a8d5c.l0 K l_1 wrong_3 e_2 k x) K _ rfl 2 [] (fun x_6=>[(1,cI e_2),(2,.c (.clo 89 [0])),(9,.c (.imm (.slice kE) l_1)),(10,cI (lnI l_1)),(11,cI x_6)]) (fun x_6=>[(0,.box [.clo 85 [1]]),(1,.box [.val (.string wrong_3)])]) (fun _=>rfl) (round:=fun k x_6=>jy (edit_first_ngceditCheck3_a8d5c.l0.eq_2 ..) ?_)
 refine jm 3 (hr:=?_)
 refine jc (h1:=fun b_8=>?_) (h2:=fun b_8=>?_)
 ·refine ji 6 (hr:=fun c_9=>?_)
  refine jb fun r_10 h_11=>?_
  refine jr0 [cp 2 (edit_Check_3_sgggb_91e54_spec _ h_11) [(0,0),(1,1)] 3] (hr:=?_)
  refine jc (h1:=fun b_13=>?_) (h2:=fun b_13=>?_)
  ·refine jm 2 (hr:=?_)
   exact jt (rl (rr []))
  ·refine jm 3 (hr:=?_)
   exact jx _ rfl []
 ·refine jq 0 (ql (qh ?_))
  refine jm 2 (hr:=?_)
  exact jt (rr [])
theorem edit_order_spec {K l_1}:FS Tryz.prog 90 0 [.c (.imm (.slice kE) l_1)] [] (edit_order_n K l_1) (fun r=>cI r) fun r=>[]:=by
 refine jfn (fn:=Tryz.f90) Tryz.func90 (jy (edit_order_n.eq_1 ..) ?_)
 refine jm 6 (hr:=?_)
 refine jl (X:=Int) (fun k x=>edit_order_n.l0 K l_1 k x) K _ rfl 0 [] (fun x_4=>[(0,.c (.imm (.slice kE) l_1)),(3,cI x_4)]) (fun x_4=>[]) (fun _=>rfl) (round:=fun k x_4=>jy (edit_order_n.l0.eq_2 ..) ?_)
 refine jm 3 (hr:=?_)
 refine jc (h1:=fun b_6=>?_) (h2:=fun b_6=>?_)
 ·refine jm 4 (hr:=?_)
  refine jp fun c_8=>?_
  refine jw [] [] [0≤(w6 (x_4 - (1:Int))),(w6 (x_4 - (1:Int)))<(lnI l_1),0≤(w6 (x_4 - (1:Int))),(w6 (x_4 - (1:Int)))<(lnI l_1),0≤(w6 (x_4 - (1:Int))),(w6 (x_4 - (1:Int)))<(lnI l_1),0≤(w6 (x_4 - (1:Int))),(w6 (x_4 - (1:Int)))<(lnI l_1),0≤x_4,x_4<(lnI l_1),0≤x_4,x_4<(lnI l_1),0≤x_4,x_4<(lnI l_1),0≤x_4,x_4<(lnI l_1),0≤x_4,x_4<(lnI l_1)] (ap2 c_8.1 (ap2 c_8.2.1 (ap2 c_8.1 (ap2 c_8.2.1 (ap2 c_8.1 (ap2 c_8.2.1 (ap2 c_8.1 (ap2 c_8.2.1 (ap2 c_8.2.2.1 (ap2 c_8.2.2.2 (ap2 c_8.2.2.1 (ap2 c_8.2.2.2 (ap2 c_8.2.2.1 (ap2 c_8.2.2.2 (ap2 c_8.2.2.1 (ap2 c_8.2.2.2 (ap2 c_8.2.2.1 (ap1 c_8.2.2.2)))))))))))))))))) (hr:=?_)
  refine jm 1 (hr:=?_)
  refine ja (Y:=Bool) 2 (fun y_23=>[(0,.c (.imm (.slice kE) l_1)),(3,cI x_4),(39,cB y_23)]) (fun y_23=>[]) (h1:=?_) (h2:=fun y_23=>?_)
  ·refine js (fun b_10=>?_) fun b_10=>?_
   ·refine jr [] [(26,true)] [(decide ((List.getD l_1 (Int.toNat x_4) zE).1<(List.getD l_1 (Int.toNat (w6 (x_4 - (1:Int)))) zE).2.1))=true] (ap1 b_10) (hr:=?_)
    exact jo []
   ·refine js (fun b_12=>?_) fun b_12=>?_
    ·refine jr [] [(26,false),(32,true)] [(decide ((List.getD l_1 (Int.toNat x_4) zE).1<(List.getD l_1 (Int.toNat (w6 (x_4 - (1:Int)))) zE).2.1))=false,((List.getD l_1 (Int.toNat (w6 (x_4 - (1:Int)))) zE).1==(List.getD l_1 (Int.toNat x_4) zE).1)=true] (ap2 b_10 (ap1 b_12)) (hr:=?_)
     exact jo []
    ·refine jr [] [(26,false),(32,false)] [(decide ((List.getD l_1 (Int.toNat x_4) zE).1<(List.getD l_1 (Int.toNat (w6 (x_4 - (1:Int)))) zE).2.1))=false,((List.getD l_1 (Int.toNat (w6 (x_4 - (1:Int)))) zE).1==(List.getD l_1 (Int.toNat x_4) zE).1)=false] (ap2 b_10 (ap1 b_12)) (hr:=?_)
     exact jo []
  ·refine jc (h1:=fun b_16=>?_) (h2:=fun b_16=>?_)
   ·refine jm 2 (hr:=?_)
    exact jt (rl (rr []))
   ·refine jm 3 (hr:=?_)
    exact jx _ rfl []
 ·refine jq 0 (ql (qh ?_))
  refine jm 2 (hr:=?_)
  exact jt (rr [])
theorem edit_first_ggceditCheck4_spec {K l_1 e_2}:FS Tryz.prog 87 0 [.c (.imm (.slice kE) l_1),cI e_2,.c (.clo 91 [])] [] (edit_first_ngceditCheck4 K l_1 e_2) (fun r=>cI r) fun r=>[]:=by
 refine jfn (fn:=Tryz.f87) Tryz.func87 (jy (edit_first_ngceditCheck4.eq_1 ..) ?_)
 refine jm 6 (hr:=?_)
 refine jl (X:=Int) (fun k x=>edit_first_ngceditCheck4.l0 K l_1 e_2 k x) K _ rfl 0 [] (fun x_5=>[(1,cI e_2),(2,.c (.clo 91 [])),(9,.c (.imm (.slice kE) l_1)),(10,cI (lnI l_1)),(11,cI x_5)]) (fun x_5=>[]) (fun _=>rfl) (round:=fun k x_5=>jy (edit_first_ngceditCheck4.l0.eq_2 ..) ?_)
 refine jm 3 (hr:=?_)
 refine jc (h1:=fun b_7=>?_) (h2:=fun b_7=>?_)
 ·refine ji 6 (hr:=fun c_8=>?_)
  refine jb fun r_9 h_10=>?_
  refine jr0 [cp 2 (edit_Check_4_spec _ h_10) [] 1] (hr:=?_)
  refine jc (h1:=fun b_12=>?_) (h2:=fun b_12=>?_)
  ·refine jm 2 (hr:=?_)
   exact jt (rl (rr []))
  ·refine jm 3 (hr:=?_)
   exact jx _ rfl []
 ·refine jq 0 (ql (qh ?_))
  refine jm 2 (hr:=?_)
  exact jt (rr [])
theorem edit_long_spec {K s_1 l_2}:FS Tryz.prog 92 0 [cS s_1,.c (.imm (.slice kE) l_2)] [] (edit_long_gn K s_1 l_2) (fun r=>cI r) fun r=>[]:=by
 refine jfn (fn:=Tryz.f92) Tryz.func92 (jy (edit_long_gn.eq_1 ..) ?_)
 refine jm 7 (hr:=?_)
 refine ja (Y:=Int) 0 (fun y_33=>[(1,.c (.imm (.slice kE) l_2)),(5,cI y_33)]) (fun y_33=>[]) (h1:=?_) (h2:=fun y_33=>?_)
 ·refine jm 1 (hr:=?_)
  refine jl (X:=(Int×Int)) (fun k x=>edit_long_gn.l0 K l_2 s_1 k x.1 x.2) K ((w6 ((20000:Int) - (((ByteArray.size s_1):Nat):Int))),(0:Int)) rfl 0 [] (fun x_7=>[(0,cS s_1),(1,.c (.imm (.slice kE) l_2)),(5,cI x_7.1),(13,.c (.imm (.slice kE) l_2)),(14,cI (lnI l_2)),(15,cI x_7.2)]) (fun x_7=>[]) (fun _=>rfl) (round:=fun k x_7=>jy (edit_long_gn.l0.eq_2 ..) ?_)
  refine jm 3 (hr:=?_)
  refine jc (h1:=fun b_9=>?_) (h2:=fun b_9=>?_)
  ·refine ji 6 (hr:=fun c_10=>?_)
   refine jm 2 (hr:=?_)
   exact jx ((w6 (x_7.1+(mn2 (mx2 (w6 ((List.getD l_2 (Int.toNat x_7.2) zE).2.1 - (List.getD l_2 (Int.toNat x_7.2) zE).1)) (0:Int)) (((ByteArray.size s_1):Nat):Int)))),(w6 (x_7.2+(1:Int)))) rfl []
  ·refine jq 0 (ql (qh ?_))
   exact jo []
 ·refine jm 3 (hr:=?_)
  refine ja2 (Y:=Int) 0 (fun y_34=>[(5,cI y_34)]) (fun y_34=>[]) (h1:=?_) (h2:=fun y_34=>?_)
  ·refine jm 1 (hr:=?_)
   refine jl (X:=(Int×Int)) (fun k x=>edit_long_gn.l1 K l_2 k x.1 x.2) K (y_33,(0:Int)) rfl 0 [] (fun x_17=>[(5,cI x_17.1),(31,.c (.imm (.slice kE) l_2)),(32,cI (lnI l_2)),(33,cI x_17.2)]) (fun x_17=>[]) (fun _=>rfl) (round:=fun k x_17=>jy (edit_long_gn.l1.eq_2 ..) ?_)
   refine jm 3 (hr:=?_)
   refine jc (h1:=fun b_19=>?_) (h2:=fun b_19=>?_)
   ·refine ji 8 (hr:=fun c_20=>?_)
    refine jc (h1:=fun b_21=>?_) (h2:=fun b_21=>?_)
    ·refine jm 2 (hr:=?_)
     exact jt (rl (rc (rr [])))
    ·refine jm 4 (hr:=?_)
     exact jx ((w6 (x_17.1 - (((ByteArray.size (List.getD l_2 (Int.toNat x_17.2) zE).2.2):Nat):Int))),(w6 (x_17.2+(1:Int)))) rfl []
   ·refine jq 2 (ql (qh ?_))
    exact jo []
  ·refine jm 3 (hr:=?_)
   refine jc (h1:=fun b_26=>?_) (h2:=fun b_26=>?_)
   ·refine jm 2 (hr:=?_)
    exact jt (rr [])
   ·refine jm 3 (hr:=?_)
    exact jt (rr [])
theorem edit_Check_spec {K s_1 l_2}:FS Tryz.prog 52 0 [cS s_1,.c (.imm (.slice kE) l_2)] [] (edit_Check_gn K s_1 l_2) (fun r=>cI r) fun r=>[]:=by
 refine jfn (fn:=Tryz.f52) Tryz.func52 (jy (edit_Check_gn.eq_1 ..) ?_)
 refine jm 5 (hr:=?_)
 refine jb fun r_4 h_5=>?_
 refine jr0 [cp 1 (utf_Valid_spec _ h_5) [] 1] (hr:=?_)
 refine jc (h1:=fun b_7=>?_) (h2:=fun b_7=>?_)
 ·refine jm 2 (hr:=?_)
  exact jt (rr [])
 ·refine jm 2 (hr:=?_)
  refine jc (h1:=fun b_10=>?_) (h2:=fun b_10=>?_)
  ·refine jm 2 (hr:=?_)
   exact jt (rr [])
  ·refine jm 6 (hr:=?_)
   refine jb fun r_13 h_14=>?_
   refine jb fun r_15 h_16=>?_
   refine jb fun r_17 h_18=>?_
   refine jb fun r_19 h_20=>?_
   refine jb fun r_21 h_22=>?_
   refine jw0 [cp 2 (edit_first_ggceditCheck2_bee87_spec _ h_14) [(0,0)] 2,cp 5 (edit_first_ggceditCheck3_2de63_spec _ h_16) [(0,1),(1,0)] 2,cp 7 (edit_order_spec _ h_18) [] 2,cp 9 (edit_first_ggceditCheck4_spec _ h_20) [] 2,cp 12 (edit_long_spec _ h_22) [] 2] (hr:=?_)
   refine jm 1 (hr:=?_)
   refine jl (X:=Int) (fun k x=>edit_Check_gn.l0 K r_13 r_15 r_17 r_19 r_21 k x) K _ rfl 3 [] (fun x_26=>[(30,.c (.h 2)),(31,cI (lnI ([r_13,r_15,r_17,r_19,r_21]:List Int))),(32,cI x_26)]) (fun x_26=>[(2,.row (.int .i64) ([r_13,r_15,r_17,r_19,r_21]:List Int))]) (fun _=>rfl) (round:=fun k x_26=>jy (edit_Check_gn.l0.eq_2 ..) ?_)
   refine jm 3 (hr:=?_)
   refine jc (h1:=fun b_28=>?_) (h2:=fun b_28=>?_)
   ·refine ji 7 (hr:=fun c_29=>?_)
    refine jc (h1:=fun b_30=>?_) (h2:=fun b_30=>?_)
    ·refine jm 2 (hr:=?_)
     exact jt (rl (rr []))
    ·refine jm 3 (hr:=?_)
     exact jx _ rfl []
   ·refine jq 1 (ql (qh ?_))
    refine jm 2 (hr:=?_)
    exact jt (rr [])
theorem edit_Spots_ggrgg_spec {K l_1 rev_2 undone_3 c_4 rank_5}:FS Tryz.prog 94 1 [.c (.imm (.slice (.pair .str (.pair (.int .i64) (.pair (.int .i64) (.pair (.int .i64) (.slice kP)))))) l_1),cI rev_2,.c (.h 0),.c (.imm (.slice kE) c_4),cI rank_5] [(0,.row (.int .i64) undone_3)] (edit_Spots_ggrng K l_1 rev_2 undone_3 c_4 rank_5) (fun r=>.c (.h 1)) fun r=>[(0,.row (.int .i64) undone_3),(1,.row (.int .i64) r)]:=by
 refine jfn (fn:=Tryz.f94) Tryz.func94 (jy (edit_Spots_ggrng.eq_1 ..) ?_)
 refine jm 4 (hr:=?_)
 refine jb fun r_7 h_8=>?_
 refine jb fun r_9 h_10=>?_
 refine jr0 [cp 3 (atom_Text_ggr_spec _ h_8) [(0,0)] 1,cp 5 (edit_Check_spec _ h_10) [] 1] (hr:=?_)
 refine jc (h1:=fun b_12=>?_) (h2:=fun b_12=>?_)
 ·refine jm 2 (hr:=?_)
  refine jg [.nilSlot 10 (.int .i64)] ?_
  exact jt (rr [])
 ·refine jm 2 (hr:=?_)
  refine jb fun r_15 h_16=>?_
  refine jr0 [cp 3 (atom_Places_ggr_spec _ h_16) [(0,0),(1,1)] 2] (hr:=?_)
  refine jm 6 (hr:=?_)
  refine jg [.nilSlot 12 (.int .i64)] ?_
  refine jl (X:=((List Int)×Int)) (fun k x=>edit_Spots_ggrng.l0 K c_4 l_1 r_15 rev_2 undone_3 rank_5 k x.1 x.2) K (([]:List Int),(0:Int)) rfl 7 [(6,2)] (fun x_30=>[(0,.c (.imm (.slice (.pair .str (.pair (.int .i64) (.pair (.int .i64) (.pair (.int .i64) (.slice kP)))))) l_1)),(1,cI rev_2),(2,.c (.h 0)),(4,cI rank_5),(11,.c (.h 1)),(12,.c (.h 6)),(26,.c (.imm (.slice kE) c_4)),(27,cI (lnI c_4)),(28,cI x_30.2)]) (fun x_30=>[(0,.row (.int .i64) undone_3),(1,.row (.int .i64) r_15),(6,.row (.int .i64) x_30.1)]) (fun _=>rfl) (round:=fun k x_30=>jy (edit_Spots_ggrng.l0.eq_2 ..) ?_)
  refine jm 3 (hr:=?_)
  refine jc (h1:=fun b_32=>?_) (h2:=fun b_32=>?_)
  ·refine ji 5 (hr:=fun c_33=>?_)
   refine jb fun r_34 h_35=>?_
   refine jri [cp 8 (edit_spot_grgrgg_spec _ h_35) [(0,1),(1,0)] 8] [] (hr:=fun c_36=>?_)
   refine jm 2 (hr:=?_)
   exact jx ((x_30.1++([r_34]:List Int)),(w6 (x_30.2+(1:Int)))) rfl [(6,9)]
  ·refine jq 0 (ql (qh ?_))
   refine jm 2 (hr:=?_)
   exact jt (rr [(1,6)])
theorem edit_Cuts_ggrg_spec {K l_1 rev_2 undone_3 c_4}:FS Tryz.prog 95 1 [.c (.imm (.slice (.pair .str (.pair (.int .i64) (.pair (.int .i64) (.pair (.int .i64) (.slice kP)))))) l_1),cI rev_2,.c (.h 0),.c (.imm (.slice kE) c_4)] [(0,.row (.int .i64) undone_3)] (edit_Cuts_ggrn K l_1 rev_2 undone_3 c_4) (fun r=>.c (.h 1)) fun r=>[(0,.row (.int .i64) undone_3),(1,.row (.int .i64) r)]:=by
 refine jfn (fn:=Tryz.f95) Tryz.func95 (jy (edit_Cuts_ggrn.eq_1 ..) ?_)
 refine jm 5 (hr:=?_)
 refine jb fun r_6 h_7=>?_
 refine jb fun r_8 h_9=>?_
 refine jr0 [cp 3 (atom_Text_ggr_spec _ h_7) [(0,0)] 1,cp 5 (edit_Check_spec _ h_9) [] 1] (hr:=?_)
 refine jc (h1:=fun b_11=>?_) (h2:=fun b_11=>?_)
 ·refine jm 2 (hr:=?_)
  refine jg [.nilSlot 8 (.int .i64)] ?_
  exact jt (rr [])
 ·refine jm 2 (hr:=?_)
  refine jb fun r_14 h_15=>?_
  refine jr0 [cp 3 (atom_Places_ggr_spec _ h_15) [(0,0),(1,1)] 2] (hr:=?_)
  refine jm 8 (hr:=?_)
  refine jg [.nilSlot 10 (.int .i64)] ?_
  refine jl (X:=((List Int)×Int)) (fun k x=>edit_Cuts_ggrn.l0 K l_1 rev_2 undone_3 c_4 r_14 k x.1 x.2) K (([]:List Int),(0:Int)) rfl 9 [(8,2)] (fun x_47=>[(1,cI rev_2),(2,.c (.h 0)),(3,.c (.imm (.slice kE) c_4)),(9,.c (.h 1)),(10,.c (.h 8)),(26,.c (.imm (.slice (.pair .str (.pair (.int .i64) (.pair (.int .i64) (.pair (.int .i64) (.slice kP)))))) l_1)),(27,cI (lnI l_1)),(28,cI x_47.2)]) (fun x_47=>[(0,.row (.int .i64) undone_3),(1,.row (.int .i64) r_14),(8,.row (.int .i64) x_47.1)]) (fun _=>rfl) (round:=fun k x_47=>jy (edit_Cuts_ggrn.l0.eq_2 ..) ?_)
  refine jm 3 (hr:=?_)
  refine jc (h1:=fun b_49=>?_) (h2:=fun b_49=>?_)
  ·refine jm 2 (hr:=?_)
   refine ja (Y:=(List Int)) 14 (fun y_79=>[(1,cI rev_2),(2,.c (.h 0)),(3,.c (.imm (.slice kE) c_4)),(9,.c (.h 1)),(10,.c (.h 13)),(26,.c (.imm (.slice (.pair .str (.pair (.int .i64) (.pair (.int .i64) (.pair (.int .i64) (.slice kP)))))) l_1)),(27,cI (lnI l_1)),(28,cI x_47.2)]) (fun y_79=>[(0,.row (.int .i64) undone_3),(1,.row (.int .i64) r_14),(13,.row (.int .i64) y_79)]) (h1:=?_) (h2:=fun y_79=>?_)
   ·refine ji 5 (hr:=fun c_51=>?_)
    refine jb fun r_52 h_53=>?_
    refine jr0 [cp 3 (atom_Visible_sggggggr_spec _ h_53) [(0,0)] 10] (hr:=?_)
    refine jc (h1:=fun b_55=>?_) (h2:=fun b_55=>?_)
    ·refine jm 1 (hr:=?_)
     exact jo [(13,8)]
    ·refine jm 4 (hr:=?_)
     refine jl (X:=Int) (fun k x=>edit_Cuts_ggrn.l1 K c_4 r_14 x_47.2 x_47.1 k x) K _ rfl 10 [] (fun x_59=>[(1,cI rev_2),(2,.c (.h 0)),(3,.c (.imm (.slice kE) c_4)),(9,.c (.h 1)),(10,.c (.h 8)),(11,cI x_47.2),(26,.c (.imm (.slice (.pair .str (.pair (.int .i64) (.pair (.int .i64) (.pair (.int .i64) (.slice kP)))))) l_1)),(27,cI (lnI l_1)),(28,cI x_47.2),(38,.c (.imm (.slice kE) c_4)),(39,cI (lnI c_4)),(40,cI x_59)]) (fun x_59=>[(0,.row (.int .i64) undone_3),(1,.row (.int .i64) r_14),(8,.row (.int .i64) x_47.1)]) (fun _=>rfl) (round:=fun k x_59=>jy (edit_Cuts_ggrn.l1.eq_2 ..) ?_)
     refine jm 3 (hr:=?_)
     refine jc (h1:=fun b_61=>?_) (h2:=fun b_61=>?_)
     ·refine ji 6 (hr:=fun c_62=>?_)
      refine ja (Y:=Bool) 11 (fun y_80=>[(1,cI rev_2),(2,.c (.h 0)),(3,.c (.imm (.slice kE) c_4)),(9,.c (.h 1)),(10,.c (.h 8)),(11,cI x_47.2),(26,.c (.imm (.slice (.pair .str (.pair (.int .i64) (.pair (.int .i64) (.pair (.int .i64) (.slice kP)))))) l_1)),(27,cI (lnI l_1)),(28,cI x_47.2),(38,.c (.imm (.slice kE) c_4)),(39,cI (lnI c_4)),(40,cI x_59),(59,cB y_80)]) (fun y_80=>[(0,.row (.int .i64) undone_3),(1,.row (.int .i64) r_14),(8,.row (.int .i64) x_47.1)]) (h1:=?_) (h2:=fun y_80=>?_)
      ·refine js (fun b_63=>?_) fun b_63=>?_
       ·refine jp fun c_64=>?_
        refine jw [] [(51,true)] [0≤x_47.2,x_47.2<(lnI r_14),(decide ((List.getD r_14 (Int.toNat x_47.2) (0:Int))≥(List.getD c_4 (Int.toNat x_59) zE).1))=true,0≤x_47.2,x_47.2<(lnI r_14)] (ap2 c_51.1 (ap2 c_64 (ap2 b_63 (ap2 c_51.1 (ap1 c_64))))) (hr:=?_)
        exact jo []
       ·refine jp fun c_65=>?_
        refine jw [] [(51,false)] [0≤x_47.2,x_47.2<(lnI r_14),(decide ((List.getD r_14 (Int.toNat x_47.2) (0:Int))≥(List.getD c_4 (Int.toNat x_59) zE).1))=false] (ap2 c_51.1 (ap2 c_65 (ap1 b_63))) (hr:=?_)
        exact jo []
      ·refine jc (h1:=fun b_67=>?_) (h2:=fun b_67=>?_)
       ·refine ji 2 (hr:=fun c_68=>?_)
        refine jq 1 (ql (qh ?_))
        exact jo [(13,12)]
       ·refine jm 3 (hr:=?_)
        exact jx _ rfl []
     ·refine jq 2 (ql (qh ?_))
      refine jm 1 (hr:=?_)
      exact jo [(13,8)]
   ·refine jm 1 (hr:=?_)
    exact jx (y_79,(w6 (x_47.2+(1:Int)))) rfl [(8,13)]
  ·refine jq 0 (ql (qh ?_))
   refine jm 2 (hr:=?_)
   exact jt (rr [(1,8)])
theorem edit_Upon_ggrgggg_spec {K l_1 rev_2 undone_3 c_4 now_5 group_6 rank_7}:FS Tryz.prog 54 1 [.c (.imm (.slice (.pair .str (.pair (.int .i64) (.pair (.int .i64) (.pair (.int .i64) (.slice kP)))))) l_1),cI rev_2,.c (.h 0),.c (.imm (.slice kE) c_4),cI now_5,cI group_6,cI rank_7] [(0,.row (.int .i64) undone_3)] (edit_Upon_ggrnggg K l_1 rev_2 undone_3 c_4 now_5 group_6 rank_7) (fun r=>.c (.h 1)) fun r=>[(0,.row (.int .i64) undone_3),(1,.row (.pair .str (.pair (.int .i64) (.pair (.int .i64) (.pair (.int .i64) (.slice kP))))) r)]:=by
 refine jfn (fn:=Tryz.f54) Tryz.func54 (jy (edit_Upon_ggrnggg.eq_1 ..) ?_)
 refine jm 3 (hr:=?_)
 refine jb fun r_9 h_10=>?_
 refine jr0 [cp 5 (edit_Spots_ggrgg_spec _ h_10) [(0,0),(1,1)] 2] (hr:=?_)
 refine jm 2 (hr:=?_)
 refine jb fun r_13 h_14=>?_
 refine jb fun r_15 h_16=>?_
 refine jr0 [cp 3 (atom_Text_ggr_spec _ h_14) [(0,0)] 2,cp 5 (edit_Check_spec _ h_16) [] 2] (hr:=?_)
 refine jc (h1:=fun b_18=>?_) (h2:=fun b_18=>?_)
 ·refine jm 1 (hr:=?_)
  refine jb fun r_20 h_21=>?_
  refine jr0 [cp 1 (atom_Copy_spec _ h_21) [(0,2)] 3] (hr:=?_)
  refine jg0 (.un 2) (hr:=?_)
  exact jt (rr [(1,3)])
 ·refine jp fun c_23=>?_
  refine jn 7 [(0:Int)≤(0:Int),(0:Int)≤(lnI l_1),(lnI l_1) * 64≤(140737488355328:Int),(lnI l_1)≤(9223372036854775807:Int),(0:Int)≤(lnI l_1),(lnI l_1)≤(lnI l_1),(lnI l_1) * 1≤(140737488355328:Int),(lnI l_1)≤(9223372036854775807:Int)] (ap2 (by decide) (ap2 c_23.1 (ap2 c_23.2.1 (ap2 c_23.2.2.1 (ap2 c_23.1 (ap2 c_23.2.2.2.1 (ap2 c_23.2.2.2.2 (ap1 c_23.2.2.1)))))))) (hr:=?_)
  refine jb fun r_24 h_25=>?_
  refine jr0 [cp 4 (edit_Cuts_ggrg_spec _ h_25) [(0,0),(1,4)] 5] (hr:=?_)
  refine ja (Y:=(List Bool)) 5 (fun y_93=>[(0,.c (.imm (.slice (.pair .str (.pair (.int .i64) (.pair (.int .i64) (.pair (.int .i64) (.slice kP)))))) l_1)),(3,.c (.imm (.slice kE) c_4)),(4,cI now_5),(5,cI group_6),(6,cI rank_7),(15,.c (.h 1)),(16,.c (.h 2)),(17,.c (.h 3))]) (fun y_93=>[(0,.row (.int .i64) undone_3),(1,.row (.int .i64) r_9),(2,.row (.pair .str (.pair (.int .i64) (.pair (.int .i64) (.pair (.int .i64) (.slice kP))))) (List.replicate 0 (ByteArray.empty,((0:Int),((0:Int),((0:Int),([]:List (Int×Int)))))))),(3,.row .bool y_93)]) (h1:=?_) (h2:=fun y_93=>?_)
  ·refine jm 1 (hr:=?_)
   refine jl (X:=((List Bool)×Int)) (fun k x=>edit_Upon_ggrnggg.l0 K r_24 k x.1 x.2) K ((List.replicate (Int.toNat (lnI l_1)) false),(0:Int)) rfl 5 [] (fun x_35=>[(0,.c (.imm (.slice (.pair .str (.pair (.int .i64) (.pair (.int .i64) (.pair (.int .i64) (.slice kP)))))) l_1)),(3,.c (.imm (.slice kE) c_4)),(4,cI now_5),(5,cI group_6),(6,cI rank_7),(15,.c (.h 1)),(16,.c (.h 2)),(17,.c (.h 3)),(50,.c (.h 4)),(51,cI (lnI r_24)),(52,cI x_35.2)]) (fun x_35=>[(0,.row (.int .i64) undone_3),(1,.row (.int .i64) r_9),(2,.row (.pair .str (.pair (.int .i64) (.pair (.int .i64) (.pair (.int .i64) (.slice kP))))) (List.replicate 0 (ByteArray.empty,((0:Int),((0:Int),((0:Int),([]:List (Int×Int)))))))),(3,.row .bool x_35.1),(4,.row (.int .i64) r_24)]) (fun _=>rfl) (round:=fun k x_35=>jy (edit_Upon_ggrnggg.l0.eq_2 ..) ?_)
   refine jm 3 (hr:=?_)
   refine jc (h1:=fun b_37=>?_) (h2:=fun b_37=>?_)
   ·refine ji 6 (hr:=fun c_38=>?_)
    refine jm 2 (hr:=?_)
    exact jx ((List.set x_35.1 (Int.toNat (List.getD r_24 (Int.toNat x_35.2) (0:Int))) true),(w6 (x_35.2+(1:Int)))) rfl []
   ·refine jq 0 (ql (qh ?_))
    exact jo []
  ·refine jn 3 [(0:Int)≤(lnI l_1),(lnI l_1)≤(lnI l_1),(lnI l_1) * 64≤(140737488355328:Int),(lnI l_1)≤(9223372036854775807:Int)] (ap2 c_23.1 (ap2 c_23.2.2.2.1 (ap2 c_23.2.1 (ap1 c_23.2.2.1)))) (hr:=?_)
   refine jb fun r_42 h_43=>?_
   refine jri [cp 2 (atom_Copy_spec _ h_43) [(0,6)] 7] [] (hr:=fun c_44=>?_)
   refine jm 3 (hr:=?_)
   refine ja (Y:=(List (ByteArray×(Int×(Int×(Int×(List (Int×Int)))))))) 11 (fun y_94=>[(3,.c (.imm (.slice kE) c_4)),(4,cI now_5),(5,cI group_6),(6,cI rank_7),(15,.c (.h 1)),(16,.c (.h 2)),(20,.c (.h 10))]) (fun y_94=>[(0,.row (.int .i64) undone_3),(1,.row (.int .i64) r_9),(2,.row (.pair .str (.pair (.int .i64) (.pair (.int .i64) (.pair (.int .i64) (.slice kP))))) (List.replicate 0 (ByteArray.empty,((0:Int),((0:Int),((0:Int),([]:List (Int×Int)))))))),(10,.aown y_94)]) (h1:=?_) (h2:=fun y_94=>?_)
   ·refine jm 1 (hr:=?_)
    refine jl (X:=((List (ByteArray×(Int×(Int×(Int×(List (Int×Int)))))))×Int)) (fun k x=>edit_Upon_ggrnggg.l1 K r_42 y_93 now_5 group_6 k x.1 x.2) K (r_42,(0:Int)) rfl 11 [(10,7)] (fun x_57=>[(3,.c (.imm (.slice kE) c_4)),(4,cI now_5),(5,cI group_6),(6,cI rank_7),(15,.c (.h 1)),(16,.c (.h 2)),(17,.c (.h 3)),(20,.c (.h 10)),(68,cI (lnI r_42)),(69,cI x_57.2)]) (fun x_57=>[(0,.row (.int .i64) undone_3),(1,.row (.int .i64) r_9),(2,.row (.pair .str (.pair (.int .i64) (.pair (.int .i64) (.pair (.int .i64) (.slice kP))))) (List.replicate 0 (ByteArray.empty,((0:Int),((0:Int),((0:Int),([]:List (Int×Int)))))))),(3,.row .bool y_93),(10,.aown x_57.1)]) (fun _=>rfl) (round:=fun k x_57=>jy (edit_Upon_ggrnggg.l1.eq_2 ..) ?_)
    refine jm 3 (hr:=?_)
    refine jc (h1:=fun b_59=>?_) (h2:=fun b_59=>?_)
    ·refine ji 7 (hr:=fun c_60=>?_)
     refine jc (h1:=fun b_61=>?_) (h2:=fun b_61=>?_)
     ·refine jp fun c_62=>?_
      refine jn 1 [0≤x_57.2,x_57.2<(lnI x_57.1),(Int.toNat x_57.2)<(List.length x_57.1),(List.length (List.getD x_57.1 (Int.toNat x_57.2) (ByteArray.empty,((0:Int),((0:Int),((0:Int),([]:(List (Int×Int)))))))).2.2.2.2+List.length ([(now_5,group_6)]:List (Int×Int))) * 16≤140737488355328,0≤x_57.2,x_57.2<(lnI x_57.1),(Int.toNat x_57.2)=(Int.toNat x_57.2),(Int.toNat x_57.2)=(Int.toNat x_57.2)] (ap2 c_60.1 (ap2 c_62.1 (ap2 c_62.2.1 (ap2 c_62.2.2.1 (ap2 c_60.1 (ap2 c_62.1 (ap2 c_62.2.2.2 (ap1 c_62.2.2.2)))))))) (hr:=?_)
      refine jm 2 (hr:=?_)
      exact jx ((setCut x_57.1 (Int.toNat x_57.2) ((List.getD x_57.1 (Int.toNat x_57.2) (ByteArray.empty,((0:Int),((0:Int),((0:Int),([]:(List (Int×Int)))))))).2.2.2.2++([(now_5,group_6)]:List (Int×Int)))),(w6 (x_57.2+(1:Int)))) rfl [(10,12)]
     ·refine jm 3 (hr:=?_)
      exact jx (x_57.1,(w6 (x_57.2+(1:Int)))) rfl []
    ·refine jq 2 (ql (qh ?_))
     exact jo []
   ·refine jm 6 (hr:=?_)
    refine jg0 (.un 10) (hr:=?_)
    refine jl (X:=((List (ByteArray×(Int×(Int×(Int×(List (Int×Int)))))))×Int×Int)) (fun k x=>edit_Upon_ggrnggg.l2 K c_4 r_9 y_94 now_5 group_6 rank_7 k x.1 x.2.1 x.2.2) K ((List.replicate 0 (ByteArray.empty,((0:Int),((0:Int),((0:Int),([]:List (Int×Int))))))),(0:Int),(0:Int)) rfl 18 [(16,2),(17,11)] (fun x_81=>[(4,cI now_5),(5,cI group_6),(6,cI rank_7),(15,.c (.h 1)),(16,.c (.h 16)),(20,.c (.h 17)),(22,cI x_81.2.1),(91,.c (.imm (.slice kE) c_4)),(92,cI (lnI c_4)),(93,cI x_81.2.2)]) (fun x_81=>[(0,.row (.int .i64) undone_3),(1,.row (.int .i64) r_9),(16,.row (.pair .str (.pair (.int .i64) (.pair (.int .i64) (.pair (.int .i64) (.slice kP))))) x_81.1),(17,.row (.pair .str (.pair (.int .i64) (.pair (.int .i64) (.pair (.int .i64) (.slice kP))))) y_94)]) (fun _=>rfl) (round:=fun k x_81=>jy (edit_Upon_ggrnggg.l2.eq_2 ..) ?_)
    refine jm 3 (hr:=?_)
    refine jc (h1:=fun b_83=>?_) (h2:=fun b_83=>?_)
    ·refine jp fun c_84=>?_
     refine jn 8 [0≤x_81.2.2,x_81.2.2<(lnI c_4),0≤x_81.2.2,x_81.2.2<(lnI r_9),(0:Int)≤x_81.2.1,x_81.2.1≤(List.getD r_9 (Int.toNat x_81.2.2) (0:Int)),(List.getD r_9 (Int.toNat x_81.2.2) (0:Int))≤(lnI y_94),(List.length x_81.1+List.length (List.take ((Int.toNat (List.getD r_9 (Int.toNat x_81.2.2) (0:Int))) - (Int.toNat x_81.2.1)) (List.drop (Int.toNat x_81.2.1) y_94))) * 64≤140737488355328] (ap2 c_84.1 (ap2 c_84.2.1 (ap2 c_84.1 (ap2 c_84.2.2.1 (ap2 c_84.2.2.2.1 (ap2 c_84.2.2.2.2.1 (ap2 c_84.2.2.2.2.2.1 (ap1 c_84.2.2.2.2.2.2)))))))) (hr:=?_)
     refine jb fun r_85 h_86=>?_
     refine jri [cp 6 (atom_Put_nggggg_spec _ h_86) [(0,20)] 21] [] (hr:=fun c_87=>?_)
     refine jn 3 [0≤x_81.2.2,x_81.2.2<(lnI r_9)] (ap2 c_84.1 (ap1 c_84.2.2.1)) (hr:=?_)
     exact jx (((x_81.1++(List.take ((Int.toNat (List.getD r_9 (Int.toNat x_81.2.2) (0:Int))) - (Int.toNat x_81.2.1)) (List.drop (Int.toNat x_81.2.1) y_94)))++r_85),(List.getD r_9 (Int.toNat x_81.2.2) (0:Int)),(w6 (x_81.2.2+(1:Int)))) rfl [(16,21)]
    ·refine jq 4 (ql (qh ?_))
     refine ji 2 (hr:=fun c_89=>?_)
     exact jt (rr [(1,18)])
theorem engine_Engine_Edit_bgggg_a4917_spec {K e_1 e_2 e_3 e_4 e_5 base_6 group_7 rank_8 c_9}:FS Tryz.prog 17 5 [.c (.h 0),cI base_6,cI group_7,cI rank_8,.c (.imm (.slice kE) c_9)] [(0,.box [.imm (.slice (.pair .str (.pair (.int .i64) (.pair (.int .i64) (.pair (.int .i64) (.slice kP)))))) e_1,.h 1]),(1,.box [.h 2,.val (.int .i64 e_3),.h 3,.h 4]),(2,.sets e_2 none),(3,.map e_4),(4,.map e_5)] (engine_Engine_Edit_bgggn_7db40 K e_1 e_2 e_3 e_4 e_5 base_6 group_7 rank_8 c_9) (fun r=>.tup [(false,[.val (.int .i64 r.1)]),(false,[.val (.int .i64 r.2.1)])]) fun r=>[(0,.box [.imm (.slice (.pair .str (.pair (.int .i64) (.pair (.int .i64) (.pair (.int .i64) (.slice kP)))))) r.2.2.1,.h 5]),(5,.box [.h 6,.val (.int .i64 e_3),.h 7,.h 8]),(6,.sets r.2.2.2.1 none),(7,.map r.2.2.2.2.1),(8,.map r.2.2.2.2.2)]:=by
 refine jfn (fn:=Tryz.f17) Tryz.func17 (jy (engine_Engine_Edit_bgggn_7db40.eq_1 ..) ?_)
 refine jm 3 (hr:=?_)
 refine jb fun r_11 h_12=>?_
 refine jr0 [cp 2 (engine_Engine_Text_bg_d34b6_spec _ h_12) [(0,0),(1,1),(2,2),(3,3),(4,4)] 5] (hr:=?_)
 refine jm 3 (hr:=?_)
 refine jc (h1:=fun b_15=>?_) (h2:=fun b_15=>?_)
 ·refine jm 2 (hr:=?_)
  exact jt (rr [(5,1),(6,2),(7,3),(8,4)])
 ·refine jm 3 (hr:=?_)
  refine jb fun r_18 h_19=>?_
  refine jr0 [cp 2 (edit_Check_spec _ h_19) [] 5] (hr:=?_)
  refine jm 2 (hr:=?_)
  refine jc (h1:=fun b_22=>?_) (h2:=fun b_22=>?_)
  ·refine jm 2 (hr:=?_)
   exact jt (rr [(5,1),(6,2),(7,3),(8,4)])
  ·refine jm 2 (hr:=?_)
   refine jb fun r_25 h_26=>?_
   refine jr0 [cp 1 (engine_Engine_Copy_b_0db29_spec _ h_26) [(0,0),(1,1),(2,2),(3,3),(4,4),(5,5),(6,6),(7,7),(8,8),(9,9)] 10] (hr:=?_)
   refine jm 1 (hr:=?_)
   refine jb fun r_29 h_30=>?_
   refine jr0 [cp 5 (rev_Revs_Add_bg_43267_spec _ h_30) [(0,6),(1,7),(2,8),(3,9),(4,10)] 11] (hr:=?_)
   refine jm 4 (hr:=?_)
   refine jc (h1:=fun b_33=>?_) (h2:=fun b_33=>?_)
   ·refine jm 2 (hr:=?_)
    exact jt (rr [(5,1),(6,2),(7,3),(8,4)])
   ·refine jm 1 (hr:=?_)
    refine ja (Y:=Bool) 11 (fun y_65=>[(0,.c (.h 0)),(1,cI base_6),(2,cI group_7),(3,cI rank_8),(4,.c (.imm (.slice kE) c_9)),(15,.c (.h 5)),(16,cI r_29.1),(47,cB y_65)]) (fun y_65=>[(0,.box [.imm (.slice (.pair .str (.pair (.int .i64) (.pair (.int .i64) (.pair (.int .i64) (.slice kP)))))) e_1,.h 1]),(1,.box [.h 2,.val (.int .i64 e_3),.h 3,.h 4]),(2,.sets e_2 none),(3,.map e_4),(4,.map e_5),(5,.box [.imm (.slice (.pair .str (.pair (.int .i64) (.pair (.int .i64) (.pair (.int .i64) (.slice kP)))))) r_25.1,.h 6]),(6,.box [.h 10,.val (.int .i64 e_3),.h 8,.h 9]),(8,.map r_29.2.2.2),(9,.map r_25.2.2.2),(10,.sets r_29.2.2.1 none)]) (h1:=?_) (h2:=fun y_65=>?_)
    ·refine js (fun b_36=>?_) fun b_36=>?_
     ·refine jr [] [(50,true)] [(decide (rank_8<(0:Int)))=true] (ap1 b_36) (hr:=?_)
      exact jo []
     ·refine jr [] [(50,false)] [(decide (rank_8<(0:Int)))=false] (ap1 b_36) (hr:=?_)
      exact jo []
    ·refine jc (h1:=fun b_40=>?_) (h2:=fun b_40=>?_)
     ·refine jm 2 (hr:=?_)
      exact jt (rr [(5,1),(6,2),(7,3),(8,4)])
     ·refine jm 3 (hr:=?_)
      refine jb fun r_43 h_44=>?_
      refine jb fun r_45 h_46=>?_
      refine jw0 [cp 8 (engine_Engine_UndoneAt_bg_d34b6_spec _ h_44) [(0,0),(1,1),(2,2),(3,3),(4,4),(5,11)] 12,cp 13 (edit_Upon_ggrgggg_spec _ h_46) [(0,11),(1,12)] 13] (hr:=?_)
      refine jm 4 (hr:=?_)
      refine jc (h1:=fun b_49=>?_) (h2:=fun b_49=>?_)
      ·refine jm 2 (hr:=?_)
       exact jt (rr [(5,1),(6,2),(7,3),(8,4)])
      ·refine jm 1 (hr:=?_)
       refine jg [.shut 12] ?_
       refine jb fun r_52 h_53=>?_
       refine jr0 [cp 1 (engine_Engine_fits_b_0db29_spec _ h_53) [(0,5),(1,6),(2,10),(3,8),(4,9)] 13] (hr:=?_)
       refine jc (h1:=fun b_55=>?_) (h2:=fun b_55=>?_)
       ·refine jm 2 (hr:=?_)
        exact jt (rr [(5,1),(6,2),(7,3),(8,4)])
       ·refine jm 6 (hr:=?_)
        exact jt (rr [(5,6),(6,10),(7,8),(8,9)])
theorem rev_Revs_Forget_spec {K r_1 r_2 r_3 r_4 groups_5}:FS Tryz.prog 80 4 [.c (.h 0),.c (.imm (.slice (.int .i64)) groups_5)] [(0,.box [.h 1,.val (.int .i64 r_2),.h 2,.h 3]),(1,.sets r_1 none),(2,.map r_3),(3,.map r_4)] (rev_Revs_Forget K r_1 r_2 r_3 r_4 groups_5) (fun r=>cI r.1) fun r=>[(0,.box [.h 4,.val (.int .i64 r.2.2.1),.h 2,.h 3]),(2,.map r.2.2.2.1),(3,.map r.2.2.2.2),(4,.sets r.2.1 none)]:=by
 refine jfn (fn:=Tryz.f80) Tryz.func80 (jy (rev_Revs_Forget.eq_1 ..) ?_)
 refine jm 7 (hr:=?_)
 refine ja2 (Y:=(List Int)) 6 (fun y_50=>[(0,.c (.h 0)),(5,.c (.h 4))]) (fun y_50=>[(0,.box [.h 1,.val (.int .i64 r_2),.h 2,.h 3]),(1,.sets r_1 none),(2,.map r_3),(3,.map r_4),(4,.map y_50)]) (h1:=?_) (h2:=fun y_50=>?_)
 ·refine jm 1 (hr:=?_)
  refine jl (X:=((List Int)×Int)) (fun k x=>rev_Revs_Forget.l0 K groups_5 r_1 r_2 r_3 r_4 k x.1 x.2) K (([]:List Int),(0:Int)) rfl 6 [] (fun x_24=>[(0,.c (.h 0)),(5,.c (.h 4)),(13,.c (.imm (.slice (.int .i64)) groups_5)),(14,cI (lnI groups_5)),(15,cI x_24.2)]) (fun x_24=>[(0,.box [.h 1,.val (.int .i64 r_2),.h 2,.h 3]),(1,.sets r_1 none),(2,.map r_3),(3,.map r_4),(4,.map x_24.1)]) (fun _=>rfl) (round:=fun k x_24=>jy (rev_Revs_Forget.l0.eq_2 ..) ?_)
  refine jm 3 (hr:=?_)
  refine jc (h1:=fun b_26=>?_) (h2:=fun b_26=>?_)
  ·refine ji 9 (hr:=fun c_27=>?_)
   refine ja (Y:=Bool) 7 (fun y_51=>[(0,.c (.h 0)),(5,.c (.h 4)),(7,cI (List.getD groups_5 (Int.toNat x_24.2) (0:Int))),(13,.c (.imm (.slice (.int .i64)) groups_5)),(14,cI (lnI groups_5)),(15,cI x_24.2),(31,cB y_51)]) (fun y_51=>[(0,.box [.h 1,.val (.int .i64 r_2),.h 2,.h 3]),(1,.sets r_1 none),(2,.map r_3),(3,.map r_4),(4,.map x_24.1)]) (h1:=?_) (h2:=fun y_51=>?_)
   ·refine js (fun b_28=>?_) fun b_28=>?_
    ·refine jr [] [(26,true)] [(List.contains x_24.1 (List.getD groups_5 (Int.toNat x_24.2) (0:Int)))=true] (ap1 b_28) (hr:=?_)
     exact jo []
    ·refine jb fun r_30 h_31=>?_
     refine jr [cp 4 (rev_Revs_has_bg_43267_spec _ h_31) [(0,0),(1,1),(2,2),(3,3)] 7] [(26,false)] [(List.contains x_24.1 (List.getD groups_5 (Int.toNat x_24.2) (0:Int)))=false] (ap1 b_28) (hr:=?_)
     exact jo []
   ·refine jc (h1:=fun b_34=>?_) (h2:=fun b_34=>?_)
    ·refine jm 2 (hr:=?_)
     exact jt (rl (rc (rr [(4,1)])))
    ·refine ji 2 (hr:=fun c_36=>?_)
     refine jm 2 (hr:=?_)
     exact jx ((insS (List.getD groups_5 (Int.toNat x_24.2) (0:Int)) x_24.1),(w6 (x_24.2+(1:Int)))) rfl []
  ·refine jq 0 (ql (qh ?_))
   exact jo []
 ·refine jm 1 (hr:=?_)
  refine jwi [] [] (hr:=fun c_40=>?_)
  refine jm 1 (hr:=?_)
  refine jb fun r_42 h_43=>?_
  refine jr0 [cp 2 (rev_Revs_Head_b_3cfb0_spec _ h_43) [(0,0),(1,1),(2,2),(3,3)] 6] (hr:=?_)
  refine jp fun c_1=>?_
  refine jspl 10 1 _ r_1 c_1 (hr:=?_)
  refine jm 2 (hr:=?_)
  refine jg0 (.lits 7) (hr:=?_)
  refine jm 4 (hr:=?_)
  refine jl (X:=(List Int×Option Int×List Int×List Int×List Int)) (fun k x=>if x.1.length<k∧inW x.1=true then some (fgR r_42 x.1 x.2.2.1 x.2.2.2.1 x.2.2.2.2) else none) (y_50.length+1) (y_50,none,r_1.getD (Int.toNat (IntKind.wrap .i64 ((((List.length r_1):Nat):Int) - (1:Int)))) [],r_3,r_4) rfl 10 [] (fun x=>[(0,.c (.h 0)),(10,.c (.h 6)),(59,.c (.h 9))]) (fun x=>[(0,.box [.h 8,.val (.int .i64 r_42),.h 2,.h 3]),(2,.map x.2.2.2.1),(3,.map x.2.2.2.2),(6,.map x.2.2.1),(8,.sets [] (some 6)),(9,.mit x.1 x.2.1)]) (fun _=>by simp) (round:=fun k x=>jp fun c_2=>?_)
  refine jm 1 (hr:=?_)
  refine jmit x.1 (fun g=>by kernel_rfl) (h1:=fun g hg=>?_) (h0:=fun h0=>?_)
  ·refine jn 12 [-9223372036854775808≤g,g≤9223372036854775807] (by have:=List.all_eq_true.1 c_2.2 g hg; simpa [allP] using this) (hr:=?_)
   refine jx (x.1.erase g,some g,delS g x.2.2.1,delS g x.2.2.2.1,insS g x.2.2.2.2) ?_ []
   rw [fgR_step hg,if_pos]
   refine ⟨?_,List.all_eq_true.2 fun y hy=>List.all_eq_true.1 c_2.2 y (List.mem_of_mem_erase hy)⟩
   have:=List.length_erase_of_mem hg
   have:=List.length_pos_of_mem hg
   have:=c_2.1
   show (x.1.erase g).length<k
   omega
  ·refine jy (y:=some (0,[x.2.2.1],r_42,x.2.2.2.1,x.2.2.2.2)) (by rw [h0]; simp [fgR]) ?_
   refine jm 2 (hr:=?_)
   refine jq 2 (ql (qh ?_))
   refine jm 2 (hr:=?_)
   refine jg0 (.absorb 8) (hr:=?_)
   exact jt (rr [(4,10)])
theorem engine_rest_ggr_spec {K l_1 groups_2 undone_3}:FS Tryz.prog 81 1 [.c (.imm (.slice (.pair .str (.pair (.int .i64) (.pair (.int .i64) (.pair (.int .i64) (.slice kP)))))) l_1),.c (.imm (.slice (.int .i64)) groups_2),.c (.h 0)] [(0,.row (.int .i64) undone_3)] (engine_rest_ggr K l_1 groups_2 undone_3) (fun r=>.c (.h 1)) fun r=>[(0,.row (.int .i64) undone_3),(1,.row (.pair .str (.pair (.int .i64) (.pair (.int .i64) (.pair (.int .i64) (.slice kP))))) r)]:=by
 refine jfn (fn:=Tryz.f81) Tryz.func81 (jy (engine_rest_ggr.eq_1 ..) ?_)
 refine ji 13 (hr:=fun c_4=>?_)
 refine jm 1 (hr:=?_)
 refine jl (X:=((List (ByteArray×(Int×(Int×(Int×(List (Int×Int)))))))×Int×Int)) (fun k x=>engine_rest_ggr.l0 K l_1 groups_2 undone_3 k x.1 x.2.1 x.2.2) K ((List.replicate (Int.toNat (lnI l_1)) (ByteArray.empty,((0:Int),((0:Int),((0:Int),([]:List (Int×Int))))))),(0:Int),(0:Int)) rfl 10 [] (fun x_41=>[(4,.c (.h 1)),(7,.c (.h 3)),(8,.c (.h 4)),(9,.c (.h 5)),(10,cI x_41.2.1),(18,.c (.imm (.slice (.pair .str (.pair (.int .i64) (.pair (.int .i64) (.pair (.int .i64) (.slice kP)))))) l_1)),(19,cI (lnI l_1)),(20,cI x_41.2.2)]) (fun x_41=>[(0,.row (.int .i64) undone_3),(1,.box [.imm (.slice (.int .i64)) groups_2]),(2,.box [.h 0]),(3,.box [.clo 130 [1,2]]),(4,.box [.clo 132 [1,2]]),(5,.row (.pair .str (.pair (.int .i64) (.pair (.int .i64) (.pair (.int .i64) (.slice kP))))) x_41.1)]) (fun _=>rfl) (round:=fun k x_41=>jy (engine_rest_ggr.l0.eq_2 ..) ?_)
 refine jm 3 (hr:=?_)
 refine jc (h1:=fun b_43=>?_) (h2:=fun b_43=>?_)
 ·refine ji 7 (hr:=fun c_44=>?_)
  refine ja (Y:=Bool) 11 (fun y_76=>[(4,.c (.h 1)),(7,.c (.h 3)),(8,.c (.h 4)),(9,.c (.h 5)),(10,cI x_41.2.1),(12,.c (.h 10)),(18,.c (.imm (.slice (.pair .str (.pair (.int .i64) (.pair (.int .i64) (.pair (.int .i64) (.slice kP)))))) l_1)),(19,cI (lnI l_1)),(20,cI x_41.2.2),(33,cB y_76)]) (fun y_76=>[(0,.row (.int .i64) undone_3),(1,.box [.imm (.slice (.int .i64)) groups_2]),(2,.box [.h 0]),(3,.box [.clo 130 [1,2]]),(4,.box [.clo 132 [1,2]]),(5,.row (.pair .str (.pair (.int .i64) (.pair (.int .i64) (.pair (.int .i64) (.slice kP))))) x_41.1),(10,.box [.val (.string (List.getD l_1 (Int.toNat x_41.2.2) (ByteArray.empty,((0:Int),((0:Int),((0:Int),([]:(List (Int×Int)))))))).1),.val (.int .i64 (List.getD l_1 (Int.toNat x_41.2.2) (ByteArray.empty,((0:Int),((0:Int),((0:Int),([]:(List (Int×Int)))))))).2.1),.val (.int .i64 (List.getD l_1 (Int.toNat x_41.2.2) (ByteArray.empty,((0:Int),((0:Int),((0:Int),([]:(List (Int×Int)))))))).2.2.1),.val (.int .i64 (List.getD l_1 (Int.toNat x_41.2.2) (ByteArray.empty,((0:Int),((0:Int),((0:Int),([]:(List (Int×Int)))))))).2.2.2.1),.imm (.slice kP) (List.getD l_1 (Int.toNat x_41.2.2) (ByteArray.empty,((0:Int),((0:Int),((0:Int),([]:(List (Int×Int)))))))).2.2.2.2])]) (h1:=?_) (h2:=fun y_76=>?_)
  ·refine jb fun r_45 h_46=>?_
   refine js (fun b_47=>?_) fun b_47=>?_
   ·refine jr [cp 3 (engine_rest_1_gbb_dc736_spec _ h_46) [(0,1),(1,2),(2,0)] 11] [(28,true)] [r_45=true] (ap1 b_47) (hr:=?_)
    exact jo []
   ·refine jb fun r_49 h_50=>?_
    refine jr [cp 3 (engine_rest_1_gbb_dc736_spec _ h_46) [(0,1),(1,2),(2,0)] 11,cp 8 (slices_ContainsFunc_gcenginerest3_dcdc0_spec _ h_50) [(0,4),(1,1),(2,2),(3,0)] 11] [(28,false)] [r_45=false] (ap1 b_47) (hr:=?_)
    exact jo []
  ·refine jc (h1:=fun b_53=>?_) (h2:=fun b_53=>?_)
   ·refine jm 2 (hr:=?_)
    exact jx (x_41.1,x_41.2.1,(w6 (x_41.2.2+(1:Int)))) rfl []
   ·refine jm 2 (hr:=?_)
    refine jb fun r_56 h_57=>?_
    refine jb fun r_58 h_59=>?_
    refine jr0 [cp 2 (slices_Clone_spec _ h_57) [(0,11)] 12,cp 4 (slices_DeleteFunc_rcenginerest4_f8e5e_spec _ h_59) [(0,11),(1,3),(2,1),(3,2),(4,0),(5,12)] 13] (hr:=?_)
    refine jm 2 (hr:=?_)
    refine jb fun r_62 h_63=>?_
    refine jr0 [cp 3 (slices_Contains_spec _ h_63) [] 13] (hr:=?_)
    refine jc (h1:=fun b_65=>?_) (h2:=fun b_65=>?_)
    ·refine jm 1 (hr:=?_)
     refine jg [.shut 12] ?_
     refine jp fun c_67=>?_
     refine jw [] [] [(0:Int)≤x_41.2.1,x_41.2.1≤(lnI x_41.1),(0:Int)≤x_41.2.1,x_41.2.1≤(lnI x_41.1)] (ap2 c_67.1 (ap2 c_67.2 (ap2 c_67.1 (ap1 c_67.2)))) (hr:=?_)
     refine jm 2 (hr:=?_)
     exact jx ((putAt x_41.1 (List.take ((List.length x_41.1) - (Int.toNat x_41.2.1)) ([((List.getD l_1 (Int.toNat x_41.2.2) (ByteArray.empty,((0:Int),((0:Int),((0:Int),([]:(List (Int×Int)))))))).1,((List.getD l_1 (Int.toNat x_41.2.2) (ByteArray.empty,((0:Int),((0:Int),((0:Int),([]:(List (Int×Int)))))))).2.1,((-1:Int),((List.getD l_1 (Int.toNat x_41.2.2) (ByteArray.empty,((0:Int),((0:Int),((0:Int),([]:(List (Int×Int)))))))).2.2.2.1,r_58))))]:List (ByteArray×(Int×(Int×(Int×(List (Int×Int)))))))) (Int.toNat x_41.2.1)),(w6 (x_41.2.1+(lnI (List.take ((List.length x_41.1) - (Int.toNat x_41.2.1)) ([((List.getD l_1 (Int.toNat x_41.2.2) (ByteArray.empty,((0:Int),((0:Int),((0:Int),([]:(List (Int×Int)))))))).1,((List.getD l_1 (Int.toNat x_41.2.2) (ByteArray.empty,((0:Int),((0:Int),((0:Int),([]:(List (Int×Int)))))))).2.1,((-1:Int),((List.getD l_1 (Int.toNat x_41.2.2) (ByteArray.empty,((0:Int),((0:Int),((0:Int),([]:(List (Int×Int)))))))).2.2.2.1,r_58))))]:List (ByteArray×(Int×(Int×(Int×(List (Int×Int))))))))))),(w6 (x_41.2.2+(1:Int)))) rfl []
    ·refine jm 1 (hr:=?_)
     refine jg [.shut 12] ?_
     refine jp fun c_70=>?_
     refine jw [] [] [(0:Int)≤x_41.2.1,x_41.2.1≤(lnI x_41.1),(0:Int)≤x_41.2.1,x_41.2.1≤(lnI x_41.1)] (ap2 c_70.1 (ap2 c_70.2 (ap2 c_70.1 (ap1 c_70.2)))) (hr:=?_)
     refine jm 2 (hr:=?_)
     exact jx ((putAt x_41.1 (List.take ((List.length x_41.1) - (Int.toNat x_41.2.1)) ([((List.getD l_1 (Int.toNat x_41.2.2) (ByteArray.empty,((0:Int),((0:Int),((0:Int),([]:(List (Int×Int)))))))).1,((List.getD l_1 (Int.toNat x_41.2.2) (ByteArray.empty,((0:Int),((0:Int),((0:Int),([]:(List (Int×Int)))))))).2.1,((List.getD l_1 (Int.toNat x_41.2.2) (ByteArray.empty,((0:Int),((0:Int),((0:Int),([]:(List (Int×Int)))))))).2.2.1,((List.getD l_1 (Int.toNat x_41.2.2) (ByteArray.empty,((0:Int),((0:Int),((0:Int),([]:(List (Int×Int)))))))).2.2.2.1,r_58))))]:List (ByteArray×(Int×(Int×(Int×(List (Int×Int)))))))) (Int.toNat x_41.2.1)),(w6 (x_41.2.1+(lnI (List.take ((List.length x_41.1) - (Int.toNat x_41.2.1)) ([((List.getD l_1 (Int.toNat x_41.2.2) (ByteArray.empty,((0:Int),((0:Int),((0:Int),([]:(List (Int×Int)))))))).1,((List.getD l_1 (Int.toNat x_41.2.2) (ByteArray.empty,((0:Int),((0:Int),((0:Int),([]:(List (Int×Int)))))))).2.1,((List.getD l_1 (Int.toNat x_41.2.2) (ByteArray.empty,((0:Int),((0:Int),((0:Int),([]:(List (Int×Int)))))))).2.2.1,((List.getD l_1 (Int.toNat x_41.2.2) (ByteArray.empty,((0:Int),((0:Int),((0:Int),([]:(List (Int×Int)))))))).2.2.2.1,r_58))))]:List (ByteArray×(Int×(Int×(Int×(List (Int×Int))))))))))),(w6 (x_41.2.2+(1:Int)))) rfl []
 ·refine jq 0 (ql (qh ?_))
  refine ji 2 (hr:=fun c_72=>?_)
  refine jg [.own 6] ?_
  exact jt (rr [(1,10)])
theorem engine_Engine_Forget_bg_91ca6_spec {K e_1 e_2 e_3 e_4 e_5 groups_6}:FS Tryz.prog 49 5 [.c (.h 0),.c (.imm (.slice (.int .i64)) groups_6)] [(0,.box [.imm (.slice (.pair .str (.pair (.int .i64) (.pair (.int .i64) (.pair (.int .i64) (.slice kP)))))) e_1,.h 1]),(1,.box [.h 2,.val (.int .i64 e_3),.h 3,.h 4]),(2,.sets e_2 none),(3,.map e_4),(4,.map e_5)] (engine_Engine_Forget_bg_91ca6 K e_1 e_2 e_3 e_4 e_5 groups_6) (fun r=>cI r.1) fun r=>[(0,.box [.imm (.slice (.pair .str (.pair (.int .i64) (.pair (.int .i64) (.pair (.int .i64) (.slice kP)))))) r.2.1,.h 1]),(1,.box [.h 5,.val (.int .i64 r.2.2.2.1),.h 3,.h 4]),(3,.map r.2.2.2.2.1),(4,.map r.2.2.2.2.2),(5,.sets r.2.2.1 none)]:=by
 refine jfn (fn:=Tryz.f49) Tryz.func49 (jy (engine_Engine_Forget_bg_91ca6.eq_1 ..) ?_)
 refine jm 3 (hr:=?_)
 refine jb fun r_8 h_9=>?_
 refine jr0 [cp 1 (engine_Engine_Undone_b_0db29_spec _ h_9) [(0,0),(1,1),(2,2),(3,3),(4,4),(5,5)] 6] (hr:=?_)
 refine jm 2 (hr:=?_)
 refine jb fun r_12 h_13=>?_
 refine jr0 [cp 5 (rev_Revs_Forget_spec _ h_13) [(0,1),(1,2),(2,3),(3,4),(4,6)] 7] (hr:=?_)
 refine jm 2 (hr:=?_)
 refine jc (h1:=fun b_16=>?_) (h2:=fun b_16=>?_)
 ·refine jm 2 (hr:=?_)
  exact jt (rr [(5,6)])
 ·refine jm 2 (hr:=?_)
  refine jb fun r_19 h_20=>?_
  refine jr0 [cp 7 (engine_rest_ggr_spec _ h_20) [(0,5),(1,7)] 8] (hr:=?_)
  refine jm 2 (hr:=?_)
  refine jg [.shut 7] ?_
  exact jt (rr [(5,6)])
theorem palinodetop_do_bsgggggg_0b63f_spec {K e_1 e_2 e_3 e_4 e_5 s_6 s_7 s_8 s_9 s_10 s_11}:FS Tryz.prog 21 5 [.c (.h 0),.agg [.val (.int .i64 s_6),.val (.int .i64 s_7),.val (.int .i64 s_8),.val (.int .i64 s_9),.imm (.slice kE) s_10,.imm (.slice (.int .i64)) s_11]] [(0,.box [.imm (.slice (.pair .str (.pair (.int .i64) (.pair (.int .i64) (.pair (.int .i64) (.slice kP)))))) e_1,.h 1]),(1,.box [.h 2,.val (.int .i64 e_3),.h 3,.h 4]),(2,.sets e_2 none),(3,.map e_4),(4,.map e_5)] (palinodetop_do_bsgggggg_0b63f K e_1 e_2 e_3 e_4 e_5 s_6 s_7 s_8 s_9 s_10 s_11) (fun r=>.tup [(false,[.val (.int .i64 r.1)]),(false,[.val (.int .i64 r.2.1)])]) fun r=>[(0,.box [.imm (.slice (.pair .str (.pair (.int .i64) (.pair (.int .i64) (.pair (.int .i64) (.slice kP)))))) r.2.2.1,.h 5]),(5,.box [.h 6,.val (.int .i64 r.2.2.2.2.1),.h 7,.h 8]),(6,.sets r.2.2.2.1 none),(7,.map r.2.2.2.2.2.1),(8,.map r.2.2.2.2.2.2)]:=by
 refine jfn (fn:=Tryz.f21) Tryz.func21 (jy (palinodetop_do_bsgggggg_0b63f.eq_1 ..) ?_)
 refine jm 6 (hr:=?_)
 refine jc (h1:=fun b_13=>?_) (h2:=fun b_13=>?_)
 ·refine jm 1 (hr:=?_)
  refine jb fun r_15 h_16=>?_
  refine jr0 [cp 9 (engine_Engine_Edit_bgggg_a4917_spec _ h_16) [(0,0),(1,1),(2,2),(3,3),(4,4),(5,6),(6,7),(7,8),(8,9)] 10] (hr:=?_)
  exact jt (rr [(5,6),(6,7),(7,8),(8,9)])
 ·refine jm 2 (hr:=?_)
  refine jc (h1:=fun b_19=>?_) (h2:=fun b_19=>?_)
  ·refine jm 1 (hr:=?_)
   refine jb fun r_21 h_22=>?_
   refine jr0 [cp 3 (engine_Engine_Toggle_bg_d34b6_spec _ h_22) [(0,0),(1,1),(2,2),(3,3),(4,4),(5,6),(6,7),(7,8),(8,9)] 10] (hr:=?_)
   exact jt (rr [(5,6),(6,7),(7,8),(8,9)])
  ·refine jm 3 (hr:=?_)
   refine jb fun r_25 h_26=>?_
   refine jr0 [cp 3 (engine_Engine_Forget_bg_91ca6_spec _ h_26) [(0,0),(1,1),(2,2),(3,3),(4,4),(5,6)] 7] (hr:=?_)
   exact jt (rr [(5,1),(7,3),(8,4)])
theorem maps_Keys_m_spec {K l_1}:FS Tryz.prog 144 1 [.c (.h 0)] [(0,.map l_1)] (maps_Keys_m K l_1) (fun r=>.c (.clo 210 [1])) fun r=>[(0,.map l_1),(1,.box [.h 0])]:=by
 exact keysM_fs kyLays
theorem slices_Sorted_m_spec {K l_1}:FS Tryz.prog 143 2 [.c (.clo 210 [0])] [(0,.box [.h 1]),(1,.map l_1)] (slices_Sorted_m K l_1) (fun r=>.c (.h 2)) fun r=>[(0,.box [.h 1]),(1,.map l_1),(2,.row (.int .i64) r)]:=by
 exact sortedM_fs (k:=3) (by kernel_rfl) soLays
theorem rev_set_sorted_b_b7351_spec {K s_1}:FS Tryz.prog 101 1 [.c (.h 0)] [(0,.map s_1)] (rev_set_sorted_b_b7351 K s_1) (fun r=>.c (.h 1)) fun r=>[(0,.map s_1),(1,.row (.int .i64) r)]:=by
 refine jfn (fn:=Tryz.f101) Tryz.func101 (jy (rev_set_sorted_b_b7351.eq_1 ..) ?_)
 refine ji 5 (hr:=fun c_2=>?_)
 refine jb fun r_3 h_4=>?_
 refine jb fun r_5 h_6=>?_
 refine jr0 [cp 2 (maps_Keys_m_spec _ h_4) [(0,0),(1,2)] 3,cp 3 (slices_Sorted_m_spec _ h_6) [(0,2),(1,0),(2,3)] 4] (hr:=?_)
 refine jm 2 (hr:=?_)
 exact jt (rr [])
theorem rev_Revs_Groups_b_3cfb0_spec {K r_1 r_2 r_3 r_4}:FS Tryz.prog 78 4 [.c (.h 0)] [(0,.box [.h 1,.val (.int .i64 r_2),.h 2,.h 3]),(1,.sets r_1 none),(2,.map r_3),(3,.map r_4)] (rev_Revs_Groups_b_3cfb0 K r_1 r_2 r_3 r_4) (fun r=>.c (.h 4)) fun r=>[(0,.box [.h 1,.val (.int .i64 r_2),.h 2,.h 3]),(1,.sets r_1 none),(2,.map r_3),(3,.map r_4),(4,.row (.int .i64) r)]:=by
 refine jfn (fn:=Tryz.f78) Tryz.func78 (jy (rev_Revs_Groups_b_3cfb0.eq_1 ..) ?_)
 refine jm 3 (hr:=?_)
 refine jb fun r_6 h_7=>?_
 refine jr0 [cp 4 (rev_set_sorted_b_b7351_spec _ h_7) [(0,2),(1,4)] 5] (hr:=?_)
 exact jt (rr [])
theorem engine_Engine_Groups_b_0db29_spec {K e_1 e_2 e_3 e_4 e_5}:FS Tryz.prog 45 5 [.c (.h 0)] [(0,.box [.imm (.slice (.pair .str (.pair (.int .i64) (.pair (.int .i64) (.pair (.int .i64) (.slice kP)))))) e_1,.h 1]),(1,.box [.h 2,.val (.int .i64 e_3),.h 3,.h 4]),(2,.sets e_2 none),(3,.map e_4),(4,.map e_5)] (engine_Engine_Groups_b_0db29 K e_1 e_2 e_3 e_4 e_5) (fun r=>.c (.h 5)) fun r=>[(0,.box [.imm (.slice (.pair .str (.pair (.int .i64) (.pair (.int .i64) (.pair (.int .i64) (.slice kP)))))) e_1,.h 1]),(1,.box [.h 2,.val (.int .i64 e_3),.h 3,.h 4]),(2,.sets e_2 none),(3,.map e_4),(4,.map e_5),(5,.row (.int .i64) r)]:=by
 refine jfn (fn:=Tryz.f45) Tryz.func45 (jy (engine_Engine_Groups_b_0db29.eq_1 ..) ?_)
 refine jm 3 (hr:=?_)
 refine jb fun r_7 h_8=>?_
 refine jr0 [cp 4 (rev_Revs_Groups_b_3cfb0_spec _ h_8) [(0,1),(1,2),(2,3),(3,4),(4,5)] 6] (hr:=?_)
 exact jt (rr [])
theorem palinoderef17_In_spec {K l_1 n_2}:FS Tryz.prog 46 0 [.c (.imm (.slice (.int .i64)) l_1),cI n_2] [] (palinoderef17_In_rg K l_1 n_2) (fun r=>cB r) fun r=>[]:=by
 refine jfn (fn:=Tryz.f46) Tryz.func46 (jy (palinoderef17_In_rg.eq_1 ..) ?_)
 refine jm 6 (hr:=?_)
 refine jl (X:=Int) (fun k x=>palinoderef17_In_rg.l0 K l_1 n_2 k x) K _ rfl 0 [] (fun x_5=>[(0,.c (.imm (.slice (.int .i64)) l_1)),(1,cI n_2),(5,cI x_5)]) (fun x_5=>[]) (fun _=>rfl) (round:=fun k x_5=>jy (palinoderef17_In_rg.l0.eq_2 ..) ?_)
 refine jm 3 (hr:=?_)
 refine jc (h1:=fun b_7=>?_) (h2:=fun b_7=>?_)
 ·refine ji 5 (hr:=fun c_8=>?_)
  refine jc (h1:=fun b_9=>?_) (h2:=fun b_9=>?_)
  ·refine jm 2 (hr:=?_)
   exact jt (rl (rr []))
  ·refine jm 3 (hr:=?_)
   exact jx _ rfl []
 ·refine jq 0 (ql (qh ?_))
  refine jm 2 (hr:=?_)
  exact jt (rr [])
theorem palinodetop_WholeForgets_spec {K l_1 at_2 mask_3}:FS Tryz.prog 12 0 [.c (.imm (.slice (.pair (.int .i64) (.pair (.int .i64) (.pair (.int .i64) (.pair (.int .i64) (.pair (.slice kE) (.slice (.int .i64)))))))) l_1),.c (.val (.int .u8 at_2)),.c (.val (.int .u64 mask_3))] [] (palinodetop_WholeForgets K l_1 at_2 mask_3) (fun r=>cB r) fun r=>[]:=by
 refine jfn (fn:=Tryz.f12) Tryz.func12 (jy (palinodetop_WholeForgets.eq_1 ..) ?_)
 refine jm 4 (hr:=?_)
 refine jb fun r_5 h_6=>?_
 refine jr0 [cp 0 (palinodetop_known_spec _ h_6) [] 0] (hr:=?_)
 refine jc (h1:=fun b_8=>?_) (h2:=fun b_8=>?_)
 ·refine jm 2 (hr:=?_)
  exact jt (rr [])
 ·refine jm 3 (hr:=?_)
  refine jb fun r_11 h_12=>?_
  refine jr0 [cp 1 (palinodetop_fewSteps_spec _ h_12) [] 0] (hr:=?_)
  refine jc (h1:=fun b_14=>?_) (h2:=fun b_14=>?_)
  ·refine jm 2 (hr:=?_)
   exact jt (rr [])
  ·refine jm 2 (hr:=?_)
   refine jb fun r_17 h_18=>?_
   refine jr0 [cp 0 (engine_New_spec _ h_18) [(0,0),(1,1),(2,2),(3,3),(4,4)] 5] (hr:=?_)
   refine jm 5 (hr:=?_)
   refine ja (Y:=Int) 5 (fun y_220=>[(0,.c (.imm (.slice (.pair (.int .i64) (.pair (.int .i64) (.pair (.int .i64) (.pair (.int .i64) (.pair (.slice kE) (.slice (.int .i64)))))))) l_1)),(2,.c (.val (.int .u64 mask_3))),(7,.c (.h 0)),(8,cI y_220)]) (fun y_220=>[(0,.box [.imm (.slice (.pair .str (.pair (.int .i64) (.pair (.int .i64) (.pair (.int .i64) (.slice kP)))))) ([]:List (ByteArray×(Int×(Int×(Int×(List (Int×Int))))))),.h 1]),(1,.box [.h 2,.val (.int .i64 (0:Int)),.h 3,.h 4]),(2,.sets r_17.1 none),(3,.map r_17.2.1),(4,.map r_17.2.2)]) (h1:=?_) (h2:=fun y_220=>?_)
   ·refine jc (h1:=fun b_21=>?_) (h2:=fun b_21=>?_)
    ·refine ji 1 (hr:=fun c_22=>?_)
     exact jo []
    ·refine jm 1 (hr:=?_)
     exact jo []
   ·refine jm 3 (hr:=?_)
    refine ja (Y:=((List (ByteArray×(Int×(Int×(Int×(List (Int×Int)))))))×(List (List Int))×Int×(List Int)×(List Int))) 13 (fun y_221=>[(0,.c (.imm (.slice (.pair (.int .i64) (.pair (.int .i64) (.pair (.int .i64) (.pair (.int .i64) (.pair (.slice kE) (.slice (.int .i64)))))))) l_1)),(2,.c (.val (.int .u64 mask_3))),(7,.c (.h 0)),(8,cI y_220)]) (fun y_221=>[(0,.box [.imm (.slice (.pair .str (.pair (.int .i64) (.pair (.int .i64) (.pair (.int .i64) (.slice kP)))))) y_221.1,.h 9]),(9,.box [.h 10,.val (.int .i64 y_221.2.2.1),.h 11,.h 12]),(10,.sets y_221.2.1 none),(11,.map y_221.2.2.2.1),(12,.map y_221.2.2.2.2)]) (h1:=?_) (h2:=fun y_221=>?_)
    ·refine jm 1 (hr:=?_)
     refine jl (X:=((List (ByteArray×(Int×(Int×(Int×(List (Int×Int)))))))×(List (List Int))×Int×(List Int)×(List Int)×Int)) (fun k x=>palinodetop_WholeForgets.l0 K y_220 l_1 k x.1 x.2.1 x.2.2.1 x.2.2.2.1 x.2.2.2.2.1 x.2.2.2.2.2) K (([]:List (ByteArray×(Int×(Int×(Int×(List (Int×Int))))))),r_17.1,(0:Int),r_17.2.1,r_17.2.2,(0:Int)) rfl 13 [(9,1),(10,2),(11,3),(12,4)] (fun x_41=>[(0,.c (.imm (.slice (.pair (.int .i64) (.pair (.int .i64) (.pair (.int .i64) (.pair (.int .i64) (.pair (.slice kE) (.slice (.int .i64)))))))) l_1)),(2,.c (.val (.int .u64 mask_3))),(7,.c (.h 0)),(8,cI y_220),(9,cI x_41.2.2.2.2.2)]) (fun x_41=>[(0,.box [.imm (.slice (.pair .str (.pair (.int .i64) (.pair (.int .i64) (.pair (.int .i64) (.slice kP)))))) x_41.1,.h 9]),(9,.box [.h 10,.val (.int .i64 x_41.2.2.1),.h 11,.h 12]),(10,.sets x_41.2.1 none),(11,.map x_41.2.2.2.1),(12,.map x_41.2.2.2.2.1)]) (fun _=>rfl) (round:=fun k x_41=>jy (palinodetop_WholeForgets.l0.eq_2 ..) ?_)
     refine jm 3 (hr:=?_)
     refine jc (h1:=fun b_43=>?_) (h2:=fun b_43=>?_)
     ·refine jm 3 (hr:=?_)
      refine jb fun r_45 h_46=>?_
      refine jri [cp 5 (palinodetop_do_bsgggggg_0b63f_spec _ h_46) [(0,0),(1,9),(2,10),(3,11),(4,12),(5,13),(6,14),(7,15),(8,16)] 17] [] (hr:=fun c_47=>?_)
      refine jm 2 (hr:=?_)
      exact jx (r_45.2.2.1,r_45.2.2.2.1,r_45.2.2.2.2.1,r_45.2.2.2.2.2.1,r_45.2.2.2.2.2.2,(w6 (x_41.2.2.2.2.2+(1:Int)))) rfl [(9,13),(10,14),(11,15),(12,16)]
     ·refine jq 0 (ql (qh ?_))
      exact jo []
    ·refine jm 1 (hr:=?_)
     refine jb fun r_55 h_56=>?_
     refine jr0 [cp 1 (engine_Engine_Copy_b_0db29_spec _ h_56) [(0,0),(1,9),(2,10),(3,11),(4,12),(5,13),(6,14),(7,15),(8,16),(9,17)] 18] (hr:=?_)
     refine jm 3 (hr:=?_)
     refine jb fun r_59 h_60=>?_
     refine jr0 [cp 1 (engine_Engine_Groups_b_0db29_spec _ h_60) [(0,0),(1,9),(2,10),(3,11),(4,12),(5,18)] 19] (hr:=?_)
     refine jm 3 (hr:=?_)
     refine ja (Y:=(List Int)) 23 (fun y_222=>[(0,.c (.imm (.slice (.pair (.int .i64) (.pair (.int .i64) (.pair (.int .i64) (.pair (.int .i64) (.pair (.slice kE) (.slice (.int .i64)))))))) l_1)),(7,.c (.h 0)),(8,cI y_220),(10,.c (.h 13)),(11,.c (.h 22))]) (fun y_222=>[(0,.box [.imm (.slice (.pair .str (.pair (.int .i64) (.pair (.int .i64) (.pair (.int .i64) (.slice kP)))))) y_221.1,.h 9]),(9,.box [.h 10,.val (.int .i64 y_221.2.2.1),.h 11,.h 12]),(10,.sets y_221.2.1 none),(11,.map y_221.2.2.2.1),(12,.map y_221.2.2.2.2),(13,.box [.imm (.slice (.pair .str (.pair (.int .i64) (.pair (.int .i64) (.pair (.int .i64) (.slice kP)))))) r_55.1,.h 14]),(14,.box [.h 15,.val (.int .i64 y_221.2.2.1),.h 16,.h 17]),(15,.sets r_55.2.1 none),(16,.map r_55.2.2.1),(17,.map r_55.2.2.2),(22,.row (.int .i64) y_222)]) (h1:=?_) (h2:=fun y_222=>?_)
     ·refine jm 1 (hr:=?_)
      refine jg [.nilSlot 11 (.int .i64)] ?_
      refine jl (X:=((List Int)×Int)) (fun k x=>palinodetop_WholeForgets.l1 K r_59 mask_3 k x.1 x.2) K (([]:List Int),(0:Int)) rfl 23 [(22,19)] (fun x_74=>[(0,.c (.imm (.slice (.pair (.int .i64) (.pair (.int .i64) (.pair (.int .i64) (.pair (.int .i64) (.pair (.slice kE) (.slice (.int .i64)))))))) l_1)),(2,.c (.val (.int .u64 mask_3))),(7,.c (.h 0)),(8,cI y_220),(10,.c (.h 13)),(11,.c (.h 22)),(12,.c (.h 18)),(13,cI x_74.2)]) (fun x_74=>[(0,.box [.imm (.slice (.pair .str (.pair (.int .i64) (.pair (.int .i64) (.pair (.int .i64) (.slice kP)))))) y_221.1,.h 9]),(9,.box [.h 10,.val (.int .i64 y_221.2.2.1),.h 11,.h 12]),(10,.sets y_221.2.1 none),(11,.map y_221.2.2.2.1),(12,.map y_221.2.2.2.2),(13,.box [.imm (.slice (.pair .str (.pair (.int .i64) (.pair (.int .i64) (.pair (.int .i64) (.slice kP)))))) r_55.1,.h 14]),(14,.box [.h 15,.val (.int .i64 y_221.2.2.1),.h 16,.h 17]),(15,.sets r_55.2.1 none),(16,.map r_55.2.2.1),(17,.map r_55.2.2.2),(18,.row (.int .i64) r_59),(22,.row (.int .i64) x_74.1)]) (fun _=>rfl) (round:=fun k x_74=>jy (palinodetop_WholeForgets.l1.eq_2 ..) ?_)
      refine jm 3 (hr:=?_)
      refine jc (h1:=fun b_76=>?_) (h2:=fun b_76=>?_)
      ·refine ji 5 (hr:=fun c_77=>?_)
       refine jc (h1:=fun b_78=>?_) (h2:=fun b_78=>?_)
       ·refine jp fun c_79=>?_
        refine jn 1 [0≤x_74.2,x_74.2<(lnI r_59),(List.length x_74.1+List.length ([(List.getD r_59 (Int.toNat x_74.2) (0:Int))]:List Int)) * 8≤140737488355328] (ap2 c_77.1 (ap2 c_77.2.1 (ap1 c_79))) (hr:=?_)
        refine jm 2 (hr:=?_)
        exact jx ((x_74.1++([(List.getD r_59 (Int.toNat x_74.2) (0:Int))]:List Int)),(w6 (x_74.2+(1:Int)))) rfl [(22,24)]
       ·refine jm 3 (hr:=?_)
        exact jx (x_74.1,(w6 (x_74.2+(1:Int)))) rfl []
      ·refine jq 2 (ql (qh ?_))
       exact jo []
     ·refine jm 1 (hr:=?_)
      refine jb fun r_84 h_85=>?_
      refine jr0 [cp 1 (engine_Engine_Head_b_0db29_spec _ h_85) [(0,13),(1,14),(2,15),(3,16),(4,17)] 23] (hr:=?_)
      refine jm 2 (hr:=?_)
      refine jg [.shut 22] ?_
      refine ja (Y:=((List (ByteArray×(Int×(Int×(Int×(List (Int×Int)))))))×(List (List Int))×Int×(List Int)×(List Int)×Bool)) 24 (fun y_223=>[(0,.c (.imm (.slice (.pair (.int .i64) (.pair (.int .i64) (.pair (.int .i64) (.pair (.int .i64) (.pair (.slice kE) (.slice (.int .i64)))))))) l_1)),(7,.c (.h 0)),(8,cI y_220),(10,.c (.h 13)),(11,.c (.imm (.slice (.int .i64)) y_222)),(14,cI r_84),(84,cB y_223.2.2.2.2.2)]) (fun y_223=>[(0,.box [.imm (.slice (.pair .str (.pair (.int .i64) (.pair (.int .i64) (.pair (.int .i64) (.slice kP)))))) y_221.1,.h 9]),(9,.box [.h 10,.val (.int .i64 y_221.2.2.1),.h 11,.h 12]),(10,.sets y_221.2.1 none),(11,.map y_221.2.2.2.1),(12,.map y_221.2.2.2.2),(13,.box [.imm (.slice (.pair .str (.pair (.int .i64) (.pair (.int .i64) (.pair (.int .i64) (.slice kP)))))) y_223.1,.h 14]),(14,.box [.h 23,.val (.int .i64 y_223.2.2.1),.h 16,.h 17]),(16,.map y_223.2.2.2.1),(17,.map y_223.2.2.2.2.1),(23,.sets y_223.2.1 none)]) (h1:=?_) (h2:=fun y_223=>?_)
      ·refine jb fun r_88 h_89=>?_
       refine js (fun b_90=>?_) fun b_90=>?_
       ·refine jr [cp 2 (engine_Engine_Forget_bg_91ca6_spec _ h_89) [(0,13),(1,14),(2,15),(3,16),(4,17),(5,23)] 24] [(78,true)] [(r_88.1 !=(0:Int))=true] (ap1 b_90) (hr:=?_)
        exact jo []
       ·refine jb fun r_92 h_93=>?_
        refine jb fun r_94 h_95=>?_
        refine jr [cp 2 (engine_Engine_Forget_bg_91ca6_spec _ h_89) [(0,13),(1,14),(2,15),(3,16),(4,17),(5,23)] 24,cp 6 (palinodetop_now_b_0db29_spec _ h_93) [(0,13),(1,14),(2,23),(3,16),(4,17)] 24,cp 8 (palinodetop_now_b_0db29_spec _ h_95) [(0,0),(1,9),(2,10),(3,11),(4,12)] 24] [(78,false)] [(r_88.1 !=(0:Int))=false] (ap1 b_90) (hr:=?_)
        exact jo []
      ·refine jc (h1:=fun b_103=>?_) (h2:=fun b_103=>?_)
       ·refine jm 2 (hr:=?_)
        exact jt (rr [])
       ·refine jm 5 (hr:=?_)
        refine jl (X:=((List (ByteArray×(Int×(Int×(Int×(List (Int×Int)))))))×(List (List Int))×Int×(List Int)×(List Int)×(List (ByteArray×(Int×(Int×(Int×(List (Int×Int)))))))×(List (List Int))×Int×(List Int)×(List Int)×Int)) (fun k x=>palinodetop_WholeForgets.l2 K l_1 y_222 r_84 k x.1 x.2.1 x.2.2.1 x.2.2.2.1 x.2.2.2.2.1 x.2.2.2.2.2.1 x.2.2.2.2.2.2.1 x.2.2.2.2.2.2.2.1 x.2.2.2.2.2.2.2.2.1 x.2.2.2.2.2.2.2.2.2.1 x.2.2.2.2.2.2.2.2.2.2) K (y_221.1,y_221.2.1,y_221.2.2.1,y_221.2.2.2.1,y_221.2.2.2.2,y_223.1,y_223.2.1,y_223.2.2.1,y_223.2.2.2.1,y_223.2.2.2.2.1,y_220) rfl 41 [(33,9),(34,10),(35,11),(36,12),(37,14),(38,23),(39,16),(40,17)] (fun x_163=>[(0,.c (.imm (.slice (.pair (.int .i64) (.pair (.int .i64) (.pair (.int .i64) (.pair (.int .i64) (.pair (.slice kE) (.slice (.int .i64)))))))) l_1)),(7,.c (.h 0)),(10,.c (.h 13)),(11,.c (.imm (.slice (.int .i64)) y_222)),(14,cI r_84),(15,cI x_163.2.2.2.2.2.2.2.2.2.2)]) (fun x_163=>[(0,.box [.imm (.slice (.pair .str (.pair (.int .i64) (.pair (.int .i64) (.pair (.int .i64) (.slice kP)))))) x_163.1,.h 33]),(13,.box [.imm (.slice (.pair .str (.pair (.int .i64) (.pair (.int .i64) (.pair (.int .i64) (.slice kP)))))) x_163.2.2.2.2.2.1,.h 37]),(33,.box [.h 34,.val (.int .i64 x_163.2.2.1),.h 35,.h 36]),(34,.sets x_163.2.1 none),(35,.map x_163.2.2.2.1),(36,.map x_163.2.2.2.2.1),(37,.box [.h 38,.val (.int .i64 x_163.2.2.2.2.2.2.2.1),.h 39,.h 40]),(38,.sets x_163.2.2.2.2.2.2.1 none),(39,.map x_163.2.2.2.2.2.2.2.2.1),(40,.map x_163.2.2.2.2.2.2.2.2.2.1)]) (fun _=>rfl) (round:=fun k x_163=>jy (palinodetop_WholeForgets.l2.eq_2 ..) ?_)
        refine jm 3 (hr:=?_)
        refine jc (h1:=fun b_165=>?_) (h2:=fun b_165=>?_)
        ·refine ji 7 (hr:=fun c_166=>?_)
         refine ja (Y:=Bool) 42 (fun y_224=>[(0,.c (.imm (.slice (.pair (.int .i64) (.pair (.int .i64) (.pair (.int .i64) (.pair (.int .i64) (.pair (.slice kE) (.slice (.int .i64)))))))) l_1)),(7,.c (.h 0)),(10,.c (.h 13)),(11,.c (.imm (.slice (.int .i64)) y_222)),(14,cI r_84),(15,cI x_163.2.2.2.2.2.2.2.2.2.2),(16,.c (.h 41)),(115,cB y_224)]) (fun y_224=>[(0,.box [.imm (.slice (.pair .str (.pair (.int .i64) (.pair (.int .i64) (.pair (.int .i64) (.slice kP)))))) x_163.1,.h 33]),(13,.box [.imm (.slice (.pair .str (.pair (.int .i64) (.pair (.int .i64) (.pair (.int .i64) (.slice kP)))))) x_163.2.2.2.2.2.1,.h 37]),(33,.box [.h 34,.val (.int .i64 x_163.2.2.1),.h 35,.h 36]),(34,.sets x_163.2.1 none),(35,.map x_163.2.2.2.1),(36,.map x_163.2.2.2.2.1),(37,.box [.h 38,.val (.int .i64 x_163.2.2.2.2.2.2.2.1),.h 39,.h 40]),(38,.sets x_163.2.2.2.2.2.2.1 none),(39,.map x_163.2.2.2.2.2.2.2.2.1),(40,.map x_163.2.2.2.2.2.2.2.2.2.1),(41,.box [.val (.int .i64 (List.getD l_1 (Int.toNat x_163.2.2.2.2.2.2.2.2.2.2) ((0:Int),((0:Int),((0:Int),((0:Int),(([]:(List (Int×(Int×ByteArray)))),([]:(List Int)))))))).1),.val (.int .i64 (List.getD l_1 (Int.toNat x_163.2.2.2.2.2.2.2.2.2.2) ((0:Int),((0:Int),((0:Int),((0:Int),(([]:(List (Int×(Int×ByteArray)))),([]:(List Int)))))))).2.1),.val (.int .i64 (List.getD l_1 (Int.toNat x_163.2.2.2.2.2.2.2.2.2.2) ((0:Int),((0:Int),((0:Int),((0:Int),(([]:(List (Int×(Int×ByteArray)))),([]:(List Int)))))))).2.2.1),.val (.int .i64 (List.getD l_1 (Int.toNat x_163.2.2.2.2.2.2.2.2.2.2) ((0:Int),((0:Int),((0:Int),((0:Int),(([]:(List (Int×(Int×ByteArray)))),([]:(List Int)))))))).2.2.2.1),.imm (.slice kE) (List.getD l_1 (Int.toNat x_163.2.2.2.2.2.2.2.2.2.2) ((0:Int),((0:Int),((0:Int),((0:Int),(([]:(List (Int×(Int×ByteArray)))),([]:(List Int)))))))).2.2.2.2.1,.imm (.slice (.int .i64)) (List.getD l_1 (Int.toNat x_163.2.2.2.2.2.2.2.2.2.2) ((0:Int),((0:Int),((0:Int),((0:Int),(([]:(List (Int×(Int×ByteArray)))),([]:(List Int)))))))).2.2.2.2.2])]) (h1:=?_) (h2:=fun y_224=>?_)
         ·refine js (fun b_167=>?_) fun b_167=>?_
          ·refine jr [] [(99,true)] [(decide ((List.getD l_1 (Int.toNat x_163.2.2.2.2.2.2.2.2.2.2) ((0:Int),((0:Int),((0:Int),((0:Int),(([]:(List (Int×(Int×ByteArray)))),([]:(List Int)))))))).1 > (6:Int)))=true] (ap1 b_167) (hr:=?_)
           exact jo []
          ·refine jb fun r_169 h_170=>?_
           refine js (fun b_171=>?_) fun b_171=>?_
           ·refine jr [cp 7 (palinoderef17_In_spec _ h_170) [] 42] [(99,false),(105,true)] [(decide ((List.getD l_1 (Int.toNat x_163.2.2.2.2.2.2.2.2.2.2) ((0:Int),((0:Int),((0:Int),((0:Int),(([]:(List (Int×(Int×ByteArray)))),([]:(List Int)))))))).1 > (6:Int)))=false,r_169=true] (ap2 b_167 (ap1 b_171)) (hr:=?_)
            exact jo []
           ·refine js (fun b_173=>?_) fun b_173=>?_
            ·refine jr [cp 7 (palinoderef17_In_spec _ h_170) [] 42] [(99,false),(105,false),(109,true)] [(decide ((List.getD l_1 (Int.toNat x_163.2.2.2.2.2.2.2.2.2.2) ((0:Int),((0:Int),((0:Int),((0:Int),(([]:(List (Int×(Int×ByteArray)))),([]:(List Int)))))))).1 > (6:Int)))=false,r_169=false,(decide ((List.getD l_1 (Int.toNat x_163.2.2.2.2.2.2.2.2.2.2) ((0:Int),((0:Int),((0:Int),((0:Int),(([]:(List (Int×(Int×ByteArray)))),([]:(List Int)))))))).1≤(4:Int)))=true] (ap2 b_167 (ap2 b_171 (ap1 b_173))) (hr:=?_)
             exact jo []
            ·refine jr [cp 7 (palinoderef17_In_spec _ h_170) [] 42] [(99,false),(105,false),(109,false)] [(decide ((List.getD l_1 (Int.toNat x_163.2.2.2.2.2.2.2.2.2.2) ((0:Int),((0:Int),((0:Int),((0:Int),(([]:(List (Int×(Int×ByteArray)))),([]:(List Int)))))))).1 > (6:Int)))=false,r_169=false,(decide ((List.getD l_1 (Int.toNat x_163.2.2.2.2.2.2.2.2.2.2) ((0:Int),((0:Int),((0:Int),((0:Int),(([]:(List (Int×(Int×ByteArray)))),([]:(List Int)))))))).1≤(4:Int)))=false] (ap2 b_167 (ap2 b_171 (ap1 b_173))) (hr:=?_)
             exact jo []
         ·refine jc (h1:=fun b_177=>?_) (h2:=fun b_177=>?_)
          ·refine jm 2 (hr:=?_)
           exact jx (x_163.1,x_163.2.1,x_163.2.2.1,x_163.2.2.2.1,x_163.2.2.2.2.1,x_163.2.2.2.2.2.1,x_163.2.2.2.2.2.2.1,x_163.2.2.2.2.2.2.2.1,x_163.2.2.2.2.2.2.2.2.1,x_163.2.2.2.2.2.2.2.2.2.1,(w6 (x_163.2.2.2.2.2.2.2.2.2.2+(1:Int)))) rfl []
          ·refine jm 2 (hr:=?_)
           refine jb fun r_180 h_181=>?_
           refine jr0 [cp 2 (palinodetop_do_bsgggggg_0b63f_spec _ h_181) [(0,0),(1,33),(2,34),(3,35),(4,36),(5,42),(6,43),(7,44),(8,45)] 46] (hr:=?_)
           refine jm 1 (hr:=?_)
           refine jb fun r_184 h_185=>?_
           refine jr0 [cp 2 (palinodetop_do_bsgggggg_0b63f_spec _ h_185) [(0,13),(1,37),(2,38),(3,39),(4,40),(5,46),(6,47),(7,48),(8,49)] 50] (hr:=?_)
           refine jm 2 (hr:=?_)
           refine ja (Y:=Bool) 50 (fun y_225=>[(0,.c (.imm (.slice (.pair (.int .i64) (.pair (.int .i64) (.pair (.int .i64) (.pair (.int .i64) (.pair (.slice kE) (.slice (.int .i64)))))))) l_1)),(7,.c (.h 0)),(10,.c (.h 13)),(11,.c (.imm (.slice (.int .i64)) y_222)),(14,cI r_84),(15,cI x_163.2.2.2.2.2.2.2.2.2.2),(17,cI r_180.1),(18,cI r_180.2.1),(19,cI r_184.1),(20,cI r_184.2.1),(133,cB y_225)]) (fun y_225=>[(0,.box [.imm (.slice (.pair .str (.pair (.int .i64) (.pair (.int .i64) (.pair (.int .i64) (.slice kP)))))) r_180.2.2.1,.h 42]),(13,.box [.imm (.slice (.pair .str (.pair (.int .i64) (.pair (.int .i64) (.pair (.int .i64) (.slice kP)))))) r_184.2.2.1,.h 46]),(42,.box [.h 43,.val (.int .i64 r_180.2.2.2.2.1),.h 44,.h 45]),(43,.sets r_180.2.2.2.1 none),(44,.map r_180.2.2.2.2.2.1),(45,.map r_180.2.2.2.2.2.2),(46,.box [.h 47,.val (.int .i64 r_184.2.2.2.2.1),.h 48,.h 49]),(47,.sets r_184.2.2.2.1 none),(48,.map r_184.2.2.2.2.2.1),(49,.map r_184.2.2.2.2.2.2)]) (h1:=?_) (h2:=fun y_225=>?_)
           ·refine js (fun b_188=>?_) fun b_188=>?_
            ·refine jr [] [(130,true)] [(r_180.2.1==(70:Int))=true] (ap1 b_188) (hr:=?_)
             exact jo []
            ·refine jr [] [(130,false)] [(r_180.2.1==(70:Int))=false] (ap1 b_188) (hr:=?_)
             exact jo []
           ·refine jc (h1:=fun b_192=>?_) (h2:=fun b_192=>?_)
            ·refine jm 2 (hr:=?_)
             exact jt (rl (rr []))
            ·refine jm 2 (hr:=?_)
             refine ja (Y:=Bool) 50 (fun y_226=>[(0,.c (.imm (.slice (.pair (.int .i64) (.pair (.int .i64) (.pair (.int .i64) (.pair (.int .i64) (.pair (.slice kE) (.slice (.int .i64)))))))) l_1)),(7,.c (.h 0)),(10,.c (.h 13)),(11,.c (.imm (.slice (.int .i64)) y_222)),(14,cI r_84),(15,cI x_163.2.2.2.2.2.2.2.2.2.2),(148,cB y_226)]) (fun y_226=>[(0,.box [.imm (.slice (.pair .str (.pair (.int .i64) (.pair (.int .i64) (.pair (.int .i64) (.slice kP)))))) r_180.2.2.1,.h 42]),(13,.box [.imm (.slice (.pair .str (.pair (.int .i64) (.pair (.int .i64) (.pair (.int .i64) (.slice kP)))))) r_184.2.2.1,.h 46]),(42,.box [.h 43,.val (.int .i64 r_180.2.2.2.2.1),.h 44,.h 45]),(43,.sets r_180.2.2.2.1 none),(44,.map r_180.2.2.2.2.2.1),(45,.map r_180.2.2.2.2.2.2),(46,.box [.h 47,.val (.int .i64 r_184.2.2.2.2.1),.h 48,.h 49]),(47,.sets r_184.2.2.2.1 none),(48,.map r_184.2.2.2.2.2.1),(49,.map r_184.2.2.2.2.2.2)]) (h1:=?_) (h2:=fun y_226=>?_)
             ·refine js (fun b_195=>?_) fun b_195=>?_
              ·refine jr [] [(137,true)] [(r_180.1 !=r_184.1)=true] (ap1 b_195) (hr:=?_)
               exact jo []
              ·refine js (fun b_197=>?_) fun b_197=>?_
               ·refine jr [] [(137,false),(142,true)] [(r_180.1 !=r_184.1)=false,(r_180.2.1 !=r_184.2.1)=true] (ap2 b_195 (ap1 b_197)) (hr:=?_)
                exact jo []
               ·refine jb fun r_199 h_200=>?_
                refine jb fun r_201 h_202=>?_
                refine jr [cp 10 (palinodetop_now_b_0db29_spec _ h_200) [(0,0),(1,42),(2,43),(3,44),(4,45)] 50,cp 12 (palinodetop_now_b_0db29_spec _ h_202) [(0,13),(1,46),(2,47),(3,48),(4,49)] 50] [(137,false),(142,false)] [(r_180.1 !=r_184.1)=false,(r_180.2.1 !=r_184.2.1)=false] (ap2 b_195 (ap1 b_197)) (hr:=?_)
                exact jo []
             ·refine jc (h1:=fun b_205=>?_) (h2:=fun b_205=>?_)
              ·refine jm 2 (hr:=?_)
               exact jt (rl (rr []))
              ·refine jm 3 (hr:=?_)
               exact jx (r_180.2.2.1,r_180.2.2.2.1,r_180.2.2.2.2.1,r_180.2.2.2.2.2.1,r_180.2.2.2.2.2.2,r_184.2.2.1,r_184.2.2.2.1,r_184.2.2.2.2.1,r_184.2.2.2.2.2.1,r_184.2.2.2.2.2.2,(w6 (x_163.2.2.2.2.2.2.2.2.2.2+(1:Int)))) rfl [(33,42),(34,43),(35,44),(36,45),(37,46),(38,47),(39,48),(40,49)]
        ·refine jq 4 (ql (qh ?_))
         refine jm 2 (hr:=?_)
         exact jt (rr [])
end Go.Pal
