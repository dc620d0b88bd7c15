/- The Go functions that WholeStyles reaches compute what the plain functions say: a part, printed by a program of this workplace. -/
import Derived.Test.YtidbfmbocikkgaaGreatChecked
import Derived.Test.YtidbfmbocikkgaaGreatWalkWholeStyles0
namespace Go.Pal
open Go Go.Proofs
set_option maxRecDepth 100000
set_option linter.unusedVariables false
theorem H8 {K l_1 n_2}:FS Tryz.prog 166 0 [.c (.imm (.slice (.int .i64)) l_1),cI n_2] [] (CM K l_1 n_2) (fun r=>cB r) fun r=>[]:=by
 refine jfn (fn:=Tryz.f166) Tryz.func166 (jy (CM.eq_1 ..) ?_)
 refine jm 8 (hr:=?_)
 refine jl (X:=Int) (fun k x=>CM.l0 K l_1 n_2 k x) K _ rfl 0 [] (fun x_5=>[(0,.c (.imm (.slice (.int .i64)) l_1)),(1,cI (mn2 n_2 (20000:Int))),(9,.c (.imm (.slice (.int .i64)) l_1)),(10,cI (lnI l_1)),(11,cI x_5)]) (fun x_5=>[]) (fun _=>rfl) (round:=fun k x_5=>jy (CM.l0.eq_2 ..) ?_)
 refine jm 3 (hr:=?_)
 refine jc (h1:=fun b_7=>?_) (h2:=fun b_7=>?_)
 ·refine ji 6 (hr:=fun c_8=>?_)
  refine ja (Y:=Bool) 0 (fun y_24=>[(0,.c (.imm (.slice (.int .i64)) l_1)),(1,cI (mn2 n_2 (20000:Int))),(9,.c (.imm (.slice (.int .i64)) l_1)),(10,cI (lnI l_1)),(11,cI x_5),(35,cB y_24)]) (fun y_24=>[]) (h1:=?_) (h2:=fun y_24=>?_)
  ·refine js (fun b_9=>?_) fun b_9=>?_
   ·refine jr [] [(18,true)] [(decide ((List.getD l_1 (Int.toNat x_5) (0:Int))≤(0:Int)))=true] (ap1 b_9) (hr:=?_)
    exact jo []
   ·refine js (fun b_11=>?_) fun b_11=>?_
    ·refine jr [] [(18,false),(23,true)] [(decide ((List.getD l_1 (Int.toNat x_5) (0:Int))≤(0:Int)))=false,(decide ((List.getD l_1 (Int.toNat x_5) (0:Int))≥(mn2 n_2 (20000:Int))))=true] (ap2 b_9 (ap1 b_11)) (hr:=?_)
     exact jo []
    ·refine js (fun b_13=>?_) fun b_13=>?_
     ·refine jp fun c_14=>?_
      refine jr [] [(18,false),(23,false),(26,true)] [(decide ((List.getD l_1 (Int.toNat x_5) (0:Int))≤(0:Int)))=false,(decide ((List.getD l_1 (Int.toNat x_5) (0:Int))≥(mn2 n_2 (20000:Int))))=false,(decide (x_5 > (0:Int)))=true,0≤(w6 (x_5 - (1:Int))),(w6 (x_5 - (1:Int)))<(lnI l_1)] (ap2 b_9 (ap2 b_11 (ap2 b_13 (ap2 c_14.1 (ap1 c_14.2))))) (hr:=?_)
      exact jo []
     ·refine jr [] [(18,false),(23,false),(26,false)] [(decide ((List.getD l_1 (Int.toNat x_5) (0:Int))≤(0:Int)))=false,(decide ((List.getD l_1 (Int.toNat x_5) (0:Int))≥(mn2 n_2 (20000:Int))))=false,(decide (x_5 > (0:Int)))=false] (ap2 b_9 (ap2 b_11 (ap1 b_13))) (hr:=?_)
      exact jo []
  ·refine jc (h1:=fun b_17=>?_) (h2:=fun b_17=>?_)
   ·refine jm 2 (hr:=?_)
    exact jt (rl (rr []))
   ·refine jm 3 (hr:=?_)
    exact jx _ rfl []
 ·refine jq 0 (ql (qh ?_))
  refine jm 2 (hr:=?_)
  exact jt (rr [])
theorem R8 {K d_1 d_2}:FS Tryz.prog 226 0 [.agg [.val (.int .i64 d_1),.imm (.slice kE) d_2]] [] (BU K d_1 d_2) (fun r=>.tup [(false,[.val (.int .i64 r.1)]),(false,[.val (.int .i64 r.2)])]) fun r=>[]:=by
 refine jfn (fn:=Tryz.f226) Tryz.func226 (jy (BU.eq_1 ..) ?_)
 refine jm 6 (hr:=?_)
 refine jb fun r_4 h_5=>?_
 refine jr0 [cp 1 (D1 _ h_5) [] 1] (hr:=?_)
 refine jc (h1:=fun b_7=>?_) (h2:=fun b_7=>?_)
 ·refine jm 2 (hr:=?_)
  exact jt (rr [])
 ·refine jm 5 (hr:=?_)
  refine jl (X:=(Int×Int×Int)) (fun k x=>BU.l0 K d_2 k x.1 x.2.1 x.2.2) K ((0:Int),(0:Int),(0:Int)) rfl 1 [] (fun x_13=>[(4,cI x_13.1),(5,cI x_13.2.1),(12,.c (.imm (.slice kE) d_2)),(13,cI (lnI d_2)),(14,cI x_13.2.2)]) (fun x_13=>[]) (fun _=>rfl) (round:=fun k x_13=>jy (BU.l0.eq_2 ..) ?_)
  refine jm 3 (hr:=?_)
  refine jc (h1:=fun b_15=>?_) (h2:=fun b_15=>?_)
  ·refine ji 8 (hr:=fun c_16=>?_)
   refine jm 2 (hr:=?_)
   exact jx ((w6 (x_13.1+(w6 ((List.getD d_2 (Int.toNat x_13.2.2) zE).2.1 - (List.getD d_2 (Int.toNat x_13.2.2) zE).1)))),(w6 (x_13.2.1+(((ByteArray.size (List.getD d_2 (Int.toNat x_13.2.2) zE).2.2):Nat):Int))),(w6 (x_13.2.2+(1:Int)))) rfl []
  ·refine jq 0 (ql (qh ?_))
   refine jm 2 (hr:=?_)
   exact jt (rr [])
theorem R6 {K d_1 d_2}:FS Tryz.prog 167 0 [.agg [.val (.int .i64 d_1),.imm (.slice kE) d_2]] [] (FY K d_1 d_2) (fun r=>cI r) fun r=>[]:=by
 refine jfn (fn:=Tryz.f167) Tryz.func167 (jy (FY.eq_1 ..) ?_)
 refine jm 3 (hr:=?_)
 refine jb fun r_4 h_5=>?_
 refine jr0 [cp 1 (R8 _ h_5) [] 1] (hr:=?_)
 refine jm 2 (hr:=?_)
 exact jt (rr [])
theorem Q5 {K l_1 d_2 d_3}:FS Tryz.prog 108 0 [.c (.imm (.slice (.int .i64)) l_1),.agg [.val (.int .i64 d_2),.imm (.slice kE) d_3]] [] (BM K l_1 d_2 d_3) (fun r=>.tup [(false,[.h 0]),(false,[.val (.int .i64 r.2)])]) fun r=>[(0,.row (.int .i64) r.1)]:=by
 refine jfn (fn:=Tryz.f108) Tryz.func108 (jy (BM.eq_1 ..) ?_)
 refine jm 4 (hr:=?_)
 refine ja (Y:=Bool) 1 (fun y_69=>[(0,.c (.imm (.slice (.int .i64)) l_1)),(3,.c (.h 0)),(20,cB y_69)]) (fun y_69=>[(0,.box [.val (.int .i64 d_2),.imm (.slice kE) d_3])]) (h1:=?_) (h2:=fun y_69=>?_)
 ·refine jb fun r_5 h_6=>?_
  refine js (fun b_7=>?_) fun b_7=>?_
  ·refine jr [cp 1 (D1 _ h_6) [] 1] [(14,true)] [(!r_5)=true] (ap1 b_7) (hr:=?_)
   exact jo []
  ·refine jb fun r_9 h_10=>?_
   refine jr [cp 1 (D1 _ h_6) [] 1,cp 7 (H8 _ h_10) [] 1] [(14,false)] [(!r_5)=false] (ap1 b_7) (hr:=?_)
   exact jo []
 ·refine jc (h1:=fun b_13=>?_) (h2:=fun b_13=>?_)
  ·refine jm 2 (hr:=?_)
   refine jg [.nilSlot 4 (.int .i64)] ?_
   exact jt (rr [(0,1)])
  ·refine jm 4 (hr:=?_)
   refine jb fun r_16 h_17=>?_
   refine jr0 [cp 1 (R6 _ h_17) [] 1] (hr:=?_)
   refine jm 4 (hr:=?_)
   refine jg [.nilSlot 6 (.int .i64)] ?_
   refine jl (X:=((List Int)×Int)) (fun k x=>BM.l0 K l_1 d_2 d_3 r_16 k x.1 x.2) K (([]:List Int),(0:Int)) rfl 5 [(4,1)] (fun x_43=>[(3,.c (.h 0)),(6,.c (.h 4)),(7,cI r_16),(23,.c (.imm (.slice (.int .i64)) l_1)),(24,cI (lnI l_1)),(25,cI x_43.2)]) (fun x_43=>[(0,.box [.val (.int .i64 d_2),.imm (.slice kE) d_3]),(4,.row (.int .i64) x_43.1)]) (fun _=>rfl) (round:=fun k x_43=>jy (BM.l0.eq_2 ..) ?_)
   refine jm 3 (hr:=?_)
   refine jc (h1:=fun b_45=>?_) (h2:=fun b_45=>?_)
   ·refine ji 6 (hr:=fun c_46=>?_)
    refine jb fun r_47 h_48=>?_
    refine jr0 [cp 2 (GG _ h_48) [] 5] (hr:=?_)
    refine jm 1 (hr:=?_)
    refine ja (Y:=Bool) 5 (fun y_70=>[(3,.c (.h 0)),(6,.c (.h 4)),(7,cI r_16),(10,cI r_47),(23,.c (.imm (.slice (.int .i64)) l_1)),(24,cI (lnI l_1)),(25,cI x_43.2),(53,cB y_70)]) (fun y_70=>[(0,.box [.val (.int .i64 d_2),.imm (.slice kE) d_3]),(4,.row (.int .i64) x_43.1)]) (h1:=?_) (h2:=fun y_70=>?_)
    ·refine js (fun b_51=>?_) fun b_51=>?_
     ·refine js (fun b_52=>?_) fun b_52=>?_
      ·refine js (fun b_53=>?_) fun b_53=>?_
       ·refine jr [] [(34,true),(39,true),(43,true)] [(decide (r_47 > (0:Int)))=true,(decide (r_47<r_16))=true,((lnI x_43.1)==(0:Int))=true] (ap2 b_51 (ap2 b_52 (ap1 b_53))) (hr:=?_)
        exact jo []
       ·refine jp fun c_55=>?_
        refine jr [] [(34,true),(39,true),(43,false)] [(decide (r_47 > (0:Int)))=true,(decide (r_47<r_16))=true,((lnI x_43.1)==(0:Int))=false,0≤(w6 ((lnI x_43.1) - (1:Int))),(w6 ((lnI x_43.1) - (1:Int)))<(lnI x_43.1)] (ap2 b_51 (ap2 b_52 (ap2 b_53 (ap2 c_55.1 (ap1 c_55.2))))) (hr:=?_)
        exact jo []
      ·refine jr [] [(34,true),(39,false)] [(decide (r_47 > (0:Int)))=true,(decide (r_47<r_16))=false] (ap2 b_51 (ap1 b_52)) (hr:=?_)
       exact jo []
     ·refine jr [] [(34,false)] [(decide (r_47 > (0:Int)))=false] (ap1 b_51) (hr:=?_)
      exact jo []
    ·refine jc (h1:=fun b_59=>?_) (h2:=fun b_59=>?_)
     ·refine ji 1 (hr:=fun c_60=>?_)
      refine jm 2 (hr:=?_)
      exact jx ((x_43.1++([r_47]:List Int)),(w6 (x_43.2+(1:Int)))) rfl [(4,6)]
     ·refine jm 3 (hr:=?_)
      exact jx (x_43.1,(w6 (x_43.2+(1:Int)))) rfl []
   ·refine jq 0 (ql (qh ?_))
    refine jm 2 (hr:=?_)
    exact jt (rr [(0,4)])
theorem L7 {K v_1 v_2 v_3 v_4 v_5 v_6 v_7 v_8 v_9 was_10 was_11 was_12 was_13 was_14 was_15 was_16 was_17 was_18}:FS Tryz.prog 65 12 [.c (.h 0),.c (.h 6)] [(0,.box [.h 1,.imm (.opt (.opt .node)) v_6,.imm (.slice kP) v_7,.imm (.slice kS) v_8,.imm (.slice (.int .i64)) v_9]),(1,.box [.imm (.slice kAt) v_1,.h 2]),(2,.box [.h 3,.val (.int .i64 v_3),.h 4,.h 5]),(3,.sets v_2 none),(4,.map v_4),(5,.map v_5),(6,.box [.h 7,.imm (.opt (.opt .node)) was_15,.imm (.slice kP) was_16,.imm (.slice kS) was_17,.imm (.slice (.int .i64)) was_18]),(7,.box [.imm (.slice kAt) was_10,.h 8]),(8,.box [.h 9,.val (.int .i64 was_12),.h 10,.h 11]),(9,.sets was_11 none),(10,.map was_13),(11,.map was_14)] (EI K v_1 v_2 v_3 v_4 v_5 v_6 v_7 v_8 v_9 was_10 was_11 was_12 was_13 was_14 was_15 was_16 was_17 was_18) (fun r=>cI r.1) fun r=>[(0,.box [.h 1,.imm (.opt (.opt .node)) v_6,.imm (.slice kP) r.2.1,.imm (.slice kS) r.2.2.1,.imm (.slice (.int .i64)) r.2.2.2]),(1,.box [.imm (.slice kAt) v_1,.h 2]),(2,.box [.h 3,.val (.int .i64 v_3),.h 4,.h 5]),(3,.sets v_2 none),(4,.map v_4),(5,.map v_5),(6,.box [.h 7,.imm (.opt (.opt .node)) was_15,.imm (.slice kP) was_16,.imm (.slice kS) was_17,.imm (.slice (.int .i64)) was_18]),(7,.box [.imm (.slice kAt) was_10,.h 8]),(8,.box [.h 9,.val (.int .i64 was_12),.h 10,.h 11]),(9,.sets was_11 none),(10,.map was_13),(11,.map was_14)]:=by
 refine jfn (fn:=Tryz.f65) Tryz.func65 (jy (EI.eq_1 ..) ?_)
 refine jm 3 (hr:=?_)
 refine jb fun r_20 h_21=>?_
 refine jb fun r_22 h_23=>?_
 refine jb fun r_24 h_25=>?_
 refine jw0 [cp 5 (C3 _ h_21) [(0,6),(1,7),(2,8),(3,9),(4,10),(5,11)] 12,cp 7 (C3 _ h_23) [(0,0),(1,1),(2,2),(3,3),(4,4),(5,5)] 12,cp 8 (RA _ h_25) [(0,1),(1,2),(2,3),(3,4),(4,5)] 12] (hr:=?_)
 refine jm 3 (hr:=?_)
 refine jc (h1:=fun b_28=>?_) (h2:=fun b_28=>?_)
 ·refine jm 2 (hr:=?_)
  exact jt (rr [])
 ·refine jm 3 (hr:=?_)
  refine jb fun r_31 h_32=>?_
  refine jw0 [cp 6 (UH _ h_32) [(0,13)] 14] (hr:=?_)
  refine jm 2 (hr:=?_)
  refine jc (h1:=fun b_35=>?_) (h2:=fun b_35=>?_)
  ·refine jm 2 (hr:=?_)
   refine jg [.shut 13] ?_
   exact jt (rr [])
  ·refine jm 3 (hr:=?_)
   refine jb fun r_38 h_39=>?_
   refine jw0 [cp 6 (W8 _ h_39) [(0,14)] 15] (hr:=?_)
   refine jm 2 (hr:=?_)
   refine jc (h1:=fun b_42=>?_) (h2:=fun b_42=>?_)
   ·refine jm 2 (hr:=?_)
    refine jg [.shut 13,.shut 14] ?_
    exact jt (rr [])
   ·refine jm 2 (hr:=?_)
    refine jb fun r_45 h_46=>?_
    refine jw0 [cp 6 (Q5 _ h_46) [(0,15)] 16] (hr:=?_)
    refine jm 2 (hr:=?_)
    refine jg [.shut 13,.shut 14,.shut 15] ?_
    exact jt (rr [])
theorem S6 {K e_1 e_2 e_3 e_4 e_5}:FS Tryz.prog 24 5 [.c (.h 0)] [(0,.box [.imm (.slice kAt) e_1,.h 1]),(1,.box [.h 2,.val (.int .i64 e_3),.h 3,.h 4]),(2,.sets e_2 none),(3,.map e_4),(4,.map e_5)] (JD K e_1 e_2 e_3 e_4 e_5) (fun r=>.c (.h 5)) fun r=>[(0,.box [.imm (.slice kAt) e_1,.h 1]),(1,.box [.h 2,.val (.int .i64 e_3),.h 3,.h 4]),(2,.sets e_2 none),(3,.map e_4),(4,.map e_5),(5,.row (.int .i64) r)]:=by
 refine jfn (fn:=Tryz.f24) Tryz.func24 (jy (JD.eq_1 ..) ?_)
 refine jm 3 (hr:=?_)
 refine jb fun r_7 h_8=>?_
 refine jb fun r_9 h_10=>?_
 refine jw0 [cp 5 (HO _ h_8) [(0,0),(1,1),(2,2),(3,3),(4,4)] 5,cp 6 (NW _ h_10) [(0,1),(1,2),(2,3),(3,4),(4,5)] 6] (hr:=?_)
 exact jt (rr [])
theorem UT {K r_1 r_2 r_3 r_4}:FS Tryz.prog 80 4 [.c (.h 0),.c (.val (.slice none 0 0))] [(0,.box [.h 1,.val (.int .i64 r_2),.h 2,.h 3]),(1,.sets r_1 none),(2,.map r_3),(3,.map r_4)] (DO K r_1 r_2 r_3 r_4 ([]:(List Int))) (fun r=>cI r.1) fun r=>[(0,.box [.h 4,.val (.int .i64 r.2.2.1),.h 2,.h 3]),(2,.map r.2.2.2.1),(3,.map r.2.2.2.2),(4,.sets r.2.1 none)]:=by
 refine jfn (fn:=Tryz.f80) Tryz.func80 (jy (DO.eq_1 ..) ?_)
 refine jm 7 (hr:=?_)
 refine ja2 (Y:=(List Int)) 6 (fun y_50=>[(0,.c (.h 0)),(5,.c (.h 4))]) (fun y_50=>[(0,.box [.h 1,.val (.int .i64 r_2),.h 2,.h 3]),(1,.sets r_1 none),(2,.map r_3),(3,.map r_4),(4,.map y_50)]) (h1:=?_) (h2:=fun y_50=>?_)
 ·refine jm 1 (hr:=?_)
  refine jl (X:=((List Int)×Int)) (fun k x=>DO.l0 K ([]:(List Int)) r_1 r_2 r_3 r_4 k x.1 x.2) K (([]:List Int),(0:Int)) rfl 6 [] (fun x_24=>[(0,.c (.h 0)),(5,.c (.h 4)),(13,.c (.val (.slice none 0 0))),(14,cI (lnI ([]:(List Int)))),(15,cI x_24.2)]) (fun x_24=>[(0,.box [.h 1,.val (.int .i64 r_2),.h 2,.h 3]),(1,.sets r_1 none),(2,.map r_3),(3,.map r_4),(4,.map x_24.1)]) (fun _=>rfl) (round:=fun k x_24=>jy (DO.l0.eq_2 ..) ?_)
  refine jm 3 (hr:=?_)
  refine jc (h1:=fun b_26=>?_) (h2:=fun b_26=>?_)
  ·refine ji 9 (hr:=fun c_27=>?_)
   refine ja (Y:=Bool) 7 (fun y_51=>[(0,.c (.h 0)),(5,.c (.h 4)),(7,cI (List.getD ([]:(List Int)) (Int.toNat x_24.2) (0:Int))),(13,.c (.val (.slice none 0 0))),(14,cI (lnI ([]:(List Int)))),(15,cI x_24.2),(31,cB y_51)]) (fun y_51=>[(0,.box [.h 1,.val (.int .i64 r_2),.h 2,.h 3]),(1,.sets r_1 none),(2,.map r_3),(3,.map r_4),(4,.map x_24.1)]) (h1:=?_) (h2:=fun y_51=>?_)
   ·refine js (fun b_28=>?_) fun b_28=>?_
    ·refine jr [] [(26,true)] [(List.contains x_24.1 (List.getD ([]:(List Int)) (Int.toNat x_24.2) (0:Int)))=true] (ap1 b_28) (hr:=?_)
     exact jo []
    ·refine jb fun r_30 h_31=>?_
     refine jr [cp 4 (NX _ h_31) [(0,0),(1,1),(2,2),(3,3)] 7] [(26,false)] [(List.contains x_24.1 (List.getD ([]:(List Int)) (Int.toNat x_24.2) (0:Int)))=false] (ap1 b_28) (hr:=?_)
     exact jo []
   ·refine jc (h1:=fun b_34=>?_) (h2:=fun b_34=>?_)
    ·refine jm 2 (hr:=?_)
     exact jt (rl (rc (rr [(4,1)])))
    ·refine ji 2 (hr:=fun c_36=>?_)
     refine jm 2 (hr:=?_)
     exact jx ((insS (List.getD ([]:(List Int)) (Int.toNat x_24.2) (0:Int)) x_24.1),(w6 (x_24.2+(1:Int)))) rfl []
  ·refine jq 0 (ql (qh ?_))
   exact jo []
 ·refine jm 1 (hr:=?_)
  refine jwi [] [] (hr:=fun c_40=>?_)
  refine jm 1 (hr:=?_)
  refine jb fun r_42 h_43=>?_
  refine jr0 [cp 2 (F4 _ h_43) [(0,0),(1,1),(2,2),(3,3)] 6] (hr:=?_)
  refine jp fun c_1=>?_
  refine jspl 10 1 _ r_1 c_1 (hr:=?_)
  refine jm 2 (hr:=?_)
  refine jg0 (.lits 7) (hr:=?_)
  refine jm 4 (hr:=?_)
  refine jl (X:=(List Int×Option Int×List Int×List Int×List Int)) (fun k x=>if x.1.length<k∧inW x.1=true then some (fgR r_42 x.1 x.2.2.1 x.2.2.2.1 x.2.2.2.2) else none) (y_50.length+1) (y_50,none,r_1.getD (Int.toNat (IntKind.wrap .i64 ((((List.length r_1):Nat):Int) - (1:Int)))) [],r_3,r_4) rfl 10 [] (fun x=>[(0,.c (.h 0)),(10,.c (.h 6)),(59,.c (.h 9))]) (fun x=>[(0,.box [.h 8,.val (.int .i64 r_42),.h 2,.h 3]),(2,.map x.2.2.2.1),(3,.map x.2.2.2.2),(6,.map x.2.2.1),(8,.sets [] (some 6)),(9,.mit x.1 x.2.1)]) (fun _=>by simp) (round:=fun k x=>jp fun c_2=>?_)
  refine jm 1 (hr:=?_)
  refine jmit x.1 (fun g=>by kernel_rfl) (h1:=fun g hg=>?_) (h0:=fun h0=>?_)
  ·refine jn 12 [-9223372036854775808≤g,g≤9223372036854775807] (by have:=List.all_eq_true.1 c_2.2 g hg; simpa [allP] using this) (hr:=?_)
   refine jx (x.1.erase g,some g,delS g x.2.2.1,delS g x.2.2.2.1,insS g x.2.2.2.2) ?_ []
   rw [fgR_step hg,if_pos]
   refine ⟨?_,List.all_eq_true.2 fun y hy=>List.all_eq_true.1 c_2.2 y (List.mem_of_mem_erase hy)⟩
   have:=List.length_erase_of_mem hg
   have:=List.length_pos_of_mem hg
   have:=c_2.1
   show (x.1.erase g).length<k
   omega
  ·refine jy (y:=some (0,[x.2.2.1],r_42,x.2.2.2.1,x.2.2.2.2)) (by rw [h0]; simp [fgR]) ?_
   refine jm 2 (hr:=?_)
   refine jq 2 (ql (qh ?_))
   refine jm 2 (hr:=?_)
   refine jg0 (.absorb 8) (hr:=?_)
   exact jt (rr [(4,10)])
theorem VY {K s_1 v_2}:FS Tryz.prog 201 0 [.c (.imm (.slice (.int .i64)) s_1),cI v_2] [] (B5 K s_1 v_2) (fun r=>cI r) fun r=>[]:=by
 refine jfn (fn:=Tryz.f201) Tryz.func201 (jy (B5.eq_1 ..) ?_)
 refine jm 6 (hr:=?_)
 refine jl (X:=Int) (fun k x=>B5.l0 K s_1 v_2 k x) K _ rfl 0 [] (fun x_5=>[(0,.c (.imm (.slice (.int .i64)) s_1)),(1,cI v_2),(7,cI (lnI s_1)),(8,cI x_5)]) (fun x_5=>[]) (fun _=>rfl) (round:=fun k x_5=>jy (B5.l0.eq_2 ..) ?_)
 refine jm 3 (hr:=?_)
 refine jc (h1:=fun b_7=>?_) (h2:=fun b_7=>?_)
 ·refine ji 7 (hr:=fun c_8=>?_)
  refine jc (h1:=fun b_9=>?_) (h2:=fun b_9=>?_)
  ·refine jm 2 (hr:=?_)
   exact jt (rl (rr []))
  ·refine jm 3 (hr:=?_)
   exact jx _ rfl []
 ·refine jq 0 (ql (qh ?_))
  refine jm 2 (hr:=?_)
  exact jt (rr [])
theorem GP {K s_1 v_2}:FS Tryz.prog 131 0 [.c (.imm (.slice (.int .i64)) s_1),cI v_2] [] (C6 K s_1 v_2) (fun r=>cB r) fun r=>[]:=by
 refine jfn (fn:=Tryz.f131) Tryz.func131 (jy (C6.eq_1 ..) ?_)
 refine jm 3 (hr:=?_)
 refine jb fun r_4 h_5=>?_
 refine jr0 [cp 2 (VY _ h_5) [] 0] (hr:=?_)
 exact jt (rr [])
theorem JF {K g_1 p_2 p_3}:FS Tryz.prog 130 3 [cI g_1,.c (.h 0),.c (.h 1)] [(0,.box [.imm (.slice (.int .i64)) p_2]),(1,.box [.h 2]),(2,.row (.int .i64) p_3)] (HR K g_1 p_2 p_3) (fun r=>cB r) fun r=>[(0,.box [.imm (.slice (.int .i64)) p_2]),(1,.box [.h 2]),(2,.row (.int .i64) p_3)]:=by
 refine jfn (fn:=Tryz.f130) Tryz.func130 (jy (HR.eq_1 ..) ?_)
 refine jm 3 (hr:=?_)
 refine jb fun r_5 h_6=>?_
 refine js (fun b_7=>?_) fun b_7=>?_
 ·refine jb fun r_8 h_9=>?_
  refine jr [cp 2 (GP _ h_6) [] 3,cp 6 (KG _ h_9) [(0,2)] 3] [(8,true)] [r_5=true] (ap1 b_7) (hr:=?_)
  exact jt (rr [])
 ·refine jr [cp 2 (GP _ h_6) [] 3] [(8,false)] [r_5=false] (ap1 b_7) (hr:=?_)
  exact jt (rr [])
theorem S8 {K g_1 p_2 p_3}:FS Tryz.prog 132 3 [cI g_1,.c (.h 0),.c (.h 1)] [(0,.box [.imm (.slice (.int .i64)) p_2]),(1,.box [.h 2]),(2,.row (.int .i64) p_3)] (JG K g_1 p_2 p_3) (fun r=>cB r) fun r=>[(0,.box [.imm (.slice (.int .i64)) p_2]),(1,.box [.h 2]),(2,.row (.int .i64) p_3)]:=by
 refine jfn (fn:=Tryz.f132) Tryz.func132 (jy (JG.eq_1 ..) ?_)
 refine jm 3 (hr:=?_)
 refine jb fun r_5 h_6=>?_
 refine js (fun b_7=>?_) fun b_7=>?_
 ·refine jb fun r_8 h_9=>?_
  refine jr [cp 2 (GP _ h_6) [] 3,cp 6 (KG _ h_9) [(0,2)] 3] [(8,true)] [r_5=true] (ap1 b_7) (hr:=?_)
  exact jt (rr [])
 ·refine jr [cp 2 (GP _ h_6) [] 3] [(8,false)] [r_5=false] (ap1 b_7) (hr:=?_)
  exact jt (rr [])
theorem S9 {K c_1 c_2 p_3 p_4}:FS Tryz.prog 134 4 [.agg [.val (.int .i64 c_1),.val (.int .i64 c_2)],.c (.h 0)] [(0,.box [.clo 132 [1,2]]),(1,.box [.imm (.slice (.int .i64)) p_3]),(2,.box [.h 3]),(3,.row (.int .i64) p_4)] (JH K c_1 c_2 p_3 p_4) (fun r=>cB r) fun r=>[(0,.box [.clo 132 [1,2]]),(1,.box [.imm (.slice (.int .i64)) p_3]),(2,.box [.h 3]),(3,.row (.int .i64) p_4)]:=by
 refine jfn (fn:=Tryz.f134) Tryz.func134 (jy (JH.eq_1 ..) ?_)
 refine jm 3 (hr:=?_)
 refine jb fun r_6 h_7=>?_
 refine jr0 [cp 3 (S8 _ h_7) [(0,1),(1,2),(2,3)] 5] (hr:=?_)
 exact jt (rr [])
theorem VQ {K s_1 f_2 f_3}:FS Tryz.prog 202 4 [.c (.imm (.slice kP) s_1),.c (.clo 134 [0])] [(0,.box [.clo 132 [1,2]]),(1,.box [.imm (.slice (.int .i64)) f_2]),(2,.box [.h 3]),(3,.row (.int .i64) f_3)] (DS K s_1 f_2 f_3) (fun r=>cI r) fun r=>[(0,.box [.clo 132 [1,2]]),(1,.box [.imm (.slice (.int .i64)) f_2]),(2,.box [.h 3]),(3,.row (.int .i64) f_3)]:=by
 refine jfn (fn:=Tryz.f202) Tryz.func202 (jy (DS.eq_1 ..) ?_)
 refine jm 6 (hr:=?_)
 refine jl (X:=Int) (fun k x=>DS.l0 K s_1 f_2 f_3 k x) K _ rfl 4 [] (fun x_6=>[(0,.c (.imm (.slice kP) s_1)),(1,.c (.clo 134 [0])),(7,cI (lnI s_1)),(8,cI x_6)]) (fun x_6=>[(0,.box [.clo 132 [1,2]]),(1,.box [.imm (.slice (.int .i64)) f_2]),(2,.box [.h 3]),(3,.row (.int .i64) f_3)]) (fun _=>rfl) (round:=fun k x_6=>jy (DS.l0.eq_2 ..) ?_)
 refine jm 3 (hr:=?_)
 refine jc (h1:=fun b_8=>?_) (h2:=fun b_8=>?_)
 ·refine jm 6 (hr:=?_)
  refine jb fun r_10 h_11=>?_
  refine jri [cp 5 (S9 _ h_11) [(0,0),(1,1),(2,2),(3,3)] 4] [] (hr:=fun c_12=>?_)
  refine jc (h1:=fun b_13=>?_) (h2:=fun b_13=>?_)
  ·refine jm 2 (hr:=?_)
   exact jt (rl (rr []))
  ·refine jm 3 (hr:=?_)
   exact jx _ rfl []
 ·refine jq 0 (ql (qh ?_))
  refine jm 2 (hr:=?_)
  exact jt (rr [])
theorem VG {K s_1 f_2 f_3}:FS Tryz.prog 133 4 [.c (.imm (.slice kP) s_1),.c (.clo 134 [0])] [(0,.box [.clo 132 [1,2]]),(1,.box [.imm (.slice (.int .i64)) f_2]),(2,.box [.h 3]),(3,.row (.int .i64) f_3)] (KF K s_1 f_2 f_3) (fun r=>cB r) fun r=>[(0,.box [.clo 132 [1,2]]),(1,.box [.imm (.slice (.int .i64)) f_2]),(2,.box [.h 3]),(3,.row (.int .i64) f_3)]:=by
 refine jfn (fn:=Tryz.f133) Tryz.func133 (jy (KF.eq_1 ..) ?_)
 refine jm 3 (hr:=?_)
 refine jb fun r_5 h_6=>?_
 refine jr0 [cp 2 (VQ _ h_6) [(0,0),(1,1),(2,2),(3,3)] 4] (hr:=?_)
 exact jt (rr [])
theorem ME {K c_1 c_2 p_3 p_4}:FS Tryz.prog 136 4 [.agg [.val (.int .i64 c_1),.val (.int .i64 c_2)],.c (.h 0)] [(0,.box [.clo 130 [1,2]]),(1,.box [.imm (.slice (.int .i64)) p_3]),(2,.box [.h 3]),(3,.row (.int .i64) p_4)] (HS K c_1 c_2 p_3 p_4) (fun r=>cB r) fun r=>[(0,.box [.clo 130 [1,2]]),(1,.box [.imm (.slice (.int .i64)) p_3]),(2,.box [.h 3]),(3,.row (.int .i64) p_4)]:=by
 refine jfn (fn:=Tryz.f136) Tryz.func136 (jy (HS.eq_1 ..) ?_)
 refine jm 3 (hr:=?_)
 refine jb fun r_6 h_7=>?_
 refine jr0 [cp 3 (JF _ h_7) [(0,1),(1,2),(2,3)] 5] (hr:=?_)
 exact jt (rr [])
theorem VW {K s_1 f_2 f_3}:FS Tryz.prog 202 5 [.c (.h 0),.c (.clo 136 [1])] [(0,.row kP s_1),(1,.box [.clo 130 [2,3]]),(2,.box [.imm (.slice (.int .i64)) f_2]),(3,.box [.h 4]),(4,.row (.int .i64) f_3)] (DT K s_1 f_2 f_3) (fun r=>cI r) fun r=>[(0,.row kP s_1),(1,.box [.clo 130 [2,3]]),(2,.box [.imm (.slice (.int .i64)) f_2]),(3,.box [.h 4]),(4,.row (.int .i64) f_3)]:=by
 refine jfn (fn:=Tryz.f202) Tryz.func202 (jy (DT.eq_1 ..) ?_)
 refine jm 6 (hr:=?_)
 refine jl (X:=Int) (fun k x=>DT.l0 K s_1 f_2 f_3 k x) K _ rfl 5 [] (fun x_6=>[(0,.c (.h 0)),(1,.c (.clo 136 [1])),(7,cI (lnI s_1)),(8,cI x_6)]) (fun x_6=>[(0,.row kP s_1),(1,.box [.clo 130 [2,3]]),(2,.box [.imm (.slice (.int .i64)) f_2]),(3,.box [.h 4]),(4,.row (.int .i64) f_3)]) (fun _=>rfl) (round:=fun k x_6=>jy (DT.l0.eq_2 ..) ?_)
 refine jm 3 (hr:=?_)
 refine jc (h1:=fun b_8=>?_) (h2:=fun b_8=>?_)
 ·refine jm 6 (hr:=?_)
  refine jb fun r_10 h_11=>?_
  refine jri [cp 5 (ME _ h_11) [(0,1),(1,2),(2,3),(3,4)] 5] [] (hr:=fun c_12=>?_)
  refine jc (h1:=fun b_13=>?_) (h2:=fun b_13=>?_)
  ·refine jm 2 (hr:=?_)
   exact jt (rl (rr []))
  ·refine jm 3 (hr:=?_)
   exact jx _ rfl []
 ·refine jq 0 (ql (qh ?_))
  refine jm 2 (hr:=?_)
  exact jt (rr [])
theorem VN {K s_1 del_2 del_3}:FS Tryz.prog 135 5 [.c (.h 0),.c (.clo 136 [1])] [(0,.row kP s_1),(1,.box [.clo 130 [2,3]]),(2,.box [.imm (.slice (.int .i64)) del_2]),(3,.box [.h 4]),(4,.row (.int .i64) del_3)] (D9 K s_1 del_2 del_3) (fun r=>.c (.h 5)) fun r=>[(1,.box [.clo 130 [2,3]]),(2,.box [.imm (.slice (.int .i64)) del_2]),(3,.box [.h 4]),(4,.row (.int .i64) del_3),(5,.row kP r)]:=by
 refine jfn (fn:=Tryz.f135) Tryz.func135 (jy (D9.eq_1 ..) ?_)
 refine jm 3 (hr:=?_)
 refine jb fun r_5 h_6=>?_
 refine jr0 [cp 2 (VW _ h_6) [(0,0),(1,1),(2,2),(3,3),(4,4)] 5] (hr:=?_)
 refine jm 3 (hr:=?_)
 refine jc (h1:=fun b_9=>?_) (h2:=fun b_9=>?_)
 ·refine jm 2 (hr:=?_)
  exact jt (rr [(5,0)])
 ·refine jm 4 (hr:=?_)
  refine ja (Y:=((List (Int×Int))×Int)) 6 (fun y_43=>[(0,.c (.h 0)),(5,cI y_43.2)]) (fun y_43=>[(0,.row kP y_43.1),(1,.box [.clo 130 [2,3]]),(2,.box [.imm (.slice (.int .i64)) del_2]),(3,.box [.h 4]),(4,.row (.int .i64) del_3)]) (h1:=?_) (h2:=fun y_43=>?_)
  ·refine jm 1 (hr:=?_)
   refine jl (X:=((List (Int×Int))×Int×Int)) (fun k x=>D9.l0 K del_2 del_3 k x.1 x.2.1 x.2.2) K (s_1,r_5,(w6 (r_5+(1:Int)))) rfl 6 [] (fun x_27=>[(0,.c (.h 0)),(1,.c (.clo 136 [1])),(5,cI x_27.2.1),(6,cI x_27.2.2)]) (fun x_27=>[(0,.row kP x_27.1),(1,.box [.clo 130 [2,3]]),(2,.box [.imm (.slice (.int .i64)) del_2]),(3,.box [.h 4]),(4,.row (.int .i64) del_3)]) (fun _=>rfl) (round:=fun k x_27=>jy (D9.l0.eq_2 ..) ?_)
   refine jm 3 (hr:=?_)
   refine jc (h1:=fun b_29=>?_) (h2:=fun b_29=>?_)
   ·refine ji 6 (hr:=fun c_30=>?_)
    refine jb fun r_31 h_32=>?_
    refine jr0 [cp 2 (ME _ h_32) [(0,1),(1,2),(2,3),(3,4)] 7] (hr:=?_)
    refine jc (h1:=fun b_34=>?_) (h2:=fun b_34=>?_)
    ·refine ji 3 (hr:=fun c_35=>?_)
     refine jm 2 (hr:=?_)
     exact jx ((List.set x_27.1 (Int.toNat x_27.2.1) ((List.getD x_27.1 (Int.toNat x_27.2.2) zP).1,(List.getD x_27.1 (Int.toNat x_27.2.2) zP).2)),(w6 (x_27.2.1+(1:Int))),(w6 (x_27.2.2+(1:Int)))) rfl []
    ·refine jm 3 (hr:=?_)
     exact jx (x_27.1,x_27.2.1,(w6 (x_27.2.2+(1:Int)))) rfl []
   ·refine jq 0 (ql (qh ?_))
    exact jo []
  ·refine jp fun c_40=>?_
   refine jn 4 [(0:Int)≤y_43.2,y_43.2≤(lnI y_43.1),(0:Int)≤y_43.2,y_43.2≤(lnI (putAt y_43.1 (List.replicate ((List.length y_43.1) - (Int.toNat y_43.2)) zP) (Int.toNat y_43.2)))] (ap2 c_40.1 (ap2 c_40.2.1 (ap2 c_40.1 (ap1 c_40.2.2)))) (hr:=?_)
   refine jg [.own 4] ?_
   exact jt (rr [(5,6)])
theorem SB {K l_1 undone_3}:FS Tryz.prog 81 1 [.c (.imm (.slice kAt) l_1),.c (.val (.slice none 0 0)),.c (.h 0)] [(0,.row (.int .i64) undone_3)] (CQ K l_1 ([]:(List Int)) undone_3) (fun r=>.c (.h 1)) fun r=>[(0,.row (.int .i64) undone_3),(1,.row kAt r)]:=by
 refine jfn (fn:=Tryz.f81) Tryz.func81 (jy (CQ.eq_1 ..) ?_)
 refine ji 13 (hr:=fun c_4=>?_)
 refine jm 1 (hr:=?_)
 refine jg [.readCell 1 0 (.slice (.int .i64))] ?_
 refine jl (X:=((List Int)×(List AtT)×Int×Int)) (fun k x=>CQ.l0 K l_1 undone_3 k x.1 x.2.1 x.2.2.1 x.2.2.2) K (([]:(List Int)),(List.replicate (Int.toNat (lnI l_1)) zAt),(0:Int),(0:Int)) rfl 10 [] (fun x_42=>[(4,.c (.h 1)),(7,.c (.h 3)),(8,.c (.h 4)),(9,.c (.h 5)),(10,cI x_42.2.2.1),(18,.c (.imm (.slice kAt) l_1)),(19,cI (lnI l_1)),(20,cI x_42.2.2.2)]) (fun x_42=>[(0,.row (.int .i64) undone_3),(1,.box [.imm (.slice (.int .i64)) x_42.1]),(2,.box [.h 0]),(3,.box [.clo 130 [1,2]]),(4,.box [.clo 132 [1,2]]),(5,.row kAt x_42.2.1)]) (fun _=>rfl) (round:=fun k x_42=>jy (CQ.l0.eq_2 ..) ?_)
 refine jm 3 (hr:=?_)
 refine jc (h1:=fun b_44=>?_) (h2:=fun b_44=>?_)
 ·refine ji 7 (hr:=fun c_45=>?_)
  refine ja (Y:=Bool) 11 (fun y_77=>[(4,.c (.h 1)),(7,.c (.h 3)),(8,.c (.h 4)),(9,.c (.h 5)),(10,cI x_42.2.2.1),(12,.c (.h 10)),(18,.c (.imm (.slice kAt) l_1)),(19,cI (lnI l_1)),(20,cI x_42.2.2.2),(33,cB y_77)]) (fun y_77=>[(0,.row (.int .i64) undone_3),(1,.box [.imm (.slice (.int .i64)) x_42.1]),(2,.box [.h 0]),(3,.box [.clo 130 [1,2]]),(4,.box [.clo 132 [1,2]]),(5,.row kAt x_42.2.1),(10,.box [.val (.string (List.getD l_1 (Int.toNat x_42.2.2.2) zAt).1),.val (.int .i64 (List.getD l_1 (Int.toNat x_42.2.2.2) zAt).2.1),.val (.int .i64 (List.getD l_1 (Int.toNat x_42.2.2.2) zAt).2.2.1),.val (.int .i64 (List.getD l_1 (Int.toNat x_42.2.2.2) zAt).2.2.2.1),.imm (.slice kP) (List.getD l_1 (Int.toNat x_42.2.2.2) zAt).2.2.2.2])]) (h1:=?_) (h2:=fun y_77=>?_)
  ·refine jb fun r_46 h_47=>?_
   refine js (fun b_48=>?_) fun b_48=>?_
   ·refine jr [cp 3 (JF _ h_47) [(0,1),(1,2),(2,0)] 11] [(28,true)] [r_46=true] (ap1 b_48) (hr:=?_)
    exact jo []
   ·refine jb fun r_50 h_51=>?_
    refine jr [cp 3 (JF _ h_47) [(0,1),(1,2),(2,0)] 11,cp 8 (VG _ h_51) [(0,4),(1,1),(2,2),(3,0)] 11] [(28,false)] [r_46=false] (ap1 b_48) (hr:=?_)
    exact jo []
  ·refine jc (h1:=fun b_54=>?_) (h2:=fun b_54=>?_)
   ·refine jm 2 (hr:=?_)
    exact jx (x_42.1,x_42.2.1,x_42.2.2.1,(w6 (x_42.2.2.2+(1:Int)))) rfl []
   ·refine jm 2 (hr:=?_)
    refine jb fun r_57 h_58=>?_
    refine jb fun r_59 h_60=>?_
    refine jr0 [cp 2 (IA _ h_58) [(0,11)] 12,cp 4 (VN _ h_60) [(0,11),(1,3),(2,1),(3,2),(4,0),(5,12)] 13] (hr:=?_)
    refine jm 2 (hr:=?_)
    refine jb fun r_63 h_64=>?_
    refine jr0 [cp 3 (GP _ h_64) [] 13] (hr:=?_)
    refine jc (h1:=fun b_66=>?_) (h2:=fun b_66=>?_)
    ·refine jm 1 (hr:=?_)
     refine jg [.shut 12] ?_
     refine jp fun c_68=>?_
     refine jw [] [] [(0:Int)≤x_42.2.2.1,x_42.2.2.1≤(lnI x_42.2.1),(0:Int)≤x_42.2.2.1,x_42.2.2.1≤(lnI x_42.2.1)] (ap2 c_68.1 (ap2 c_68.2 (ap2 c_68.1 (ap1 c_68.2)))) (hr:=?_)
     refine jm 2 (hr:=?_)
     exact jx (x_42.1,(putAt x_42.2.1 (List.take ((List.length x_42.2.1) - (Int.toNat x_42.2.2.1)) ([((List.getD l_1 (Int.toNat x_42.2.2.2) zAt).1,((List.getD l_1 (Int.toNat x_42.2.2.2) zAt).2.1,((-1:Int),((List.getD l_1 (Int.toNat x_42.2.2.2) zAt).2.2.2.1,r_59))))]:List AtT)) (Int.toNat x_42.2.2.1)),(w6 (x_42.2.2.1+(lnI (List.take ((List.length x_42.2.1) - (Int.toNat x_42.2.2.1)) ([((List.getD l_1 (Int.toNat x_42.2.2.2) zAt).1,((List.getD l_1 (Int.toNat x_42.2.2.2) zAt).2.1,((-1:Int),((List.getD l_1 (Int.toNat x_42.2.2.2) zAt).2.2.2.1,r_59))))]:List AtT))))),(w6 (x_42.2.2.2+(1:Int)))) rfl []
    ·refine jm 1 (hr:=?_)
     refine jg [.shut 12] ?_
     refine jp fun c_71=>?_
     refine jw [] [] [(0:Int)≤x_42.2.2.1,x_42.2.2.1≤(lnI x_42.2.1),(0:Int)≤x_42.2.2.1,x_42.2.2.1≤(lnI x_42.2.1)] (ap2 c_71.1 (ap2 c_71.2 (ap2 c_71.1 (ap1 c_71.2)))) (hr:=?_)
     refine jm 2 (hr:=?_)
     exact jx (x_42.1,(putAt x_42.2.1 (List.take ((List.length x_42.2.1) - (Int.toNat x_42.2.2.1)) ([((List.getD l_1 (Int.toNat x_42.2.2.2) zAt).1,((List.getD l_1 (Int.toNat x_42.2.2.2) zAt).2.1,((List.getD l_1 (Int.toNat x_42.2.2.2) zAt).2.2.1,((List.getD l_1 (Int.toNat x_42.2.2.2) zAt).2.2.2.1,r_59))))]:List AtT)) (Int.toNat x_42.2.2.1)),(w6 (x_42.2.2.1+(lnI (List.take ((List.length x_42.2.1) - (Int.toNat x_42.2.2.1)) ([((List.getD l_1 (Int.toNat x_42.2.2.2) zAt).1,((List.getD l_1 (Int.toNat x_42.2.2.2) zAt).2.1,((List.getD l_1 (Int.toNat x_42.2.2.2) zAt).2.2.1,((List.getD l_1 (Int.toNat x_42.2.2.2) zAt).2.2.2.1,r_59))))]:List AtT))))),(w6 (x_42.2.2.2+(1:Int)))) rfl []
 ·refine jq 0 (ql (qh ?_))
  refine ji 2 (hr:=fun c_73=>?_)
  refine jg [.own 6] ?_
  exact jt (rr [(1,10)])
theorem JB {K e_1 e_2 e_3 e_4 e_5}:FS Tryz.prog 49 5 [.c (.h 0),.c (.val (.slice none 0 0))] [(0,.box [.imm (.slice kAt) e_1,.h 1]),(1,.box [.h 2,.val (.int .i64 e_3),.h 3,.h 4]),(2,.sets e_2 none),(3,.map e_4),(4,.map e_5)] (G7 K e_1 e_2 e_3 e_4 e_5 ([]:(List Int))) (fun r=>cI r.1) fun r=>[(0,.box [.imm (.slice kAt) r.2.1,.h 1]),(1,.box [.h 5,.val (.int .i64 r.2.2.2.1),.h 3,.h 4]),(3,.map r.2.2.2.2.1),(4,.map r.2.2.2.2.2),(5,.sets r.2.2.1 none)]:=by
 refine jfn (fn:=Tryz.f49) Tryz.func49 (jy (G7.eq_1 ..) ?_)
 refine jm 3 (hr:=?_)
 refine jb fun r_8 h_9=>?_
 refine jr0 [cp 1 (S6 _ h_9) [(0,0),(1,1),(2,2),(3,3),(4,4),(5,5)] 6] (hr:=?_)
 refine jm 2 (hr:=?_)
 refine jb fun r_12 h_13=>?_
 refine jr0 [cp 5 (UT _ h_13) [(0,1),(1,2),(2,3),(3,4),(4,6)] 7] (hr:=?_)
 refine jm 2 (hr:=?_)
 refine jc (h1:=fun b_16=>?_) (h2:=fun b_16=>?_)
 ·refine jm 2 (hr:=?_)
  exact jt (rr [(5,6)])
 ·refine jm 2 (hr:=?_)
  refine jb fun r_19 h_20=>?_
  refine jr0 [cp 7 (SB _ h_20) [(0,5),(1,7)] 8] (hr:=?_)
  refine jm 2 (hr:=?_)
  refine jg [.shut 7] ?_
  exact jt (rr [(5,6)])
theorem UJ {K}:FS Tryz.prog 159 0 [.c (.val (.slice none 0 0))] [] (D5 K ([]:(List (Int×Int)))) (fun r=>cI r) fun r=>[]:=by
 refine jfn (fn:=Tryz.f159) Tryz.func159 (jy (D5.eq_1 ..) ?_)
 refine jm 6 (hr:=?_)
 refine jc (h1:=fun b_3=>?_) (h2:=fun b_3=>?_)
 ·refine jm 2 (hr:=?_)
  exact jt (rr [])
 ·refine jm 2 (hr:=?_)
  refine jc (h1:=fun b_6=>?_) (h2:=fun b_6=>?_)
  ·refine jm 2 (hr:=?_)
   exact jt (rr [])
  ·refine jm 4 (hr:=?_)
   exact jt (rr [])
theorem VV {K f_2}:FS Tryz.prog 253 2 [.c (.val (.slice none 0 0)),.c (.clo 215 [0])] [(0,.box [.clo 227 [1]]),(1,.box [.val (.string f_2)])] (BF K ([]:(List (Int×Int))) f_2) (fun r=>cI r) fun r=>[(0,.box [.clo 227 [1]]),(1,.box [.val (.string f_2)])]:=by
 refine jfn (fn:=Tryz.f253) Tryz.func253 (jy (BF.eq_1 ..) ?_)
 refine jm 6 (hr:=?_)
 refine jl (X:=Int) (fun k x=>BF.l0 K ([]:(List (Int×Int))) f_2 k x) K _ rfl 2 [] (fun x_5=>[(0,.c (.val (.slice none 0 0))),(1,.c (.clo 215 [0])),(7,cI (lnI ([]:(List (Int×Int))))),(8,cI x_5)]) (fun x_5=>[(0,.box [.clo 227 [1]]),(1,.box [.val (.string f_2)])]) (fun _=>rfl) (round:=fun k x_5=>jy (BF.l0.eq_2 ..) ?_)
 refine jm 3 (hr:=?_)
 refine jc (h1:=fun b_7=>?_) (h2:=fun b_7=>?_)
 ·refine jm 6 (hr:=?_)
  refine jb fun r_9 h_10=>?_
  refine jri [cp 5 (NR _ h_10) [(0,0),(1,1)] 2] [] (hr:=fun c_11=>?_)
  refine jc (h1:=fun b_12=>?_) (h2:=fun b_12=>?_)
  ·refine jm 2 (hr:=?_)
   exact jt (rl (rr []))
  ·refine jm 3 (hr:=?_)
   exact jx _ rfl []
 ·refine jq 0 (ql (qh ?_))
  refine jm 2 (hr:=?_)
  exact jt (rr [])
theorem VM {K f_2}:FS Tryz.prog 214 2 [.c (.val (.slice none 0 0)),.c (.clo 215 [0])] [(0,.box [.clo 227 [1]]),(1,.box [.val (.string f_2)])] (FE K ([]:(List (Int×Int))) f_2) (fun r=>cB r) fun r=>[(0,.box [.clo 227 [1]]),(1,.box [.val (.string f_2)])]:=by
 refine jfn (fn:=Tryz.f214) Tryz.func214 (jy (FE.eq_1 ..) ?_)
 refine jm 3 (hr:=?_)
 refine jb fun r_4 h_5=>?_
 refine jr0 [cp 2 (VV _ h_5) [(0,0),(1,1)] 2] (hr:=?_)
 exact jt (rr [])
theorem UO {K is_2}:FS Tryz.prog 156 1 [.c (.val (.slice none 0 0)),.c (.clo 227 [0])] [(0,.box [.val (.string is_2)])] (D7 K ([]:(List (Int×Int))) is_2) (fun r=>cB r) fun r=>[(0,.box [.val (.string is_2)])]:=by
 refine jfn (fn:=Tryz.f156) Tryz.func156 (jy (D7.eq_1 ..) ?_)
 refine jm 3 (hr:=?_)
 refine jb fun r_4 h_5=>?_
 refine jr0 [cp 2 (VM _ h_5) [(0,1),(1,0)] 2] (hr:=?_)
 exact jt (rr [])
theorem VU {K f_2}:FS Tryz.prog 253 2 [.c (.val (.slice none 0 0)),.c (.clo 215 [0])] [(0,.box [.clo 228 [1]]),(1,.box [.val (.string f_2)])] (BE K ([]:(List (Int×Int))) f_2) (fun r=>cI r) fun r=>[(0,.box [.clo 228 [1]]),(1,.box [.val (.string f_2)])]:=by
 refine jfn (fn:=Tryz.f253) Tryz.func253 (jy (BE.eq_1 ..) ?_)
 refine jm 6 (hr:=?_)
 refine jl (X:=Int) (fun k x=>BE.l0 K ([]:(List (Int×Int))) f_2 k x) K _ rfl 2 [] (fun x_5=>[(0,.c (.val (.slice none 0 0))),(1,.c (.clo 215 [0])),(7,cI (lnI ([]:(List (Int×Int))))),(8,cI x_5)]) (fun x_5=>[(0,.box [.clo 228 [1]]),(1,.box [.val (.string f_2)])]) (fun _=>rfl) (round:=fun k x_5=>jy (BE.l0.eq_2 ..) ?_)
 refine jm 3 (hr:=?_)
 refine jc (h1:=fun b_7=>?_) (h2:=fun b_7=>?_)
 ·refine jm 6 (hr:=?_)
  refine jb fun r_9 h_10=>?_
  refine jri [cp 5 (NS _ h_10) [(0,0),(1,1)] 2] [] (hr:=fun c_11=>?_)
  refine jc (h1:=fun b_12=>?_) (h2:=fun b_12=>?_)
  ·refine jm 2 (hr:=?_)
   exact jt (rl (rr []))
  ·refine jm 3 (hr:=?_)
   exact jx _ rfl []
 ·refine jq 0 (ql (qh ?_))
  refine jm 2 (hr:=?_)
  exact jt (rr [])
theorem VK {K f_2}:FS Tryz.prog 214 2 [.c (.val (.slice none 0 0)),.c (.clo 215 [0])] [(0,.box [.clo 228 [1]]),(1,.box [.val (.string f_2)])] (FD K ([]:(List (Int×Int))) f_2) (fun r=>cB r) fun r=>[(0,.box [.clo 228 [1]]),(1,.box [.val (.string f_2)])]:=by
 refine jfn (fn:=Tryz.f214) Tryz.func214 (jy (FD.eq_1 ..) ?_)
 refine jm 3 (hr:=?_)
 refine jb fun r_4 h_5=>?_
 refine jr0 [cp 2 (VU _ h_5) [(0,0),(1,1)] 2] (hr:=?_)
 exact jt (rr [])
theorem UN {K is_2}:FS Tryz.prog 156 1 [.c (.val (.slice none 0 0)),.c (.clo 228 [0])] [(0,.box [.val (.string is_2)])] (D6 K ([]:(List (Int×Int))) is_2) (fun r=>cB r) fun r=>[(0,.box [.val (.string is_2)])]:=by
 refine jfn (fn:=Tryz.f156) Tryz.func156 (jy (D6.eq_1 ..) ?_)
 refine jm 3 (hr:=?_)
 refine jb fun r_4 h_5=>?_
 refine jr0 [cp 2 (VK _ h_5) [(0,1),(1,0)] 2] (hr:=?_)
 exact jt (rr [])
theorem NO {K s_2}:FS Tryz.prog 109 0 [.c (.val (.slice none 0 0)),cS s_2] [] (I2 K ([]:(List (Int×Int))) s_2) (fun r=>.tup [(false,[.imm (.slice kP) r.1]),(false,[.val (.int .i64 r.2)])]) fun r=>[]:=by
 refine jfn (fn:=Tryz.f109) Tryz.func109 (jy (I2.eq_1 ..) ?_)
 refine jm 4 (hr:=?_)
 refine jb fun r_4 h_5=>?_
 refine jr0 [cp 1 (UJ _ h_5) [] 0] (hr:=?_)
 refine jm 2 (hr:=?_)
 refine jc (h1:=fun b_8=>?_) (h2:=fun b_8=>?_)
 ·refine jm 2 (hr:=?_)
  refine jg [.read 4 (.slice kP)] ?_
  exact jt (rr [])
 ·refine jm 4 (hr:=?_)
  refine jb fun r_11 h_12=>?_
  refine jb fun r_13 h_14=>?_
  refine jr0 [cp 2 (I7 _ h_12) [(0,0)] 1,cp 3 (UO _ h_14) [(0,0)] 1] (hr:=?_)
  refine jc (h1:=fun b_16=>?_) (h2:=fun b_16=>?_)
  ·refine jm 2 (hr:=?_)
   refine jg [.read 4 (.slice kP)] ?_
   exact jt (rr [])
  ·refine jm 1 (hr:=?_)
   refine jb fun r_19 h_20=>?_
   refine jb fun r_21 h_22=>?_
   refine jr0 [cp 2 (K6 _ h_20) [(0,1)] 2,cp 3 (UN _ h_22) [(0,1)] 2] (hr:=?_)
   refine jc (h1:=fun b_24=>?_) (h2:=fun b_24=>?_)
   ·refine jm 2 (hr:=?_)
    refine jg [.read 4 (.slice kP)] ?_
    exact jt (rr [])
   ·refine jm 3 (hr:=?_)
    exact jd
theorem KR {K l_1 s_2 s_3 s_4}:FS Tryz.prog 110 0 [.c (.imm (.slice kS) l_1),.agg [.val (.int .i64 s_2),.val (.int .i64 s_3),.val (.int .i64 s_4)]] [] (BK K l_1 s_2 s_3 s_4) (fun r=>.tup [(false,[.h 0]),(false,[.val (.int .i64 r.2)])]) fun r=>[(0,.row kS r.1)]:=by
 refine jfn (fn:=Tryz.f110) Tryz.func110 (jy (BK.eq_1 ..) ?_)
 refine jm 4 (hr:=?_)
 refine ja (Y:=Bool) 1 (fun y_79=>[(0,.c (.imm (.slice kS) l_1)),(3,.c (.h 0)),(34,cB y_79)]) (fun y_79=>[(0,.box [.val (.int .i64 s_2),.val (.int .i64 s_3),.val (.int .i64 s_4)])]) (h1:=?_) (h2:=fun y_79=>?_)
 ·refine jb fun r_6 h_7=>?_
  refine js (fun b_8=>?_) fun b_8=>?_
  ·refine jr [cp 1 (FF _ h_7) [] 1] [(12,true)] [(!r_6)=true] (ap1 b_8) (hr:=?_)
   exact jo []
  ·refine jb fun r_10 h_11=>?_
   refine js (fun b_12=>?_) fun b_12=>?_
   ·refine jr [cp 1 (FF _ h_7) [] 1,cp 6 (DU _ h_11) [] 1] [(12,false),(18,true)] [(!r_6)=false,(!r_10)=true] (ap2 b_8 (ap1 b_12)) (hr:=?_)
    exact jo []
   ·refine js (fun b_14=>?_) fun b_14=>?_
    ·refine jr [cp 1 (FF _ h_7) [] 1,cp 6 (DU _ h_11) [] 1] [(12,false),(18,false),(23,true)] [(!r_6)=false,(!r_10)=false,(decide (s_2<(0:Int)))=true] (ap2 b_8 (ap2 b_12 (ap1 b_14))) (hr:=?_)
     exact jo []
    ·refine js (fun b_16=>?_) fun b_16=>?_
     ·refine jr [cp 1 (FF _ h_7) [] 1,cp 6 (DU _ h_11) [] 1] [(12,false),(18,false),(23,false),(30,true)] [(!r_6)=false,(!r_10)=false,(decide (s_2<(0:Int)))=false,(decide (s_2 > s_3))=true] (ap2 b_8 (ap2 b_12 (ap2 b_14 (ap1 b_16)))) (hr:=?_)
      exact jo []
     ·refine jr [cp 1 (FF _ h_7) [] 1,cp 6 (DU _ h_11) [] 1] [(12,false),(18,false),(23,false),(30,false)] [(!r_6)=false,(!r_10)=false,(decide (s_2<(0:Int)))=false,(decide (s_2 > s_3))=false] (ap2 b_8 (ap2 b_12 (ap2 b_14 (ap1 b_16)))) (hr:=?_)
      exact jo []
 ·refine jc (h1:=fun b_20=>?_) (h2:=fun b_20=>?_)
  ·refine jm 2 (hr:=?_)
   refine jg [.nilSlot 4 kS] ?_
   exact jt (rr [(0,1)])
  ·refine jm 6 (hr:=?_)
   refine ja (Y:=(List (Int×(Int×Int)))) 6 (fun y_80=>[(3,.c (.h 0)),(6,.c (.h 1))]) (fun y_80=>[(0,.box [.val (.int .i64 s_2),.val (.int .i64 s_3),.val (.int .i64 s_4)]),(1,.box [.h 5]),(5,.row kS y_80)]) (h1:=?_) (h2:=fun y_80=>?_)
   ·refine jm 1 (hr:=?_)
    refine jg [.nilCell 1 0 kS] ?_
    refine jl (X:=((List (Int×(Int×Int)))×Int)) (fun k x=>BK.l0 K l_1 s_2 s_3 k x.1 x.2) K (([]:List (Int×(Int×Int))),(0:Int)) rfl 6 [(5,2)] (fun x_44=>[(3,.c (.h 0)),(6,.c (.h 1)),(35,.c (.imm (.slice kS) l_1)),(36,cI (lnI l_1)),(37,cI x_44.2)]) (fun x_44=>[(0,.box [.val (.int .i64 s_2),.val (.int .i64 s_3),.val (.int .i64 s_4)]),(1,.box [.h 5]),(5,.row kS x_44.1)]) (fun _=>rfl) (round:=fun k x_44=>jy (BK.l0.eq_2 ..) ?_)
    refine jm 3 (hr:=?_)
    refine jc (h1:=fun b_46=>?_) (h2:=fun b_46=>?_)
    ·refine ji 8 (hr:=fun c_47=>?_)
     refine jc (h1:=fun b_48=>?_) (h2:=fun b_48=>?_)
     ·refine jm 1 (hr:=?_)
      refine jb fun r_50 h_51=>?_
      refine jr0 [cp 6 (GQ _ h_51) [(0,1),(1,5),(2,7)] 8] (hr:=?_)
      refine jm 2 (hr:=?_)
      exact jx (r_50,(w6 (x_44.2+(1:Int)))) rfl [(5,7)]
     ·refine jm 2 (hr:=?_)
      refine jb fun r_55 h_56=>?_
      refine jr0 [cp 9 (GQ _ h_56) [(0,1),(1,5),(2,7)] 8] (hr:=?_)
      refine jb fun r_58 h_59=>?_
      refine jr0 [cp 9 (GQ _ h_59) [(0,1),(1,7),(2,8)] 9] (hr:=?_)
      refine jm 2 (hr:=?_)
      exact jx (r_58,(w6 (x_44.2+(1:Int)))) rfl [(5,8)]
    ·refine jq 0 (ql (qh ?_))
     exact jo []
   ·refine jm 3 (hr:=?_)
    refine ja (Y:=(List (Int×(Int×Int)))) 8 (fun y_81=>[(6,.c (.h 1))]) (fun y_81=>[(1,.box [.h 7]),(7,.row kS y_81)]) (h1:=?_) (h2:=fun y_81=>?_)
    ·refine jc (h1:=fun b_64=>?_) (h2:=fun b_64=>?_)
     ·refine jb fun r_65 h_66=>?_
      refine jr0 [cp 6 (GQ _ h_66) [(0,1),(1,5),(2,6)] 7] (hr:=?_)
      exact jo [(7,6)]
     ·refine jm 1 (hr:=?_)
      exact jo [(7,5)]
    ·refine jm 1 (hr:=?_)
     refine jb fun r_71 h_72=>?_
     refine jr0 [cp 1 (OG _ h_72) [(0,7),(1,8)] 9] (hr:=?_)
     exact jt (rr [(0,8)])
theorem QD {K x_1 y_2}:FS Tryz.prog 229 0 [cI x_1,cI y_2] [] (J3 K x_1 y_2) (fun r=>cB r) fun r=>[]:=by
 refine jfn (fn:=Tryz.f229) Tryz.func229 (jy (J3.eq_1 ..) ?_)
 refine jm 3 (hr:=?_)
 refine jb fun r_4 h_5=>?_
 refine js (fun b_6=>?_) fun b_6=>?_
 ·refine jb fun r_7 h_8=>?_
  refine js (fun b_9=>?_) fun b_9=>?_
  ·refine jr [cp 1 (E4 _ h_5) [] 0,cp 4 (E4 _ h_8) [] 0] [(7,true),(12,true)] [r_4=true,(!r_7)=true] (ap2 b_6 (ap1 b_9)) (hr:=?_)
   exact jt (rr [])
  ·refine jr [cp 1 (E4 _ h_5) [] 0,cp 4 (E4 _ h_8) [] 0] [(7,true),(12,false)] [r_4=true,(!r_7)=false] (ap2 b_6 (ap1 b_9)) (hr:=?_)
   exact jt (rr [])
 ·refine jr [cp 1 (E4 _ h_5) [] 0] [(7,false)] [r_4=false] (ap1 b_6) (hr:=?_)
  exact jt (rr [])
theorem KL {K x_1}:FS Tryz.prog 230 0 [cI x_1] [] (ID K x_1) (fun r=>cB r) fun r=>[]:=by
 refine jfn (fn:=Tryz.f230) Tryz.func230 (jy (ID.eq_1 ..) ?_)
 refine jm 4 (hr:=?_)
 exact jt (rr [])
theorem VD {K x_1 target_2}:FS Tryz.prog 171 0 [.c (.imm (.slice (.int .i64)) x_1),cI target_2] [] (D8 K x_1 target_2) (fun r=>.tup [(false,[.val (.int .i64 r.1)]),(false,[.val (.bool r.2)])]) fun r=>[]:=by
 refine jfn (fn:=Tryz.f171) Tryz.func171 (jy (D8.eq_1 ..) ?_)
 refine jm 7 (hr:=?_)
 refine ja (Y:=Int) 0 (fun y_33=>[(0,.c (.imm (.slice (.int .i64)) x_1)),(1,cI target_2),(6,cI (lnI x_1)),(7,cI y_33)]) (fun y_33=>[]) (h1:=?_) (h2:=fun y_33=>?_)
 ·refine jm 1 (hr:=?_)
  refine jl (X:=(Int×Int)) (fun k x=>D8.l0 K x_1 target_2 k x.1 x.2) K ((0:Int),(lnI x_1)) rfl 0 [] (fun x_7=>[(0,.c (.imm (.slice (.int .i64)) x_1)),(1,cI target_2),(6,cI (lnI x_1)),(7,cI x_7.1),(8,cI x_7.2)]) (fun x_7=>[]) (fun _=>rfl) (round:=fun k x_7=>jy (D8.l0.eq_2 ..) ?_)
  refine jm 3 (hr:=?_)
  refine jc (h1:=fun b_9=>?_) (h2:=fun b_9=>?_)
  ·refine jn 5 [(0:Int)≤(1:Int)] (ap1 (by decide)) (hr:=?_)
   refine jb fun r_11 h_12=>?_
   refine jri [cp 5 (QD _ h_12) [] 0] [] (hr:=fun c_13=>?_)
   refine jc (h1:=fun b_14=>?_) (h2:=fun b_14=>?_)
   ·refine jm 2 (hr:=?_)
    exact jx ((w6 ((w6 (Int.fdiv (IntKind.wrap .u64 (w6 (x_7.1+x_7.2))) (2:Int)))+(1:Int))),x_7.2) rfl []
   ·refine jm 2 (hr:=?_)
    exact jx (x_7.1,(w6 (Int.fdiv (IntKind.wrap .u64 (w6 (x_7.1+x_7.2))) (2:Int)))) rfl []
  ·refine jq 0 (ql (qh ?_))
   exact jo []
 ·refine jm 1 (hr:=?_)
  refine js (fun b_19=>?_) fun b_19=>?_
  ·refine js (fun b_20=>?_) fun b_20=>?_
   ·refine jp fun c_21=>?_
    refine jr [] [(35,true),(42,true)] [(decide (y_33<(lnI x_1)))=true,0≤y_33,y_33<(lnI x_1),((List.getD x_1 (Int.toNat y_33) (0:Int))==target_2)=true] (ap2 b_19 (ap2 c_21.1 (ap2 c_21.2 (ap1 b_20)))) (hr:=?_)
    exact jt (rr [])
   ·refine jb fun r_22 h_23=>?_
    refine js (fun b_24=>?_) fun b_24=>?_
    ·refine jb fun r_25 h_26=>?_
     refine jp fun c_27=>?_
     refine jr [cp 16 (KL _ h_23) [] 0,cp 19 (KL _ h_26) [] 0] [(35,true),(42,false),(48,true)] [(decide (y_33<(lnI x_1)))=true,0≤y_33,y_33<(lnI x_1),((List.getD x_1 (Int.toNat y_33) (0:Int))==target_2)=false,0≤y_33,y_33<(lnI x_1),r_22=true] (ap2 b_19 (ap2 c_27.1 (ap2 c_27.2 (ap2 b_20 (ap2 c_27.1 (ap2 c_27.2 (ap1 b_24))))))) (hr:=?_)
     exact jt (rr [])
    ·refine jp fun c_28=>?_
     refine jr [cp 16 (KL _ h_23) [] 0] [(35,true),(42,false),(48,false)] [(decide (y_33<(lnI x_1)))=true,0≤y_33,y_33<(lnI x_1),((List.getD x_1 (Int.toNat y_33) (0:Int))==target_2)=false,0≤y_33,y_33<(lnI x_1),r_22=false] (ap2 b_19 (ap2 c_28.1 (ap2 c_28.2 (ap2 b_20 (ap2 c_28.1 (ap2 c_28.2 (ap1 b_24))))))) (hr:=?_)
     exact jt (rr [])
  ·refine jr [] [(35,false)] [(decide (y_33<(lnI x_1)))=false] (ap1 b_19) (hr:=?_)
   exact jt (rr [])
def insRen:Go.Shelf.Ren:=⟨fun n=>match n with | 21=>172 | 27=>231 | 28=>232 | 35=>259 | 39=>275 | n=>n,fun n=>match n with | 0=>0 | 3=>3 | 4=>4 | 22=>41 | n=>n,fun n=>n⟩
theorem insLays:Lays2.n21 Tryz.prog insRen where
 mixed:=by kernel_rfl
 f21:=by kernel_rfl
 f27:=by kernel_rfl
 f28:=by kernel_rfl
 f35:=by kernel_rfl
 f39:=by kernel_rfl
 t0:=by kernel_rfl
 a0:=fun _=>by kernel_rfl
 z0:=fun _=>by kernel_rfl
 v0:=fun _=>by kernel_rfl
 t3:=by kernel_rfl
 a3:=fun _=>by kernel_rfl
 z3:=fun _=>by kernel_rfl
 v3:=fun _=>by kernel_rfl
 t4:=by kernel_rfl
 a4:=fun _=>by kernel_rfl
 z4:=fun _=>by kernel_rfl
 v4:=fun _=>by kernel_rfl
 t22:=by kernel_rfl
 a22:=fun _=>by kernel_rfl
 z22:=fun _=>by kernel_rfl
 v22:=fun _=>by kernel_rfl
 i3:=by kernel_rfl
theorem VZ {K s_1 i_2 v_3}:FS Tryz.prog 172 2 [.c (.h 0),.c (.val (.int .i64 i_2)),.c (.h 1)] [(0,.row (.int .i64) s_1),(1,.row (.int .i64) v_3)] (KH K s_1 i_2 v_3) (fun r=>.c (.h 2)) fun r=>[(2,.row (.int .i64) r)]:=by
 intro r H
 unfold KH at H
 obtain ⟨c_1,H⟩:=of_if H
 have e:=Option.some.inj H
 subst e
 exact Insert_spec insLays s_1 v_3 i_2 c_1.1 c_1.2.1 c_1.2.2.1 c_1.2.2.2
theorem IV {K l_1 at_2}:FS Tryz.prog 111 0 [.c (.imm (.slice (.int .i64)) l_1),cI at_2] [] (FQ K l_1 at_2) (fun r=>.tup [(false,[.h 0]),(false,[.val (.int .i64 r.2)])]) fun r=>[(0,.row (.int .i64) r.1)]:=by
 refine jfn (fn:=Tryz.f111) Tryz.func111 (jy (FQ.eq_1 ..) ?_)
 refine jm 4 (hr:=?_)
 refine ja (Y:=Bool) 0 (fun y_31=>[(0,.c (.imm (.slice (.int .i64)) l_1)),(1,cI at_2),(19,cB y_31)]) (fun y_31=>[]) (h1:=?_) (h2:=fun y_31=>?_)
 ·refine jb fun r_4 h_5=>?_
  refine js (fun b_6=>?_) fun b_6=>?_
  ·refine jr [cp 1 (H8 _ h_5) [] 0] [(12,true)] [(!r_4)=true] (ap1 b_6) (hr:=?_)
   exact jo []
  ·refine js (fun b_8=>?_) fun b_8=>?_
   ·refine jr [cp 1 (H8 _ h_5) [] 0] [(12,false),(16,true)] [(!r_4)=false,(decide (at_2≤(0:Int)))=true] (ap2 b_6 (ap1 b_8)) (hr:=?_)
    exact jo []
   ·refine jr [cp 1 (H8 _ h_5) [] 0] [(12,false),(16,false)] [(!r_4)=false,(decide (at_2≤(0:Int)))=false] (ap2 b_6 (ap1 b_8)) (hr:=?_)
    exact jo []
 ·refine jc (h1:=fun b_12=>?_) (h2:=fun b_12=>?_)
  ·refine jm 2 (hr:=?_)
   refine jg [.nilSlot 4 (.int .i64)] ?_
   exact jt (rr [])
  ·refine jm 2 (hr:=?_)
   refine jb fun r_15 h_16=>?_
   refine jr0 [cp 2 (VD _ h_16) [] 0] (hr:=?_)
   refine ji 7 (hr:=fun c_18=>?_)
   refine jc (h1:=fun b_19=>?_) (h2:=fun b_19=>?_)
   ·refine jm 2 (hr:=?_)
    exact jt (rr [])
   ·refine jm 4 (hr:=?_)
    refine jc (h1:=fun b_22=>?_) (h2:=fun b_22=>?_)
    ·refine jm 2 (hr:=?_)
     refine jg [.nilSlot 4 (.int .i64)] ?_
     exact jt (rr [(0,1)])
    ·refine jm 2 (hr:=?_)
     refine jb fun r_25 h_26=>?_
     refine jr0 [cp 4 (VZ _ h_26) [(0,0),(1,1),(2,2)] 3] (hr:=?_)
     exact jt (rr [(0,2)])
theorem XW {K v_1 v_2 v_3 v_4 v_5 v_6 v_7 v_8 v_9 a_10 a_11 a_12 a_13 a_14 a_15 a_16 a_17}:FS Tryz.prog 66 6 [.c (.h 0),.agg [.val (.int .i64 a_10),.val (.int .i64 a_11),.val (.int .i64 a_12),.val (.int .i64 a_13),.val (.slice none 0 0),.val (.slice none 0 0),.val (.slice none 0 0),.val (.string a_14),.val (.int .i64 a_15),.val (.int .i64 a_16),.val (.int .i64 a_17)]] [(0,.box [.h 1,.imm (.opt (.opt .node)) v_6,.imm (.slice kP) v_7,.imm (.slice kS) v_8,.imm (.slice (.int .i64)) v_9]),(1,.box [.imm (.slice kAt) v_1,.h 2]),(2,.box [.h 3,.val (.int .i64 v_3),.h 4,.h 5]),(3,.sets v_2 none),(4,.map v_4),(5,.map v_5)] (H5 K v_1 v_2 v_3 v_4 v_5 v_6 v_7 v_8 v_9 a_10 a_11 a_12 a_13 a_14 a_15 a_16 a_17) (fun r=>cI r.1) fun r=>[(0,.box [.h 1,.imm (.opt (.opt .node)) v_6,.imm (.slice kP) r.2.2.2.2.2.2.1,.imm (.slice kS) r.2.2.2.2.2.2.2.1,.imm (.slice (.int .i64)) r.2.2.2.2.2.2.2.2]),(1,.box [.imm (.slice kAt) r.2.1,.h 2]),(2,.box [.h 6,.val (.int .i64 r.2.2.2.1),.h 4,.h 5]),(4,.map r.2.2.2.2.1),(5,.map r.2.2.2.2.2.1),(6,.sets r.2.2.1 none)]:=by
 refine jfn (fn:=Tryz.f66) Tryz.func66 (jy (H5.eq_1 ..) ?_)
 refine jm 5 (hr:=?_)
 refine jb fun r_19 h_20=>?_
 refine jr0 [cp 1 (DG _ h_20) [(0,0),(1,1),(2,2),(3,3),(4,4),(5,5)] 7] (hr:=?_)
 refine jm 6 (hr:=?_)
 refine jc (h1:=fun b_23=>?_) (h2:=fun b_23=>?_)
 ·refine jm 1 (hr:=?_)
  refine jb fun r_25 h_26=>?_
  refine jw0 [cp 6 (JB _ h_26) [(0,1),(1,2),(2,3),(3,4),(4,5),(5,7)] 8] (hr:=?_)
  exact jt (rr [(6,7)])
 ·refine jm 2 (hr:=?_)
  refine jc (h1:=fun b_29=>?_) (h2:=fun b_29=>?_)
  ·refine jb fun r_30 h_31=>?_
   refine jr0 [cp 4 (NO _ h_31) [] 7] (hr:=?_)
   refine jm 3 (hr:=?_)
   exact jt (rr [(6,3)])
  ·refine jm 2 (hr:=?_)
   refine jc (h1:=fun b_35=>?_) (h2:=fun b_35=>?_)
   ·refine jm 5 (hr:=?_)
    refine ja (Y:=Bool) 8 (fun y_91=>[(0,.c (.h 0)),(6,cS r_19),(7,.c (.h 7)),(67,cB y_91)]) (fun y_91=>[(0,.box [.h 1,.imm (.opt (.opt .node)) v_6,.imm (.slice kP) v_7,.imm (.slice kS) v_8,.imm (.slice (.int .i64)) v_9]),(1,.box [.imm (.slice kAt) v_1,.h 2]),(2,.box [.h 3,.val (.int .i64 v_3),.h 4,.h 5]),(3,.sets v_2 none),(4,.map v_4),(5,.map v_5),(7,.box [.val (.int .i64 a_15),.val (.int .i64 a_16),.val (.int .i64 a_17)])]) (h1:=?_) (h2:=fun y_91=>?_)
    ·refine js (fun b_37=>?_) fun b_37=>?_
     ·refine jr [] [(71,true)] [(decide (a_15<(0:Int)))=true] (ap1 b_37) (hr:=?_)
      exact jo []
     ·refine js (fun b_39=>?_) fun b_39=>?_
      ·refine jr [] [(71,false),(78,true)] [(decide (a_15<(0:Int)))=false,(decide (a_15 > a_16))=true] (ap2 b_37 (ap1 b_39)) (hr:=?_)
       exact jo []
      ·refine jr [] [(71,false),(78,false)] [(decide (a_15<(0:Int)))=false,(decide (a_15 > a_16))=false] (ap2 b_37 (ap1 b_39)) (hr:=?_)
       exact jo []
    ·refine jc (h1:=fun b_43=>?_) (h2:=fun b_43=>?_)
     ·refine jm 2 (hr:=?_)
      exact jt (rr [(6,3)])
     ·refine jm 1 (hr:=?_)
      refine ja (Y:=Bool) 8 (fun y_92=>[(0,.c (.h 0)),(7,.c (.h 7)),(85,cB y_92)]) (fun y_92=>[(0,.box [.h 1,.imm (.opt (.opt .node)) v_6,.imm (.slice kP) v_7,.imm (.slice kS) v_8,.imm (.slice (.int .i64)) v_9]),(1,.box [.imm (.slice kAt) v_1,.h 2]),(2,.box [.h 3,.val (.int .i64 v_3),.h 4,.h 5]),(3,.sets v_2 none),(4,.map v_4),(5,.map v_5),(7,.box [.val (.int .i64 a_15),.val (.int .i64 a_16),.val (.int .i64 a_17)])]) (h1:=?_) (h2:=fun y_92=>?_)
      ·refine jb fun r_46 h_47=>?_
       refine js (fun b_48=>?_) fun b_48=>?_
       ·refine jr [cp 3 (B8 _ h_47) [] 8] [(91,true)] [(!r_46)=true] (ap1 b_48) (hr:=?_)
        exact jo []
       ·refine jb fun r_50 h_51=>?_
        refine jr [cp 3 (B8 _ h_47) [] 8,cp 9 (B8 _ h_51) [] 8] [(91,false)] [(!r_46)=false] (ap1 b_48) (hr:=?_)
        exact jo []
      ·refine jc (h1:=fun b_54=>?_) (h2:=fun b_54=>?_)
       ·refine jm 2 (hr:=?_)
        exact jt (rr [(6,3)])
       ·refine jm 2 (hr:=?_)
        refine jb fun r_57 h_58=>?_
        refine jw0 [cp 6 (KR _ h_58) [(0,8)] 9] (hr:=?_)
        refine jm 3 (hr:=?_)
        refine jg [.shut 8] ?_
        exact jt (rr [(6,3)])
   ·refine jm 3 (hr:=?_)
    refine ja (Y:=Bool) 7 (fun y_93=>[(0,.c (.h 0)),(3,.c (.h 6)),(6,cS r_19),(12,cB y_93)]) (fun y_93=>[(0,.box [.h 1,.imm (.opt (.opt .node)) v_6,.imm (.slice kP) v_7,.imm (.slice kS) v_8,.imm (.slice (.int .i64)) v_9]),(1,.box [.imm (.slice kAt) v_1,.h 2]),(2,.box [.h 3,.val (.int .i64 v_3),.h 4,.h 5]),(3,.sets v_2 none),(4,.map v_4),(5,.map v_5),(6,.box [.val (.int .i64 a_10),.val (.int .i64 a_11),.val (.int .i64 a_12),.val (.int .i64 a_13),.val (.slice none 0 0),.val (.slice none 0 0),.val (.slice none 0 0),.val (.string a_14),.val (.int .i64 a_15),.val (.int .i64 a_16),.val (.int .i64 a_17)])]) (h1:=?_) (h2:=fun y_93=>?_)
    ·refine js (fun b_62=>?_) fun b_62=>?_
     ·refine jr [] [(16,true)] [(decide (a_11≤(0:Int)))=true] (ap1 b_62) (hr:=?_)
      exact jo []
     ·refine jr [] [(16,false)] [(decide (a_11≤(0:Int)))=false] (ap1 b_62) (hr:=?_)
      exact jo []
    ·refine jc (h1:=fun b_66=>?_) (h2:=fun b_66=>?_)
     ·refine jm 2 (hr:=?_)
      exact jt (rr [(6,3)])
     ·refine jm 1 (hr:=?_)
      refine jb fun r_69 h_70=>?_
      refine jr0 [cp 3 (B8 _ h_70) [] 7] (hr:=?_)
      refine jc (h1:=fun b_72=>?_) (h2:=fun b_72=>?_)
      ·refine jm 2 (hr:=?_)
       exact jt (rr [(6,3)])
      ·refine jm 2 (hr:=?_)
       refine jb fun r_75 h_76=>?_
       refine jw0 [cp 7 (IV _ h_76) [(0,7)] 8] (hr:=?_)
       refine jm 3 (hr:=?_)
       refine jg [.shut 7] ?_
       exact jt (rr [(6,3)])
theorem L9 {K v_1 v_2 v_3 v_4 v_5 v_6 v_7 v_8 v_9}:FS Tryz.prog 61 6 [.c (.h 0)] [(0,.box [.h 1,.imm (.opt (.opt .node)) v_6,.imm (.slice kP) v_7,.imm (.slice kS) v_8,.imm (.slice (.int .i64)) v_9]),(1,.box [.imm (.slice kAt) v_1,.h 2]),(2,.box [.h 3,.val (.int .i64 v_3),.h 4,.h 5]),(3,.sets v_2 none),(4,.map v_4),(5,.map v_5)] (DZ K v_1 v_2 v_3 v_4 v_5 v_6 v_7 v_8 v_9) (fun r=>.c (.h 0)) fun r=>[(0,.box [.h 1,.imm (.opt (.opt .node)) r,.imm (.slice kP) v_7,.imm (.slice kS) v_8,.imm (.slice (.int .i64)) v_9]),(1,.box [.imm (.slice kAt) v_1,.h 2]),(2,.box [.h 3,.val (.int .i64 v_3),.h 4,.h 5]),(3,.sets v_2 none),(4,.map v_4),(5,.map v_5)]:=by
 refine jfn (fn:=Tryz.f61) Tryz.func61 (jy (DZ.eq_1 ..) ?_)
 refine jm 3 (hr:=?_)
 refine jb fun r_11 h_12=>?_
 refine jb fun r_13 h_14=>?_
 refine jw0 [cp 5 (C3 _ h_12) [(0,0),(1,1),(2,2),(3,3),(4,4),(5,5)] 6,cp 6 (EP _ h_14) [(0,1),(1,2),(2,3),(3,4),(4,5)] 6] (hr:=?_)
 refine jm 1 (hr:=?_)
 refine jb fun r_17 h_18=>?_
 refine jr0 [cp 2 (O2 _ h_18) [] 6] (hr:=?_)
 refine jm 2 (hr:=?_)
 exact jt (rr [])
theorem IM {K v_1 v_2 v_3 v_4 v_5 v_6 v_7 v_8 v_9 a_10 a_11 a_12 a_13 a_14 a_15 a_16 a_17}:FS Tryz.prog 26 6 [.c (.h 0),.agg [.val (.int .i64 a_10),.val (.int .i64 a_11),.val (.int .i64 a_12),.val (.int .i64 a_13),.val (.slice none 0 0),.val (.slice none 0 0),.val (.slice none 0 0),.val (.string a_14),.val (.int .i64 a_15),.val (.int .i64 a_16),.val (.int .i64 a_17)]] [(0,.box [.h 1,.imm (.opt (.opt .node)) v_6,.imm (.slice kP) v_7,.imm (.slice kS) v_8,.imm (.slice (.int .i64)) v_9]),(1,.box [.imm (.slice kAt) v_1,.h 2]),(2,.box [.h 3,.val (.int .i64 v_3),.h 4,.h 5]),(3,.sets v_2 none),(4,.map v_4),(5,.map v_5)] (CE K v_1 v_2 v_3 v_4 v_5 v_6 v_7 v_8 v_9 a_10 a_11 a_12 a_13 a_14 a_15 a_16 a_17) (fun r=>.tup [(false,[.val (.int .i64 r.1)]),(false,[.val (.int .i64 r.2.1)])]) fun r=>[(0,.box [.h 6,.imm (.opt (.opt .node)) r.2.2.2.2.2.2.2.1,.imm (.slice kP) r.2.2.2.2.2.2.2.2.1,.imm (.slice kS) r.2.2.2.2.2.2.2.2.2.1,.imm (.slice (.int .i64)) r.2.2.2.2.2.2.2.2.2.2]),(6,.box [.imm (.slice kAt) r.2.2.1,.h 7]),(7,.box [.h 8,.val (.int .i64 r.2.2.2.2.1),.h 9,.h 10]),(8,.sets r.2.2.2.1 none),(9,.map r.2.2.2.2.2.1),(10,.map r.2.2.2.2.2.2.1)]:=by
 refine jfn (fn:=Tryz.f26) Tryz.func26 (jy (CE.eq_1 ..) ?_)
 refine jm 4 (hr:=?_)
 refine ja (Y:=Bool) 7 (fun y_80=>[(0,.c (.h 0)),(3,.c (.h 6)),(15,cB y_80)]) (fun y_80=>[(0,.box [.h 1,.imm (.opt (.opt .node)) v_6,.imm (.slice kP) v_7,.imm (.slice kS) v_8,.imm (.slice (.int .i64)) v_9]),(1,.box [.imm (.slice kAt) v_1,.h 2]),(2,.box [.h 3,.val (.int .i64 v_3),.h 4,.h 5]),(3,.sets v_2 none),(4,.map v_4),(5,.map v_5),(6,.box [.val (.int .i64 a_10),.val (.int .i64 a_11),.val (.int .i64 a_12),.val (.int .i64 a_13),.val (.slice none 0 0),.val (.slice none 0 0),.val (.slice none 0 0),.val (.string a_14),.val (.int .i64 a_15),.val (.int .i64 a_16),.val (.int .i64 a_17)])]) (h1:=?_) (h2:=fun y_80=>?_)
 ·refine js (fun b_19=>?_) fun b_19=>?_
  ·refine jr [] [(11,true)] [(decide (a_10<(1:Int)))=true] (ap1 b_19) (hr:=?_)
   exact jo []
  ·refine jr [] [(11,false)] [(decide (a_10<(1:Int)))=false] (ap1 b_19) (hr:=?_)
   exact jo []
 ·refine jc (h1:=fun b_23=>?_) (h2:=fun b_23=>?_)
  ·refine jm 2 (hr:=?_)
   exact jt (rr [(6,1),(7,2),(8,3),(9,4),(10,5)])
  ·refine jm 2 (hr:=?_)
   refine jb fun r_26 h_27=>?_
   refine jr0 [cp 1 (L3 _ h_27) [(0,0),(1,1),(2,2),(3,3),(4,4),(5,5),(6,7),(7,8),(8,9),(9,10),(10,11),(11,12)] 13] (hr:=?_)
   refine jm 4 (hr:=?_)
   refine jb fun r_30 h_31=>?_
   refine jwi [cp 0 (LA _ h_31) [] 13] [] (hr:=fun c_32=>?_)
   refine ja (Y:=((List AtT)×(List (List Int))×Int×(List Int)×(List Int)×(List (Int×Int))×(List (Int×(Int×Int)))×(List Int)×Int)) 21 (fun y_81=>[(0,.c (.h 0)),(6,.c (.h 7)),(7,cI y_81.2.2.2.2.2.2.2.2)]) (fun y_81=>[(0,.box [.h 1,.imm (.opt (.opt .node)) v_6,.imm (.slice kP) v_7,.imm (.slice kS) v_8,.imm (.slice (.int .i64)) v_9]),(1,.box [.imm (.slice kAt) v_1,.h 2]),(2,.box [.h 3,.val (.int .i64 v_3),.h 4,.h 5]),(3,.sets v_2 none),(4,.map v_4),(5,.map v_5),(7,.box [.h 8,.imm (.opt (.opt .node)) v_6,.imm (.slice kP) y_81.2.2.2.2.2.1,.imm (.slice kS) y_81.2.2.2.2.2.2.1,.imm (.slice (.int .i64)) y_81.2.2.2.2.2.2.2.1]),(8,.box [.imm (.slice kAt) y_81.1,.h 17]),(17,.box [.h 18,.val (.int .i64 y_81.2.2.1),.h 19,.h 20]),(18,.sets y_81.2.1 none),(19,.map y_81.2.2.2.1),(20,.map y_81.2.2.2.2.1)]) (h1:=?_) (h2:=fun y_81=>?_)
   ·refine jc (h1:=fun b_33=>?_) (h2:=fun b_33=>?_)
    ·refine jm 1 (hr:=?_)
     refine jb fun r_35 h_36=>?_
     refine jr0 [cp 2 (XT _ h_36) [(0,7),(1,8),(2,9),(3,10),(4,11),(5,12),(6,13),(7,14),(8,15),(9,16)] 17] (hr:=?_)
     refine jm 2 (hr:=?_)
     refine jc (h1:=fun b_39=>?_) (h2:=fun b_39=>?_)
     ·refine jb fun r_40 h_41=>?_
      refine jr0 [cp 2 (L7 _ h_41) [(0,7),(1,8),(2,13),(3,14),(4,15),(5,16),(6,0),(7,1),(8,2),(9,3),(10,4),(11,5)] 17] (hr:=?_)
      exact jo [(17,13),(18,14),(19,15),(20,16)]
     ·refine jm 1 (hr:=?_)
      exact jo [(17,13),(18,14),(19,15),(20,16)]
    ·refine jb fun r_44 h_45=>?_
     refine jr0 [cp 2 (XW _ h_45) [(0,7),(1,8),(2,9),(3,10),(4,11),(5,12),(6,13)] 14] (hr:=?_)
     exact jo [(17,9),(18,13),(19,11),(20,12)]
   ·refine jm 3 (hr:=?_)
    refine jc (h1:=fun b_57=>?_) (h2:=fun b_57=>?_)
    ·refine jm 2 (hr:=?_)
     exact jt (rr [(6,1),(7,2),(8,3),(9,4),(10,5)])
    ·refine jm 2 (hr:=?_)
     refine jb fun r_60 h_61=>?_
     refine jr0 [cp 2 (L9 _ h_61) [(0,7),(1,8),(2,17),(3,18),(4,19),(5,20)] 21] (hr:=?_)
     refine jm 1 (hr:=?_)
     refine jb fun r_64 h_65=>?_
     refine jr0 [cp 1 (C3 _ h_65) [(0,0),(1,8),(2,17),(3,18),(4,19),(5,20)] 21] (hr:=?_)
     exact jt (rr [(6,8),(7,17),(8,18),(9,19),(10,20)])
theorem XU {K v_1 v_2 v_3 v_4 v_5 v_6 v_7 v_8 v_9 a_10 a_11 a_12 a_13 a_14 a_15 a_16 a_17 a_18}:FS Tryz.prog 64 7 [.c (.h 0),.agg [.val (.int .i64 a_10),.val (.int .i64 a_11),.val (.int .i64 a_12),.val (.int .i64 a_13),.h 6,.val (.slice none 0 0),.val (.slice none 0 0),.val (.string a_15),.val (.int .i64 a_16),.val (.int .i64 a_17),.val (.int .i64 a_18)]] [(0,.box [.h 1,.imm (.opt (.opt .node)) v_6,.imm (.slice kP) v_7,.imm (.slice kS) v_8,.imm (.slice (.int .i64)) v_9]),(1,.box [.imm (.slice kAt) v_1,.h 2]),(2,.box [.h 3,.val (.int .i64 v_3),.h 4,.h 5]),(3,.sets v_2 none),(4,.map v_4),(5,.map v_5),(6,.row kE a_14)] (L6 K v_1 v_2 v_3 v_4 v_5 v_6 v_7 v_8 v_9 a_10 a_11 a_12 a_13 a_14 a_15 a_16 a_17 a_18) (fun r=>cI r.1) fun r=>[(0,.box [.h 1,.imm (.opt (.opt .node)) v_6,.imm (.slice kP) v_7,.imm (.slice kS) v_8,.imm (.slice (.int .i64)) v_9]),(1,.box [.imm (.slice kAt) r.2.1,.h 7]),(6,.row kE a_14),(7,.box [.h 8,.val (.int .i64 v_3),.h 9,.h 10]),(8,.sets r.2.2.1 none),(9,.map r.2.2.2.1),(10,.map r.2.2.2.2)]:=by
 refine jfn (fn:=Tryz.f64) Tryz.func64 (jy (L6.eq_1 ..) ?_)
 refine jm 10 (hr:=?_)
 refine jc (h1:=fun b_20=>?_) (h2:=fun b_20=>?_)
 ·refine jb fun r_21 h_22=>?_
  refine jw0 [cp 12 (E8 _ h_22) [(0,1),(1,2),(2,3),(3,4),(4,5),(5,6),(6,8),(7,9),(8,10),(9,11)] 12] (hr:=?_)
  refine jm 3 (hr:=?_)
  exact jt (rr [(7,8),(8,9),(9,10),(10,11)])
 ·refine jm 2 (hr:=?_)
  refine jc (h1:=fun b_26=>?_) (h2:=fun b_26=>?_)
  ·refine jb fun r_27 h_28=>?_
   refine jw0 [cp 6 (JC _ h_28) [(0,1),(1,2),(2,3),(3,4),(4,5),(5,8),(6,9),(7,10),(8,11)] 12] (hr:=?_)
   refine jm 3 (hr:=?_)
   exact jt (rr [(7,8),(8,9),(9,10),(10,11)])
  ·refine jm 2 (hr:=?_)
   refine jc (h1:=fun b_32=>?_) (h2:=fun b_32=>?_)
   ·refine jb fun r_33 h_34=>?_
    refine jb fun r_35 h_36=>?_
    refine jb fun r_37 h_38=>?_
    refine jw0 [cp 5 (C3 _ h_34) [(0,0),(1,1),(2,2),(3,3),(4,4),(5,5)] 8,cp 14 (IZ _ h_36) [(0,8)] 9,cp 15 (E8 _ h_38) [(0,1),(1,2),(2,3),(3,4),(4,5),(5,8),(6,9),(7,10),(8,11),(9,12)] 13] (hr:=?_)
    refine jm 3 (hr:=?_)
    exact jt (rr [(7,9),(8,10),(9,11),(10,12)])
   ·refine jm 1 (hr:=?_)
    refine jb fun r_42 h_43=>?_
    refine jb fun r_44 h_45=>?_
    refine jw0 [cp 5 (DG _ h_43) [(0,0),(1,1),(2,2),(3,3),(4,4),(5,5)] 8,cp 6 (IY _ h_45) [(0,8)] 9] (hr:=?_)
    refine jm 2 (hr:=?_)
    refine jc (h1:=fun b_48=>?_) (h2:=fun b_48=>?_)
    ·refine jb fun r_49 h_50=>?_
     refine jb fun r_51 h_52=>?_
     refine jw0 [cp 5 (C3 _ h_50) [(0,0),(1,1),(2,2),(3,3),(4,4),(5,5)] 9,cp 9 (E8 _ h_52) [(0,1),(1,2),(2,3),(3,4),(4,5),(5,8),(6,9),(7,10),(8,11),(9,12)] 13] (hr:=?_)
     refine jm 3 (hr:=?_)
     exact jt (rr [(7,9),(8,10),(9,11),(10,12)])
    ·refine jm 4 (hr:=?_)
     exact jt (rr [(7,2),(8,3),(9,4),(10,5)])
theorem XX {K v_1 v_2 v_3 v_4 v_5 v_6 v_7 v_8 v_9 a_10 a_11 a_12 a_13 a_14 a_15 a_16 a_17 a_18}:FS Tryz.prog 66 7 [.c (.h 0),.agg [.val (.int .i64 a_10),.val (.int .i64 a_11),.val (.int .i64 a_12),.val (.int .i64 a_13),.h 6,.val (.slice none 0 0),.val (.slice none 0 0),.val (.string a_15),.val (.int .i64 a_16),.val (.int .i64 a_17),.val (.int .i64 a_18)]] [(0,.box [.h 1,.imm (.opt (.opt .node)) v_6,.imm (.slice kP) v_7,.imm (.slice kS) v_8,.imm (.slice (.int .i64)) v_9]),(1,.box [.imm (.slice kAt) v_1,.h 2]),(2,.box [.h 3,.val (.int .i64 v_3),.h 4,.h 5]),(3,.sets v_2 none),(4,.map v_4),(5,.map v_5),(6,.row kE a_14)] (L8 K v_1 v_2 v_3 v_4 v_5 v_6 v_7 v_8 v_9 a_10 a_11 a_12 a_13 a_14 a_15 a_16 a_17 a_18) (fun r=>cI r.1) fun r=>[(0,.box [.h 1,.imm (.opt (.opt .node)) v_6,.imm (.slice kP) r.2.2.2.2.2.2.1,.imm (.slice kS) r.2.2.2.2.2.2.2.1,.imm (.slice (.int .i64)) r.2.2.2.2.2.2.2.2]),(1,.box [.imm (.slice kAt) r.2.1,.h 2]),(2,.box [.h 7,.val (.int .i64 r.2.2.2.1),.h 4,.h 5]),(4,.map r.2.2.2.2.1),(5,.map r.2.2.2.2.2.1),(6,.row kE a_14),(7,.sets r.2.2.1 none)]:=by
 refine jfn (fn:=Tryz.f66) Tryz.func66 (jy (L8.eq_1 ..) ?_)
 refine jm 5 (hr:=?_)
 refine jb fun r_20 h_21=>?_
 refine jr0 [cp 1 (DG _ h_21) [(0,0),(1,1),(2,2),(3,3),(4,4),(5,5)] 8] (hr:=?_)
 refine jm 6 (hr:=?_)
 refine jc (h1:=fun b_24=>?_) (h2:=fun b_24=>?_)
 ·refine jm 1 (hr:=?_)
  refine jb fun r_26 h_27=>?_
  refine jw0 [cp 6 (JB _ h_27) [(0,1),(1,2),(2,3),(3,4),(4,5),(5,8)] 9] (hr:=?_)
  exact jt (rr [(7,8)])
 ·refine jm 2 (hr:=?_)
  refine jc (h1:=fun b_30=>?_) (h2:=fun b_30=>?_)
  ·refine jb fun r_31 h_32=>?_
   refine jr0 [cp 4 (NO _ h_32) [] 8] (hr:=?_)
   refine jm 3 (hr:=?_)
   exact jt (rr [(7,3)])
  ·refine jm 2 (hr:=?_)
   refine jc (h1:=fun b_36=>?_) (h2:=fun b_36=>?_)
   ·refine jm 5 (hr:=?_)
    refine ja (Y:=Bool) 9 (fun y_92=>[(0,.c (.h 0)),(6,cS r_20),(7,.c (.h 8)),(67,cB y_92)]) (fun y_92=>[(0,.box [.h 1,.imm (.opt (.opt .node)) v_6,.imm (.slice kP) v_7,.imm (.slice kS) v_8,.imm (.slice (.int .i64)) v_9]),(1,.box [.imm (.slice kAt) v_1,.h 2]),(2,.box [.h 3,.val (.int .i64 v_3),.h 4,.h 5]),(3,.sets v_2 none),(4,.map v_4),(5,.map v_5),(6,.row kE a_14),(8,.box [.val (.int .i64 a_16),.val (.int .i64 a_17),.val (.int .i64 a_18)])]) (h1:=?_) (h2:=fun y_92=>?_)
    ·refine js (fun b_38=>?_) fun b_38=>?_
     ·refine jr [] [(71,true)] [(decide (a_16<(0:Int)))=true] (ap1 b_38) (hr:=?_)
      exact jo []
     ·refine js (fun b_40=>?_) fun b_40=>?_
      ·refine jr [] [(71,false),(78,true)] [(decide (a_16<(0:Int)))=false,(decide (a_16 > a_17))=true] (ap2 b_38 (ap1 b_40)) (hr:=?_)
       exact jo []
      ·refine jr [] [(71,false),(78,false)] [(decide (a_16<(0:Int)))=false,(decide (a_16 > a_17))=false] (ap2 b_38 (ap1 b_40)) (hr:=?_)
       exact jo []
    ·refine jc (h1:=fun b_44=>?_) (h2:=fun b_44=>?_)
     ·refine jm 2 (hr:=?_)
      exact jt (rr [(7,3)])
     ·refine jm 1 (hr:=?_)
      refine ja (Y:=Bool) 9 (fun y_93=>[(0,.c (.h 0)),(7,.c (.h 8)),(85,cB y_93)]) (fun y_93=>[(0,.box [.h 1,.imm (.opt (.opt .node)) v_6,.imm (.slice kP) v_7,.imm (.slice kS) v_8,.imm (.slice (.int .i64)) v_9]),(1,.box [.imm (.slice kAt) v_1,.h 2]),(2,.box [.h 3,.val (.int .i64 v_3),.h 4,.h 5]),(3,.sets v_2 none),(4,.map v_4),(5,.map v_5),(6,.row kE a_14),(8,.box [.val (.int .i64 a_16),.val (.int .i64 a_17),.val (.int .i64 a_18)])]) (h1:=?_) (h2:=fun y_93=>?_)
      ·refine jb fun r_47 h_48=>?_
       refine js (fun b_49=>?_) fun b_49=>?_
       ·refine jr [cp 3 (B8 _ h_48) [] 9] [(91,true)] [(!r_47)=true] (ap1 b_49) (hr:=?_)
        exact jo []
       ·refine jb fun r_51 h_52=>?_
        refine jr [cp 3 (B8 _ h_48) [] 9,cp 9 (B8 _ h_52) [] 9] [(91,false)] [(!r_47)=false] (ap1 b_49) (hr:=?_)
        exact jo []
      ·refine jc (h1:=fun b_55=>?_) (h2:=fun b_55=>?_)
       ·refine jm 2 (hr:=?_)
        exact jt (rr [(7,3)])
       ·refine jm 2 (hr:=?_)
        refine jb fun r_58 h_59=>?_
        refine jw0 [cp 6 (KR _ h_59) [(0,9)] 10] (hr:=?_)
        refine jm 3 (hr:=?_)
        refine jg [.shut 9] ?_
        exact jt (rr [(7,3)])
   ·refine jm 3 (hr:=?_)
    refine ja (Y:=Bool) 8 (fun y_94=>[(0,.c (.h 0)),(3,.c (.h 7)),(6,cS r_20),(12,cB y_94)]) (fun y_94=>[(0,.box [.h 1,.imm (.opt (.opt .node)) v_6,.imm (.slice kP) v_7,.imm (.slice kS) v_8,.imm (.slice (.int .i64)) v_9]),(1,.box [.imm (.slice kAt) v_1,.h 2]),(2,.box [.h 3,.val (.int .i64 v_3),.h 4,.h 5]),(3,.sets v_2 none),(4,.map v_4),(5,.map v_5),(6,.row kE a_14),(7,.box [.val (.int .i64 a_10),.val (.int .i64 a_11),.val (.int .i64 a_12),.val (.int .i64 a_13),.h 6,.val (.slice none 0 0),.val (.slice none 0 0),.val (.string a_15),.val (.int .i64 a_16),.val (.int .i64 a_17),.val (.int .i64 a_18)])]) (h1:=?_) (h2:=fun y_94=>?_)
    ·refine js (fun b_63=>?_) fun b_63=>?_
     ·refine jr [] [(16,true)] [(decide (a_11≤(0:Int)))=true] (ap1 b_63) (hr:=?_)
      exact jo []
     ·refine jr [] [(16,false)] [(decide (a_11≤(0:Int)))=false] (ap1 b_63) (hr:=?_)
      exact jo []
    ·refine jc (h1:=fun b_67=>?_) (h2:=fun b_67=>?_)
     ·refine jm 2 (hr:=?_)
      exact jt (rr [(7,3)])
     ·refine jm 1 (hr:=?_)
      refine jb fun r_70 h_71=>?_
      refine jr0 [cp 3 (B8 _ h_71) [] 8] (hr:=?_)
      refine jc (h1:=fun b_73=>?_) (h2:=fun b_73=>?_)
      ·refine jm 2 (hr:=?_)
       exact jt (rr [(7,3)])
      ·refine jm 2 (hr:=?_)
       refine jb fun r_76 h_77=>?_
       refine jw0 [cp 7 (IV _ h_77) [(0,8)] 9] (hr:=?_)
       refine jm 3 (hr:=?_)
       refine jg [.shut 8] ?_
       exact jt (rr [(7,3)])
theorem XP {K v_1 v_2 v_3 v_4 v_5 v_6 v_7 v_8 v_9 a_10 a_11 a_12 a_13 a_14 a_15 a_16 a_17 a_18}:FS Tryz.prog 26 7 [.c (.h 0),.agg [.val (.int .i64 a_10),.val (.int .i64 a_11),.val (.int .i64 a_12),.val (.int .i64 a_13),.h 6,.val (.slice none 0 0),.val (.slice none 0 0),.val (.string a_15),.val (.int .i64 a_16),.val (.int .i64 a_17),.val (.int .i64 a_18)]] [(0,.box [.h 1,.imm (.opt (.opt .node)) v_6,.imm (.slice kP) v_7,.imm (.slice kS) v_8,.imm (.slice (.int .i64)) v_9]),(1,.box [.imm (.slice kAt) v_1,.h 2]),(2,.box [.h 3,.val (.int .i64 v_3),.h 4,.h 5]),(3,.sets v_2 none),(4,.map v_4),(5,.map v_5),(6,.row kE a_14)] (L4 K v_1 v_2 v_3 v_4 v_5 v_6 v_7 v_8 v_9 a_10 a_11 a_12 a_13 a_14 a_15 a_16 a_17 a_18) (fun r=>.tup [(false,[.val (.int .i64 r.1)]),(false,[.val (.int .i64 r.2.1)])]) fun r=>[(0,.box [.h 7,.imm (.opt (.opt .node)) r.2.2.2.2.2.2.2.1,.imm (.slice kP) r.2.2.2.2.2.2.2.2.1,.imm (.slice kS) r.2.2.2.2.2.2.2.2.2.1,.imm (.slice (.int .i64)) r.2.2.2.2.2.2.2.2.2.2]),(6,.row kE a_14),(7,.box [.imm (.slice kAt) r.2.2.1,.h 8]),(8,.box [.h 9,.val (.int .i64 r.2.2.2.2.1),.h 10,.h 11]),(9,.sets r.2.2.2.1 none),(10,.map r.2.2.2.2.2.1),(11,.map r.2.2.2.2.2.2.1)]:=by
 refine jfn (fn:=Tryz.f26) Tryz.func26 (jy (L4.eq_1 ..) ?_)
 refine jm 4 (hr:=?_)
 refine ja (Y:=Bool) 8 (fun y_81=>[(0,.c (.h 0)),(3,.c (.h 7)),(15,cB y_81)]) (fun y_81=>[(0,.box [.h 1,.imm (.opt (.opt .node)) v_6,.imm (.slice kP) v_7,.imm (.slice kS) v_8,.imm (.slice (.int .i64)) v_9]),(1,.box [.imm (.slice kAt) v_1,.h 2]),(2,.box [.h 3,.val (.int .i64 v_3),.h 4,.h 5]),(3,.sets v_2 none),(4,.map v_4),(5,.map v_5),(6,.row kE a_14),(7,.box [.val (.int .i64 a_10),.val (.int .i64 a_11),.val (.int .i64 a_12),.val (.int .i64 a_13),.h 6,.val (.slice none 0 0),.val (.slice none 0 0),.val (.string a_15),.val (.int .i64 a_16),.val (.int .i64 a_17),.val (.int .i64 a_18)])]) (h1:=?_) (h2:=fun y_81=>?_)
 ·refine js (fun b_20=>?_) fun b_20=>?_
  ·refine jr [] [(11,true)] [(decide (a_10<(1:Int)))=true] (ap1 b_20) (hr:=?_)
   exact jo []
  ·refine jr [] [(11,false)] [(decide (a_10<(1:Int)))=false] (ap1 b_20) (hr:=?_)
   exact jo []
 ·refine jc (h1:=fun b_24=>?_) (h2:=fun b_24=>?_)
  ·refine jm 2 (hr:=?_)
   exact jt (rr [(7,1),(8,2),(9,3),(10,4),(11,5)])
  ·refine jm 2 (hr:=?_)
   refine jb fun r_27 h_28=>?_
   refine jr0 [cp 1 (L3 _ h_28) [(0,0),(1,1),(2,2),(3,3),(4,4),(5,5),(6,8),(7,9),(8,10),(9,11),(10,12),(11,13)] 14] (hr:=?_)
   refine jm 4 (hr:=?_)
   refine jb fun r_31 h_32=>?_
   refine jwi [cp 0 (LA _ h_32) [] 14] [] (hr:=fun c_33=>?_)
   refine ja (Y:=((List AtT)×(List (List Int))×Int×(List Int)×(List Int)×(List (Int×Int))×(List (Int×(Int×Int)))×(List Int)×Int)) 22 (fun y_82=>[(0,.c (.h 0)),(6,.c (.h 8)),(7,cI y_82.2.2.2.2.2.2.2.2)]) (fun y_82=>[(0,.box [.h 1,.imm (.opt (.opt .node)) v_6,.imm (.slice kP) v_7,.imm (.slice kS) v_8,.imm (.slice (.int .i64)) v_9]),(1,.box [.imm (.slice kAt) v_1,.h 2]),(2,.box [.h 3,.val (.int .i64 v_3),.h 4,.h 5]),(3,.sets v_2 none),(4,.map v_4),(5,.map v_5),(6,.row kE a_14),(8,.box [.h 9,.imm (.opt (.opt .node)) v_6,.imm (.slice kP) y_82.2.2.2.2.2.1,.imm (.slice kS) y_82.2.2.2.2.2.2.1,.imm (.slice (.int .i64)) y_82.2.2.2.2.2.2.2.1]),(9,.box [.imm (.slice kAt) y_82.1,.h 18]),(18,.box [.h 19,.val (.int .i64 y_82.2.2.1),.h 20,.h 21]),(19,.sets y_82.2.1 none),(20,.map y_82.2.2.2.1),(21,.map y_82.2.2.2.2.1)]) (h1:=?_) (h2:=fun y_82=>?_)
   ·refine jc (h1:=fun b_34=>?_) (h2:=fun b_34=>?_)
    ·refine jm 1 (hr:=?_)
     refine jb fun r_36 h_37=>?_
     refine jr0 [cp 2 (XU _ h_37) [(0,8),(1,9),(2,10),(3,11),(4,12),(5,13),(6,6),(7,14),(8,15),(9,16),(10,17)] 18] (hr:=?_)
     refine jm 2 (hr:=?_)
     refine jc (h1:=fun b_40=>?_) (h2:=fun b_40=>?_)
     ·refine jb fun r_41 h_42=>?_
      refine jr0 [cp 2 (L7 _ h_42) [(0,8),(1,9),(2,14),(3,15),(4,16),(5,17),(6,0),(7,1),(8,2),(9,3),(10,4),(11,5)] 18] (hr:=?_)
      exact jo [(18,14),(19,15),(20,16),(21,17)]
     ·refine jm 1 (hr:=?_)
      exact jo [(18,14),(19,15),(20,16),(21,17)]
    ·refine jb fun r_45 h_46=>?_
     refine jr0 [cp 2 (XX _ h_46) [(0,8),(1,9),(2,10),(3,11),(4,12),(5,13),(6,6),(7,14)] 15] (hr:=?_)
     exact jo [(18,10),(19,14),(20,12),(21,13)]
   ·refine jm 3 (hr:=?_)
    refine jc (h1:=fun b_58=>?_) (h2:=fun b_58=>?_)
    ·refine jm 2 (hr:=?_)
     exact jt (rr [(7,1),(8,2),(9,3),(10,4),(11,5)])
    ·refine jm 2 (hr:=?_)
     refine jb fun r_61 h_62=>?_
     refine jr0 [cp 2 (L9 _ h_62) [(0,8),(1,9),(2,18),(3,19),(4,20),(5,21)] 22] (hr:=?_)
     refine jm 1 (hr:=?_)
     refine jb fun r_65 h_66=>?_
     refine jr0 [cp 1 (C3 _ h_66) [(0,0),(1,9),(2,18),(3,19),(4,20),(5,21)] 22] (hr:=?_)
     exact jt (rr [(7,9),(8,18),(9,19),(10,20),(11,21)])
theorem U6 {K}:FS Tryz.prog 14 0 [] [] (GH K) (fun r=>cB r) fun r=>[]:=by
 refine jfn (fn:=Tryz.f14) Tryz.func14 (jy (GH.eq_1 ..) ?_)
 refine jm 3 (hr:=?_)
 refine jb fun r_2 h_3=>?_
 refine jr0 [cp 0 (PG _ h_3) [(0,0),(1,1),(2,2),(3,3),(4,4),(5,5)] 6] (hr:=?_)
 refine jm 6 (hr:=?_)
 refine jb fun r_6 h_7=>?_
 refine jr0 [cp 2 (IM _ h_7) [(0,0),(1,1),(2,2),(3,3),(4,4),(5,5),(6,6),(7,7),(8,8),(9,9),(10,10)] 11] (hr:=?_)
 refine jm 1 (hr:=?_)
 refine jb fun r_10 h_11=>?_
 refine jr0 [cp 4 (XP _ h_11) [(0,0),(1,6),(2,7),(3,8),(4,9),(5,10),(6,11),(7,12),(8,13),(9,14),(10,15),(11,16)] 17] (hr:=?_)
 refine jm 1 (hr:=?_)
 refine js (fun b_14=>?_) fun b_14=>?_
 ·refine js (fun b_15=>?_) fun b_15=>?_
  ·refine jb fun r_16 h_17=>?_
   refine js (fun b_18=>?_) fun b_18=>?_
   ·refine jb fun r_19 h_20=>?_
    refine jr [cp 8 (DG _ h_17) [(0,0),(1,12),(2,13),(3,14),(4,15),(5,16)] 17,cp 13 (C3 _ h_20) [(0,0),(1,12),(2,13),(3,14),(4,15),(5,16)] 17] [(25,true),(29,true),(34,true)] [(r_6.2.1==(0:Int))=true,(r_10.2.1==(0:Int))=true,(ByteArray.toList r_16==ByteArray.toList (ByteArray.mk #[97,98,10,60]))=true] (ap2 b_14 (ap2 b_15 (ap1 b_18))) (hr:=?_)
    exact jt (rr [])
   ·refine jr [cp 8 (DG _ h_17) [(0,0),(1,12),(2,13),(3,14),(4,15),(5,16)] 17] [(25,true),(29,true),(34,false)] [(r_6.2.1==(0:Int))=true,(r_10.2.1==(0:Int))=true,(ByteArray.toList r_16==ByteArray.toList (ByteArray.mk #[97,98,10,60]))=false] (ap2 b_14 (ap2 b_15 (ap1 b_18))) (hr:=?_)
    exact jt (rr [])
  ·refine jr [] [(25,true),(29,false)] [(r_6.2.1==(0:Int))=true,(r_10.2.1==(0:Int))=false] (ap2 b_14 (ap1 b_15)) (hr:=?_)
   exact jt (rr [])
 ·refine jr [] [(25,false)] [(r_6.2.1==(0:Int))=false] (ap1 b_14) (hr:=?_)
  exact jt (rr [])
theorem U5 {K s_1}:FS Tryz.prog 15 0 [cS s_1] [] (BZ K s_1) (fun r=>cB r) fun r=>[]:=by
 refine jfn (fn:=Tryz.f15) Tryz.func15 (jy (BZ.eq_1 ..) ?_)
 refine jm 6 (hr:=?_)
 refine jl (X:=Int) (fun k x=>BZ.l0 K s_1 k x) K _ rfl 0 [] (fun x_4=>[(0,cS s_1),(3,cI x_4)]) (fun x_4=>[]) (fun _=>rfl) (round:=fun k x_4=>jy (BZ.l0.eq_2 ..) ?_)
 refine jm 3 (hr:=?_)
 refine jc (h1:=fun b_6=>?_) (h2:=fun b_6=>?_)
 ·refine ji 5 (hr:=fun c_7=>?_)
  refine jc (h1:=fun b_8=>?_) (h2:=fun b_8=>?_)
  ·refine jm 2 (hr:=?_)
   exact jt (rl (rr []))
  ·refine jm 3 (hr:=?_)
   exact jx _ rfl []
 ·refine jq 0 (ql (qh ?_))
  refine jm 2 (hr:=?_)
  exact jt (rr [])
theorem U0 {K s_1 at_2}:FS Tryz.prog 67 0 [cS s_1,cI at_2] [] (AK K s_1 at_2) (fun r=>cI r) fun r=>[]:=by
 refine jfn (fn:=Tryz.f67) Tryz.func67 (jy (AK.eq_1 ..) ?_)
 refine jm 4 (hr:=?_)
 refine ja (Y:=Bool) 0 (fun y_76=>[(0,cS s_1),(1,cI at_2),(18,cB y_76)]) (fun y_76=>[]) (h1:=?_) (h2:=fun y_76=>?_)
 ·refine js (fun b_4=>?_) fun b_4=>?_
  ·refine jr [] [(13,true)] [(decide (at_2<(0:Int)))=true] (ap1 b_4) (hr:=?_)
   exact jo []
  ·refine jr [] [(13,false)] [(decide (at_2<(0:Int)))=false] (ap1 b_4) (hr:=?_)
   exact jo []
 ·refine jc (h1:=fun b_8=>?_) (h2:=fun b_8=>?_)
  ·refine jm 2 (hr:=?_)
   exact jt (rr [])
  ·refine ji 6 (hr:=fun c_10=>?_)
   refine jm 3 (hr:=?_)
   refine jc (h1:=fun b_12=>?_) (h2:=fun b_12=>?_)
   ·refine jm 2 (hr:=?_)
    exact jt (rr [])
   ·refine jm 1 (hr:=?_)
    refine ja (Y:=Bool) 0 (fun y_77=>[(0,cS s_1),(1,cI at_2),(5,cI (w6 (bt s_1 at_2))),(26,cB y_77)]) (fun y_77=>[]) (h1:=?_) (h2:=fun y_77=>?_)
    ·refine js (fun b_15=>?_) fun b_15=>?_
     ·refine jr [] [(29,true)] [(decide ((w6 (bt s_1 at_2))≥(192:Int)))=true] (ap1 b_15) (hr:=?_)
      exact jo []
     ·refine jr [] [(29,false)] [(decide ((w6 (bt s_1 at_2))≥(192:Int)))=false] (ap1 b_15) (hr:=?_)
      exact jo []
    ·refine ja2 (Y:=(Int×Int×Int)) 0 (fun y_78=>[(0,cS s_1),(1,cI at_2),(6,cI y_78.1),(7,cI y_78.2.1),(8,cI y_78.2.2)]) (fun y_78=>[]) (h1:=?_) (h2:=fun y_78=>?_)
     ·refine jc (h1:=fun b_19=>?_) (h2:=fun b_19=>?_)
      ·refine jm 1 (hr:=?_)
       exact jo []
      ·refine jm 1 (hr:=?_)
       refine ja (Y:=Bool) 0 (fun y_79=>[(0,cS s_1),(1,cI at_2),(5,cI (w6 (bt s_1 at_2))),(35,cB y_79)]) (fun y_79=>[]) (h1:=?_) (h2:=fun y_79=>?_)
       ·refine js (fun b_22=>?_) fun b_22=>?_
        ·refine jr [] [(38,true)] [(decide ((w6 (bt s_1 at_2))≥(224:Int)))=true] (ap1 b_22) (hr:=?_)
         exact jo []
        ·refine jr [] [(38,false)] [(decide ((w6 (bt s_1 at_2))≥(224:Int)))=false] (ap1 b_22) (hr:=?_)
         exact jo []
       ·refine jc (h1:=fun b_26=>?_) (h2:=fun b_26=>?_)
        ·refine jm 1 (hr:=?_)
         exact jo []
        ·refine jm 1 (hr:=?_)
         refine ja (Y:=Bool) 0 (fun y_80=>[(0,cS s_1),(1,cI at_2),(5,cI (w6 (bt s_1 at_2))),(44,cB y_80)]) (fun y_80=>[]) (h1:=?_) (h2:=fun y_80=>?_)
         ·refine js (fun b_29=>?_) fun b_29=>?_
          ·refine jr [] [(47,true)] [(decide ((w6 (bt s_1 at_2))≥(240:Int)))=true] (ap1 b_29) (hr:=?_)
           exact jo []
          ·refine jr [] [(47,false)] [(decide ((w6 (bt s_1 at_2))≥(240:Int)))=false] (ap1 b_29) (hr:=?_)
           exact jo []
         ·refine jc (h1:=fun b_33=>?_) (h2:=fun b_33=>?_)
          ·refine jm 1 (hr:=?_)
           exact jo []
          ·refine jm 2 (hr:=?_)
           exact jt (rc (rr []))
     ·refine jm 4 (hr:=?_)
      refine jc (h1:=fun b_40=>?_) (h2:=fun b_40=>?_)
      ·refine jm 2 (hr:=?_)
       exact jt (rr [])
      ·refine jm 4 (hr:=?_)
       refine ja2 (Y:=Int) 0 (fun y_81=>[(6,cI y_78.1),(7,cI y_81),(8,cI y_78.2.2)]) (fun y_81=>[]) (h1:=?_) (h2:=fun y_81=>?_)
       ·refine jm 1 (hr:=?_)
        refine jl (X:=(Int×Int)) (fun k x=>AK.l0 K y_78.1 at_2 s_1 k x.1 x.2) K (y_78.2.1,(1:Int)) rfl 0 [] (fun x_46=>[(0,cS s_1),(1,cI at_2),(6,cI y_78.1),(7,cI x_46.1),(8,cI y_78.2.2),(9,cI x_46.2)]) (fun x_46=>[]) (fun _=>rfl) (round:=fun k x_46=>jy (AK.l0.eq_2 ..) ?_)
        refine jm 3 (hr:=?_)
        refine jc (h1:=fun b_48=>?_) (h2:=fun b_48=>?_)
        ·refine jp fun c_49=>?_
         refine jn 8 [0≤(w6 (at_2+x_46.2)),(w6 (at_2+x_46.2))<(((ByteArray.size s_1):Nat):Int),(0:Int)≤(6:Int)] (ap2 c_49.1 (ap2 c_49.2 (ap1 (by decide)))) (hr:=?_)
         refine jc (h1:=fun b_50=>?_) (h2:=fun b_50=>?_)
         ·refine jm 2 (hr:=?_)
          exact jt (rl (rc (rr [])))
         ·refine jn 4 [(0:Int)≤(6:Int)] (ap1 (by decide)) (hr:=?_)
          exact jx ((w6 (BitVec.toNat (BitVec.ofInt (IntKind.bits .i64) (w6 (x_46.1 * (64:Int)))||| BitVec.ofInt (IntKind.bits .i64) (w6 (BitVec.toNat (BitVec.ofInt (IntKind.bits .i64) (w6 (bt s_1 (w6 (at_2+x_46.2))))&&& BitVec.ofInt (IntKind.bits .i64) (63:Int))))))),(w6 (x_46.2+(1:Int)))) rfl []
        ·refine jq 1 (ql (qh ?_))
         exact jo []
       ·refine jm 2 (hr:=?_)
        refine ja (Y:=Bool) 0 (fun y_82=>[(6,cI y_78.1),(92,cB y_82)]) (fun y_82=>[]) (h1:=?_) (h2:=fun y_82=>?_)
        ·refine js (fun b_55=>?_) fun b_55=>?_
         ·refine jr [] [(81,true)] [(decide (y_81<y_78.2.2))=true] (ap1 b_55) (hr:=?_)
          exact jo []
         ·refine js (fun b_57=>?_) fun b_57=>?_
          ·refine jr [] [(81,false),(85,true)] [(decide (y_81<y_78.2.2))=false,(decide (y_81 > (1114111:Int)))=true] (ap2 b_55 (ap1 b_57)) (hr:=?_)
           exact jo []
          ·refine js (fun b_59=>?_) fun b_59=>?_
           ·refine jr [] [(81,false),(85,false),(88,true)] [(decide (y_81<y_78.2.2))=false,(decide (y_81 > (1114111:Int)))=false,(decide (y_81≥(55296:Int)))=true] (ap2 b_55 (ap2 b_57 (ap1 b_59))) (hr:=?_)
            exact jo []
           ·refine jr [] [(81,false),(85,false),(88,false)] [(decide (y_81<y_78.2.2))=false,(decide (y_81 > (1114111:Int)))=false,(decide (y_81≥(55296:Int)))=false] (ap2 b_55 (ap2 b_57 (ap1 b_59))) (hr:=?_)
            exact jo []
        ·refine jc (h1:=fun b_63=>?_) (h2:=fun b_63=>?_)
         ·refine jm 2 (hr:=?_)
          exact jt (rr [])
         ·refine jm 3 (hr:=?_)
          exact jt (rr [])
theorem U3 {K s_1}:FS Tryz.prog 27 0 [cS s_1] [] (BX K s_1) (fun r=>cB r) fun r=>[]:=by
 refine jfn (fn:=Tryz.f27) Tryz.func27 (jy (BX.eq_1 ..) ?_)
 refine jm 6 (hr:=?_)
 refine jl (X:=Int) (fun k x=>BX.l0 K s_1 k x) K _ rfl 0 [] (fun x_4=>[(0,cS s_1),(3,cI x_4)]) (fun x_4=>[]) (fun _=>rfl) (round:=fun k x_4=>jy (BX.l0.eq_2 ..) ?_)
 refine jm 3 (hr:=?_)
 refine jc (h1:=fun b_6=>?_) (h2:=fun b_6=>?_)
 ·refine jm 3 (hr:=?_)
  refine jb fun r_8 h_9=>?_
  refine jr0 [cp 2 (U0 _ h_9) [] 0] (hr:=?_)
  refine jm 3 (hr:=?_)
  refine jc (h1:=fun b_12=>?_) (h2:=fun b_12=>?_)
  ·refine jm 2 (hr:=?_)
   exact jt (rl (rr []))
  ·refine jm 3 (hr:=?_)
   exact jx _ rfl []
 ·refine jq 0 (ql (qh ?_))
  refine jm 2 (hr:=?_)
  exact jt (rr [])
theorem XS {K v_1 v_2 v_3 v_4 v_5 v_6 v_7 v_8 v_9 a_10 a_11 a_12 a_13 a_14 a_15 a_16 a_17 a_18}:FS Tryz.prog 64 6 [.c (.h 0),.agg [.val (.int .i64 a_10),.val (.int .i64 a_11),.val (.int .i64 a_12),.val (.int .i64 a_13),.val (.slice none 0 0),.val (.slice none 0 0),.imm (.slice kP) a_14,.val (.string a_15),.val (.int .i64 a_16),.val (.int .i64 a_17),.val (.int .i64 a_18)]] [(0,.box [.h 1,.imm (.opt (.opt .node)) v_6,.imm (.slice kP) v_7,.imm (.slice kS) v_8,.imm (.slice (.int .i64)) v_9]),(1,.box [.imm (.slice kAt) v_1,.h 2]),(2,.box [.h 3,.val (.int .i64 v_3),.h 4,.h 5]),(3,.sets v_2 none),(4,.map v_4),(5,.map v_5)] (L5 K v_1 v_2 v_3 v_4 v_5 v_6 v_7 v_8 v_9 a_10 a_11 a_12 a_13 a_14 a_15 a_16 a_17 a_18) (fun r=>cI r.1) fun r=>[(0,.box [.h 1,.imm (.opt (.opt .node)) v_6,.imm (.slice kP) v_7,.imm (.slice kS) v_8,.imm (.slice (.int .i64)) v_9]),(1,.box [.imm (.slice kAt) r.2.1,.h 6]),(6,.box [.h 7,.val (.int .i64 v_3),.h 8,.h 9]),(7,.sets r.2.2.1 none),(8,.map r.2.2.2.1),(9,.map r.2.2.2.2)]:=by
 refine jfn (fn:=Tryz.f64) Tryz.func64 (jy (L5.eq_1 ..) ?_)
 refine jm 10 (hr:=?_)
 refine jc (h1:=fun b_20=>?_) (h2:=fun b_20=>?_)
 ·refine jb fun r_21 h_22=>?_
  refine jw0 [cp 12 (MD _ h_22) [(0,1),(1,2),(2,3),(3,4),(4,5),(5,7),(6,8),(7,9),(8,10)] 11] (hr:=?_)
  refine jm 3 (hr:=?_)
  exact jt (rr [(6,7),(7,8),(8,9),(9,10)])
 ·refine jm 2 (hr:=?_)
  refine jc (h1:=fun b_26=>?_) (h2:=fun b_26=>?_)
  ·refine jb fun r_27 h_28=>?_
   refine jw0 [cp 6 (JC _ h_28) [(0,1),(1,2),(2,3),(3,4),(4,5),(5,7),(6,8),(7,9),(8,10)] 11] (hr:=?_)
   refine jm 3 (hr:=?_)
   exact jt (rr [(6,7),(7,8),(8,9),(9,10)])
  ·refine jm 2 (hr:=?_)
   refine jc (h1:=fun b_32=>?_) (h2:=fun b_32=>?_)
   ·refine jb fun r_33 h_34=>?_
    refine jb fun r_35 h_36=>?_
    refine jb fun r_37 h_38=>?_
    refine jw0 [cp 5 (C3 _ h_34) [(0,0),(1,1),(2,2),(3,3),(4,4),(5,5)] 7,cp 14 (IZ _ h_36) [(0,7)] 8,cp 15 (E8 _ h_38) [(0,1),(1,2),(2,3),(3,4),(4,5),(5,7),(6,8),(7,9),(8,10),(9,11)] 12] (hr:=?_)
    refine jm 3 (hr:=?_)
    exact jt (rr [(6,8),(7,9),(8,10),(9,11)])
   ·refine jm 1 (hr:=?_)
    refine jb fun r_42 h_43=>?_
    refine jb fun r_44 h_45=>?_
    refine jw0 [cp 5 (DG _ h_43) [(0,0),(1,1),(2,2),(3,3),(4,4),(5,5)] 7,cp 6 (IY _ h_45) [(0,7)] 8] (hr:=?_)
    refine jm 2 (hr:=?_)
    refine jc (h1:=fun b_48=>?_) (h2:=fun b_48=>?_)
    ·refine jb fun r_49 h_50=>?_
     refine jb fun r_51 h_52=>?_
     refine jw0 [cp 5 (C3 _ h_50) [(0,0),(1,1),(2,2),(3,3),(4,4),(5,5)] 8,cp 9 (E8 _ h_52) [(0,1),(1,2),(2,3),(3,4),(4,5),(5,7),(6,8),(7,9),(8,10),(9,11)] 12] (hr:=?_)
     refine jm 3 (hr:=?_)
     exact jt (rr [(6,8),(7,9),(8,10),(9,11)])
    ·refine jm 4 (hr:=?_)
     exact jt (rr [(6,2),(7,3),(8,4),(9,5)])
theorem UF {K l_1 s_2}:FS Tryz.prog 109 0 [.c (.imm (.slice kP) l_1),cS s_2] [] (EZ K l_1 s_2) (fun r=>.tup [(false,[.h 0]),(false,[.val (.int .i64 r.2)])]) fun r=>[(0,.row kP r.1)]:=by
 refine jfn (fn:=Tryz.f109) Tryz.func109 (jy (EZ.eq_1 ..) ?_)
 refine jm 4 (hr:=?_)
 refine jb fun r_4 h_5=>?_
 refine jr0 [cp 1 (NQ _ h_5) [] 0] (hr:=?_)
 refine jm 2 (hr:=?_)
 refine jc (h1:=fun b_8=>?_) (h2:=fun b_8=>?_)
 ·refine jm 2 (hr:=?_)
  refine jg [.nilSlot 4 kP] ?_
  exact jt (rr [])
 ·refine jm 4 (hr:=?_)
  refine jb fun r_11 h_12=>?_
  refine jb fun r_13 h_14=>?_
  refine jr0 [cp 2 (I7 _ h_12) [(0,0)] 1,cp 3 (K7 _ h_14) [(0,0)] 1] (hr:=?_)
  refine jc (h1:=fun b_16=>?_) (h2:=fun b_16=>?_)
  ·refine jm 2 (hr:=?_)
   refine jg [.nilSlot 4 kP] ?_
   exact jt (rr [(0,1)])
  ·refine jm 1 (hr:=?_)
   refine jb fun r_19 h_20=>?_
   refine jb fun r_21 h_22=>?_
   refine jr0 [cp 2 (K6 _ h_20) [(0,1)] 2,cp 3 (NT _ h_22) [(0,1)] 2] (hr:=?_)
   refine jc (h1:=fun b_24=>?_) (h2:=fun b_24=>?_)
   ·refine jm 2 (hr:=?_)
    refine jg [.nilSlot 4 kP] ?_
    exact jt (rr [(0,2)])
   ·refine jm 3 (hr:=?_)
    refine jb fun r_27 h_28=>?_
    refine jr0 [cp 1 (NP _ h_28) [(0,2)] 3] (hr:=?_)
    exact jt (rr [(0,2)])
theorem XV {K v_1 v_2 v_3 v_4 v_5 v_6 v_7 v_8 v_9 a_10 a_11 a_12 a_13 a_14 a_15 a_16 a_17 a_18}:FS Tryz.prog 66 6 [.c (.h 0),.agg [.val (.int .i64 a_10),.val (.int .i64 a_11),.val (.int .i64 a_12),.val (.int .i64 a_13),.val (.slice none 0 0),.val (.slice none 0 0),.imm (.slice kP) a_14,.val (.string a_15),.val (.int .i64 a_16),.val (.int .i64 a_17),.val (.int .i64 a_18)]] [(0,.box [.h 1,.imm (.opt (.opt .node)) v_6,.imm (.slice kP) v_7,.imm (.slice kS) v_8,.imm (.slice (.int .i64)) v_9]),(1,.box [.imm (.slice kAt) v_1,.h 2]),(2,.box [.h 3,.val (.int .i64 v_3),.h 4,.h 5]),(3,.sets v_2 none),(4,.map v_4),(5,.map v_5)] (H4 K v_1 v_2 v_3 v_4 v_5 v_6 v_7 v_8 v_9 a_10 a_11 a_12 a_13 a_14 a_15 a_16 a_17 a_18) (fun r=>cI r.1) fun r=>[(0,.box [.h 1,.imm (.opt (.opt .node)) v_6,.imm (.slice kP) r.2.2.2.2.2.2.1,.imm (.slice kS) r.2.2.2.2.2.2.2.1,.imm (.slice (.int .i64)) r.2.2.2.2.2.2.2.2]),(1,.box [.imm (.slice kAt) r.2.1,.h 2]),(2,.box [.h 6,.val (.int .i64 r.2.2.2.1),.h 4,.h 5]),(4,.map r.2.2.2.2.1),(5,.map r.2.2.2.2.2.1),(6,.sets r.2.2.1 none)]:=by
 refine jfn (fn:=Tryz.f66) Tryz.func66 (jy (H4.eq_1 ..) ?_)
 refine jm 5 (hr:=?_)
 refine jb fun r_20 h_21=>?_
 refine jr0 [cp 1 (DG _ h_21) [(0,0),(1,1),(2,2),(3,3),(4,4),(5,5)] 7] (hr:=?_)
 refine jm 6 (hr:=?_)
 refine jc (h1:=fun b_24=>?_) (h2:=fun b_24=>?_)
 ·refine jm 1 (hr:=?_)
  refine jb fun r_26 h_27=>?_
  refine jw0 [cp 6 (JB _ h_27) [(0,1),(1,2),(2,3),(3,4),(4,5),(5,7)] 8] (hr:=?_)
  exact jt (rr [(6,7)])
 ·refine jm 2 (hr:=?_)
  refine jc (h1:=fun b_30=>?_) (h2:=fun b_30=>?_)
  ·refine jb fun r_31 h_32=>?_
   refine jr0 [cp 4 (UF _ h_32) [(0,7)] 8] (hr:=?_)
   refine jm 3 (hr:=?_)
   refine jg [.shut 7] ?_
   exact jt (rr [(6,3)])
  ·refine jm 2 (hr:=?_)
   refine jc (h1:=fun b_36=>?_) (h2:=fun b_36=>?_)
   ·refine jm 5 (hr:=?_)
    refine ja (Y:=Bool) 8 (fun y_92=>[(0,.c (.h 0)),(6,cS r_20),(7,.c (.h 7)),(67,cB y_92)]) (fun y_92=>[(0,.box [.h 1,.imm (.opt (.opt .node)) v_6,.imm (.slice kP) v_7,.imm (.slice kS) v_8,.imm (.slice (.int .i64)) v_9]),(1,.box [.imm (.slice kAt) v_1,.h 2]),(2,.box [.h 3,.val (.int .i64 v_3),.h 4,.h 5]),(3,.sets v_2 none),(4,.map v_4),(5,.map v_5),(7,.box [.val (.int .i64 a_16),.val (.int .i64 a_17),.val (.int .i64 a_18)])]) (h1:=?_) (h2:=fun y_92=>?_)
    ·refine js (fun b_38=>?_) fun b_38=>?_
     ·refine jr [] [(71,true)] [(decide (a_16<(0:Int)))=true] (ap1 b_38) (hr:=?_)
      exact jo []
     ·refine js (fun b_40=>?_) fun b_40=>?_
      ·refine jr [] [(71,false),(78,true)] [(decide (a_16<(0:Int)))=false,(decide (a_16 > a_17))=true] (ap2 b_38 (ap1 b_40)) (hr:=?_)
       exact jo []
      ·refine jr [] [(71,false),(78,false)] [(decide (a_16<(0:Int)))=false,(decide (a_16 > a_17))=false] (ap2 b_38 (ap1 b_40)) (hr:=?_)
       exact jo []
    ·refine jc (h1:=fun b_44=>?_) (h2:=fun b_44=>?_)
     ·refine jm 2 (hr:=?_)
      exact jt (rr [(6,3)])
     ·refine jm 1 (hr:=?_)
      refine ja (Y:=Bool) 8 (fun y_93=>[(0,.c (.h 0)),(7,.c (.h 7)),(85,cB y_93)]) (fun y_93=>[(0,.box [.h 1,.imm (.opt (.opt .node)) v_6,.imm (.slice kP) v_7,.imm (.slice kS) v_8,.imm (.slice (.int .i64)) v_9]),(1,.box [.imm (.slice kAt) v_1,.h 2]),(2,.box [.h 3,.val (.int .i64 v_3),.h 4,.h 5]),(3,.sets v_2 none),(4,.map v_4),(5,.map v_5),(7,.box [.val (.int .i64 a_16),.val (.int .i64 a_17),.val (.int .i64 a_18)])]) (h1:=?_) (h2:=fun y_93=>?_)
      ·refine jb fun r_47 h_48=>?_
       refine js (fun b_49=>?_) fun b_49=>?_
       ·refine jr [cp 3 (B8 _ h_48) [] 8] [(91,true)] [(!r_47)=true] (ap1 b_49) (hr:=?_)
        exact jo []
       ·refine jb fun r_51 h_52=>?_
        refine jr [cp 3 (B8 _ h_48) [] 8,cp 9 (B8 _ h_52) [] 8] [(91,false)] [(!r_47)=false] (ap1 b_49) (hr:=?_)
        exact jo []
      ·refine jc (h1:=fun b_55=>?_) (h2:=fun b_55=>?_)
       ·refine jm 2 (hr:=?_)
        exact jt (rr [(6,3)])
       ·refine jm 2 (hr:=?_)
        refine jb fun r_58 h_59=>?_
        refine jw0 [cp 6 (KR _ h_59) [(0,8)] 9] (hr:=?_)
        refine jm 3 (hr:=?_)
        refine jg [.shut 8] ?_
        exact jt (rr [(6,3)])
   ·refine jm 3 (hr:=?_)
    refine ja (Y:=Bool) 7 (fun y_94=>[(0,.c (.h 0)),(3,.c (.h 6)),(6,cS r_20),(12,cB y_94)]) (fun y_94=>[(0,.box [.h 1,.imm (.opt (.opt .node)) v_6,.imm (.slice kP) v_7,.imm (.slice kS) v_8,.imm (.slice (.int .i64)) v_9]),(1,.box [.imm (.slice kAt) v_1,.h 2]),(2,.box [.h 3,.val (.int .i64 v_3),.h 4,.h 5]),(3,.sets v_2 none),(4,.map v_4),(5,.map v_5),(6,.box [.val (.int .i64 a_10),.val (.int .i64 a_11),.val (.int .i64 a_12),.val (.int .i64 a_13),.val (.slice none 0 0),.val (.slice none 0 0),.imm (.slice kP) a_14,.val (.string a_15),.val (.int .i64 a_16),.val (.int .i64 a_17),.val (.int .i64 a_18)])]) (h1:=?_) (h2:=fun y_94=>?_)
    ·refine js (fun b_63=>?_) fun b_63=>?_
     ·refine jr [] [(16,true)] [(decide (a_11≤(0:Int)))=true] (ap1 b_63) (hr:=?_)
      exact jo []
     ·refine jr [] [(16,false)] [(decide (a_11≤(0:Int)))=false] (ap1 b_63) (hr:=?_)
      exact jo []
    ·refine jc (h1:=fun b_67=>?_) (h2:=fun b_67=>?_)
     ·refine jm 2 (hr:=?_)
      exact jt (rr [(6,3)])
     ·refine jm 1 (hr:=?_)
      refine jb fun r_70 h_71=>?_
      refine jr0 [cp 3 (B8 _ h_71) [] 7] (hr:=?_)
      refine jc (h1:=fun b_73=>?_) (h2:=fun b_73=>?_)
      ·refine jm 2 (hr:=?_)
       exact jt (rr [(6,3)])
      ·refine jm 2 (hr:=?_)
       refine jb fun r_76 h_77=>?_
       refine jw0 [cp 7 (IV _ h_77) [(0,7)] 8] (hr:=?_)
       refine jm 3 (hr:=?_)
       refine jg [.shut 7] ?_
       exact jt (rr [(6,3)])
theorem XO {K v_1 v_2 v_3 v_4 v_5 v_6 v_7 v_8 v_9 a_10 a_11 a_12 a_13 a_14 a_15 a_16 a_17 a_18}:FS Tryz.prog 26 7 [.c (.h 0),.agg [.val (.int .i64 a_10),.val (.int .i64 a_11),.val (.int .i64 a_12),.val (.int .i64 a_13),.val (.slice none 0 0),.val (.slice none 0 0),.h 6,.val (.string a_15),.val (.int .i64 a_16),.val (.int .i64 a_17),.val (.int .i64 a_18)]] [(0,.box [.h 1,.imm (.opt (.opt .node)) v_6,.imm (.slice kP) v_7,.imm (.slice kS) v_8,.imm (.slice (.int .i64)) v_9]),(1,.box [.imm (.slice kAt) v_1,.h 2]),(2,.box [.h 3,.val (.int .i64 v_3),.h 4,.h 5]),(3,.sets v_2 none),(4,.map v_4),(5,.map v_5),(6,.row kP a_14)] (GX K v_1 v_2 v_3 v_4 v_5 v_6 v_7 v_8 v_9 a_10 a_11 a_12 a_13 a_14 a_15 a_16 a_17 a_18) (fun r=>.tup [(false,[.val (.int .i64 r.1)]),(false,[.val (.int .i64 r.2.1)])]) fun r=>[(0,.box [.h 7,.imm (.opt (.opt .node)) r.2.2.2.2.2.2.2.1,.imm (.slice kP) r.2.2.2.2.2.2.2.2.1,.imm (.slice kS) r.2.2.2.2.2.2.2.2.2.1,.imm (.slice (.int .i64)) r.2.2.2.2.2.2.2.2.2.2]),(7,.box [.imm (.slice kAt) r.2.2.1,.h 8]),(8,.box [.h 9,.val (.int .i64 r.2.2.2.2.1),.h 10,.h 11]),(9,.sets r.2.2.2.1 none),(10,.map r.2.2.2.2.2.1),(11,.map r.2.2.2.2.2.2.1)]:=by
 refine jfn (fn:=Tryz.f26) Tryz.func26 (jy (GX.eq_1 ..) ?_)
 refine jg [.shut 6] ?_
 refine jm 4 (hr:=?_)
 refine ja (Y:=Bool) 8 (fun y_81=>[(0,.c (.h 0)),(3,.c (.h 7)),(15,cB y_81)]) (fun y_81=>[(0,.box [.h 1,.imm (.opt (.opt .node)) v_6,.imm (.slice kP) v_7,.imm (.slice kS) v_8,.imm (.slice (.int .i64)) v_9]),(1,.box [.imm (.slice kAt) v_1,.h 2]),(2,.box [.h 3,.val (.int .i64 v_3),.h 4,.h 5]),(3,.sets v_2 none),(4,.map v_4),(5,.map v_5),(7,.box [.val (.int .i64 a_10),.val (.int .i64 a_11),.val (.int .i64 a_12),.val (.int .i64 a_13),.val (.slice none 0 0),.val (.slice none 0 0),.imm (.slice kP) a_14,.val (.string a_15),.val (.int .i64 a_16),.val (.int .i64 a_17),.val (.int .i64 a_18)])]) (h1:=?_) (h2:=fun y_81=>?_)
 ·refine js (fun b_20=>?_) fun b_20=>?_
  ·refine jr [] [(11,true)] [(decide (a_10<(1:Int)))=true] (ap1 b_20) (hr:=?_)
   exact jo []
  ·refine jr [] [(11,false)] [(decide (a_10<(1:Int)))=false] (ap1 b_20) (hr:=?_)
   exact jo []
 ·refine jc (h1:=fun b_24=>?_) (h2:=fun b_24=>?_)
  ·refine jm 2 (hr:=?_)
   exact jt (rr [(7,1),(8,2),(9,3),(10,4),(11,5)])
  ·refine jm 2 (hr:=?_)
   refine jb fun r_27 h_28=>?_
   refine jr0 [cp 1 (L3 _ h_28) [(0,0),(1,1),(2,2),(3,3),(4,4),(5,5),(6,8),(7,9),(8,10),(9,11),(10,12),(11,13)] 14] (hr:=?_)
   refine jm 4 (hr:=?_)
   refine jb fun r_31 h_32=>?_
   refine jwi [cp 0 (LA _ h_32) [] 14] [] (hr:=fun c_33=>?_)
   refine ja (Y:=((List AtT)×(List (List Int))×Int×(List Int)×(List Int)×(List (Int×Int))×(List (Int×(Int×Int)))×(List Int)×Int)) 22 (fun y_82=>[(0,.c (.h 0)),(6,.c (.h 8)),(7,cI y_82.2.2.2.2.2.2.2.2)]) (fun y_82=>[(0,.box [.h 1,.imm (.opt (.opt .node)) v_6,.imm (.slice kP) v_7,.imm (.slice kS) v_8,.imm (.slice (.int .i64)) v_9]),(1,.box [.imm (.slice kAt) v_1,.h 2]),(2,.box [.h 3,.val (.int .i64 v_3),.h 4,.h 5]),(3,.sets v_2 none),(4,.map v_4),(5,.map v_5),(8,.box [.h 9,.imm (.opt (.opt .node)) v_6,.imm (.slice kP) y_82.2.2.2.2.2.1,.imm (.slice kS) y_82.2.2.2.2.2.2.1,.imm (.slice (.int .i64)) y_82.2.2.2.2.2.2.2.1]),(9,.box [.imm (.slice kAt) y_82.1,.h 18]),(18,.box [.h 19,.val (.int .i64 y_82.2.2.1),.h 20,.h 21]),(19,.sets y_82.2.1 none),(20,.map y_82.2.2.2.1),(21,.map y_82.2.2.2.2.1)]) (h1:=?_) (h2:=fun y_82=>?_)
   ·refine jc (h1:=fun b_34=>?_) (h2:=fun b_34=>?_)
    ·refine jm 1 (hr:=?_)
     refine jb fun r_36 h_37=>?_
     refine jr0 [cp 2 (XS _ h_37) [(0,8),(1,9),(2,10),(3,11),(4,12),(5,13),(6,14),(7,15),(8,16),(9,17)] 18] (hr:=?_)
     refine jm 2 (hr:=?_)
     refine jc (h1:=fun b_40=>?_) (h2:=fun b_40=>?_)
     ·refine jb fun r_41 h_42=>?_
      refine jr0 [cp 2 (L7 _ h_42) [(0,8),(1,9),(2,14),(3,15),(4,16),(5,17),(6,0),(7,1),(8,2),(9,3),(10,4),(11,5)] 18] (hr:=?_)
      exact jo [(18,14),(19,15),(20,16),(21,17)]
     ·refine jm 1 (hr:=?_)
      exact jo [(18,14),(19,15),(20,16),(21,17)]
    ·refine jb fun r_45 h_46=>?_
     refine jr0 [cp 2 (XV _ h_46) [(0,8),(1,9),(2,10),(3,11),(4,12),(5,13),(6,14)] 15] (hr:=?_)
     exact jo [(18,10),(19,14),(20,12),(21,13)]
   ·refine jm 3 (hr:=?_)
    refine jc (h1:=fun b_58=>?_) (h2:=fun b_58=>?_)
    ·refine jm 2 (hr:=?_)
     exact jt (rr [(7,1),(8,2),(9,3),(10,4),(11,5)])
    ·refine jm 2 (hr:=?_)
     refine jb fun r_61 h_62=>?_
     refine jr0 [cp 2 (L9 _ h_62) [(0,8),(1,9),(2,18),(3,19),(4,20),(5,21)] 22] (hr:=?_)
     refine jm 1 (hr:=?_)
     refine jb fun r_65 h_66=>?_
     refine jr0 [cp 1 (C3 _ h_66) [(0,0),(1,9),(2,18),(3,19),(4,20),(5,21)] 22] (hr:=?_)
     exact jt (rr [(7,9),(8,18),(9,19),(10,20),(11,21)])
theorem U4 {K s_1 from_2 to_3 more_4}:FS Tryz.prog 7 0 [cS s_1,.c (.val (.int .u8 from_2)),.c (.val (.int .u8 to_3)),.c (.imm (.slice .str) more_4)] [] (BY K s_1 from_2 to_3 more_4) (fun r=>cB r) fun r=>[]:=by
 refine jfn (fn:=Tryz.f7) Tryz.func7 (jy (BY.eq_1 ..) ?_)
 refine jm 4 (hr:=?_)
 refine jb fun r_6 h_7=>?_
 refine jr0 [cp 0 (U6 _ h_7) [] 0] (hr:=?_)
 refine jc (h1:=fun b_9=>?_) (h2:=fun b_9=>?_)
 ·refine jm 2 (hr:=?_)
  exact jt (rr [])
 ·refine jm 3 (hr:=?_)
  refine ja (Y:=Bool) 0 (fun y_127=>[(0,cS s_1),(1,.c (.val (.int .u8 from_2))),(2,.c (.val (.int .u8 to_3))),(3,.c (.imm (.slice .str) more_4)),(38,cB y_127)]) (fun y_127=>[]) (h1:=?_) (h2:=fun y_127=>?_)
  ·refine js (fun b_12=>?_) fun b_12=>?_
   ·refine jr [] [(24,true)] [(decide ((((ByteArray.size s_1):Nat):Int)<(1:Int)))=true] (ap1 b_12) (hr:=?_)
    exact jo []
   ·refine js (fun b_14=>?_) fun b_14=>?_
    ·refine jr [] [(24,false),(29,true)] [(decide ((((ByteArray.size s_1):Nat):Int)<(1:Int)))=false,(decide ((((ByteArray.size s_1):Nat):Int) > (60:Int)))=true] (ap2 b_12 (ap1 b_14)) (hr:=?_)
     exact jo []
    ·refine js (fun b_16=>?_) fun b_16=>?_
     ·refine jr [] [(24,false),(29,false),(34,true)] [(decide ((((ByteArray.size s_1):Nat):Int)<(1:Int)))=false,(decide ((((ByteArray.size s_1):Nat):Int) > (60:Int)))=false,(decide ((lnI more_4) > (8:Int)))=true] (ap2 b_12 (ap2 b_14 (ap1 b_16))) (hr:=?_)
      exact jo []
     ·refine jb fun r_18 h_19=>?_
      refine jr [cp 15 (U5 _ h_19) [] 0] [(24,false),(29,false),(34,false)] [(decide ((((ByteArray.size s_1):Nat):Int)<(1:Int)))=false,(decide ((((ByteArray.size s_1):Nat):Int) > (60:Int)))=false,(decide ((lnI more_4) > (8:Int)))=false] (ap2 b_12 (ap2 b_14 (ap1 b_16))) (hr:=?_)
      exact jo []
  ·refine jc (h1:=fun b_22=>?_) (h2:=fun b_22=>?_)
   ·refine jm 2 (hr:=?_)
    exact jt (rr [])
   ·refine jm 2 (hr:=?_)
    refine jb fun r_25 h_26=>?_
    refine jr0 [cp 0 (PG _ h_26) [(0,0),(1,1),(2,2),(3,3),(4,4),(5,5)] 6] (hr:=?_)
    refine ji 5 (hr:=fun c_28=>?_)
    refine jb fun r_29 h_30=>?_
    refine jr0 [cp 3 (IM _ h_30) [(0,0),(1,1),(2,2),(3,3),(4,4),(5,5),(6,6),(7,7),(8,8),(9,9),(10,10)] 11] (hr:=?_)
    refine jm 1 (hr:=?_)
    refine jb fun r_33 h_34=>?_
    refine jr0 [cp 5 (IM _ h_34) [(0,0),(1,6),(2,7),(3,8),(4,9),(5,10),(6,11),(7,12),(8,13),(9,14),(10,15)] 16] (hr:=?_)
    refine jm 5 (hr:=?_)
    refine ja2 (Y:=((List AtT)×(List (List Int))×Int×(List Int)×(List Int)×(Option (Option Tree))×(List (Int×Int))×(List (Int×(Int×Int)))×(List Int)×Int)) 32 (fun y_128=>[(0,cS s_1),(9,.c (.h 0)),(10,cI (Int.tmod (w6 from_2) (((ByteArray.size s_1):Nat):Int))),(11,cI (w6 ((w6 ((Int.tmod (w6 from_2) (((ByteArray.size s_1):Nat):Int))+(1:Int)))+(Int.tmod (w6 to_3) (w6 ((((ByteArray.size s_1):Nat):Int) - (Int.tmod (w6 from_2) (((ByteArray.size s_1):Nat):Int)))))))),(13,cI r_33.2.1),(14,cI y_128.2.2.2.2.2.2.2.2.2)]) (fun y_128=>[(0,.box [.h 27,.imm (.opt (.opt .node)) y_128.2.2.2.2.2.1,.imm (.slice kP) y_128.2.2.2.2.2.2.1,.imm (.slice kS) y_128.2.2.2.2.2.2.2.1,.imm (.slice (.int .i64)) y_128.2.2.2.2.2.2.2.2.1]),(27,.box [.imm (.slice kAt) y_128.1,.h 28]),(28,.box [.h 29,.val (.int .i64 y_128.2.2.1),.h 30,.h 31]),(29,.sets y_128.2.1 none),(30,.map y_128.2.2.2.1),(31,.map y_128.2.2.2.2.1)]) (h1:=?_) (h2:=fun y_128=>?_)
    ·refine jm 1 (hr:=?_)
     refine jl (X:=((List AtT)×(List (List Int))×Int×(List Int)×(List Int)×(Option (Option Tree))×(List (Int×Int))×(List (Int×(Int×Int)))×(List Int)×Int×Int)) (fun k x=>BY.l0 K more_4 k x.1 x.2.1 x.2.2.1 x.2.2.2.1 x.2.2.2.2.1 x.2.2.2.2.2.1 x.2.2.2.2.2.2.1 x.2.2.2.2.2.2.2.1 x.2.2.2.2.2.2.2.2.1 x.2.2.2.2.2.2.2.2.2.1 x.2.2.2.2.2.2.2.2.2.2) K (r_33.2.2.1,r_33.2.2.2.1,r_33.2.2.2.2.1,r_33.2.2.2.2.2.1,r_33.2.2.2.2.2.2.1,r_33.2.2.2.2.2.2.2.1,r_33.2.2.2.2.2.2.2.2.1,r_33.2.2.2.2.2.2.2.2.2.1,r_33.2.2.2.2.2.2.2.2.2.2,(0:Int),(0:Int)) rfl 32 [(27,11),(28,12),(29,13),(30,14),(31,15)] (fun x_73=>[(0,cS s_1),(3,.c (.imm (.slice .str) more_4)),(9,.c (.h 0)),(10,cI (Int.tmod (w6 from_2) (((ByteArray.size s_1):Nat):Int))),(11,cI (w6 ((w6 ((Int.tmod (w6 from_2) (((ByteArray.size s_1):Nat):Int))+(1:Int)))+(Int.tmod (w6 to_3) (w6 ((((ByteArray.size s_1):Nat):Int) - (Int.tmod (w6 from_2) (((ByteArray.size s_1):Nat):Int)))))))),(13,cI r_33.2.1),(14,cI x_73.2.2.2.2.2.2.2.2.2.1),(15,cI x_73.2.2.2.2.2.2.2.2.2.2)]) (fun x_73=>[(0,.box [.h 27,.imm (.opt (.opt .node)) x_73.2.2.2.2.2.1,.imm (.slice kP) x_73.2.2.2.2.2.2.1,.imm (.slice kS) x_73.2.2.2.2.2.2.2.1,.imm (.slice (.int .i64)) x_73.2.2.2.2.2.2.2.2.1]),(27,.box [.imm (.slice kAt) x_73.1,.h 28]),(28,.box [.h 29,.val (.int .i64 x_73.2.2.1),.h 30,.h 31]),(29,.sets x_73.2.1 none),(30,.map x_73.2.2.2.1),(31,.map x_73.2.2.2.2.1)]) (fun _=>rfl) (round:=fun k x_73=>jy (BY.l0.eq_2 ..) ?_)
     refine jm 3 (hr:=?_)
     refine jc (h1:=fun b_75=>?_) (h2:=fun b_75=>?_)
     ·refine jm 5 (hr:=?_)
      refine ja (Y:=Bool) 32 (fun y_129=>[(0,cS s_1),(3,.c (.imm (.slice .str) more_4)),(9,.c (.h 0)),(10,cI (Int.tmod (w6 from_2) (((ByteArray.size s_1):Nat):Int))),(11,cI (w6 ((w6 ((Int.tmod (w6 from_2) (((ByteArray.size s_1):Nat):Int))+(1:Int)))+(Int.tmod (w6 to_3) (w6 ((((ByteArray.size s_1):Nat):Int) - (Int.tmod (w6 from_2) (((ByteArray.size s_1):Nat):Int)))))))),(13,cI r_33.2.1),(14,cI x_73.2.2.2.2.2.2.2.2.2.1),(15,cI x_73.2.2.2.2.2.2.2.2.2.2),(87,cB y_129)]) (fun y_129=>[(0,.box [.h 27,.imm (.opt (.opt .node)) x_73.2.2.2.2.2.1,.imm (.slice kP) x_73.2.2.2.2.2.2.1,.imm (.slice kS) x_73.2.2.2.2.2.2.2.1,.imm (.slice (.int .i64)) x_73.2.2.2.2.2.2.2.2.1]),(27,.box [.imm (.slice kAt) x_73.1,.h 28]),(28,.box [.h 29,.val (.int .i64 x_73.2.2.1),.h 30,.h 31]),(29,.sets x_73.2.1 none),(30,.map x_73.2.2.2.1),(31,.map x_73.2.2.2.2.1)]) (h1:=?_) (h2:=fun y_129=>?_)
      ·refine js (fun b_77=>?_) fun b_77=>?_
       ·refine jp fun c_78=>?_
        refine jr [] [(80,true)] [0≤x_73.2.2.2.2.2.2.2.2.2.2,x_73.2.2.2.2.2.2.2.2.2.2<(lnI more_4),(decide ((((ByteArray.size (List.getD more_4 (Int.toNat x_73.2.2.2.2.2.2.2.2.2.2) ByteArray.empty)):Nat):Int) > (20:Int)))=true] (ap2 c_78.1 (ap2 c_78.2 (ap1 b_77))) (hr:=?_)
        exact jo []
       ·refine jb fun r_79 h_80=>?_
        refine jp fun c_81=>?_
        refine jr [cp 11 (U3 _ h_80) [] 32] [(80,false)] [0≤x_73.2.2.2.2.2.2.2.2.2.2,x_73.2.2.2.2.2.2.2.2.2.2<(lnI more_4),(decide ((((ByteArray.size (List.getD more_4 (Int.toNat x_73.2.2.2.2.2.2.2.2.2.2) ByteArray.empty)):Nat):Int) > (20:Int)))=false,0≤x_73.2.2.2.2.2.2.2.2.2.2,x_73.2.2.2.2.2.2.2.2.2.2<(lnI more_4)] (ap2 c_81.1 (ap2 c_81.2 (ap2 b_77 (ap2 c_81.1 (ap1 c_81.2))))) (hr:=?_)
        exact jo []
      ·refine jc (h1:=fun b_83=>?_) (h2:=fun b_83=>?_)
       ·refine jm 2 (hr:=?_)
        exact jt (rl (rc (rr [])))
       ·refine jm 2 (hr:=?_)
        refine jb fun r_86 h_87=>?_
        refine jr0 [cp 4 (XO _ h_87) [(0,0),(1,27),(2,28),(3,29),(4,30),(5,31),(6,32),(7,33),(8,34),(9,35),(10,36),(11,37)] 38] (hr:=?_)
        refine jm 1 (hr:=?_)
        refine jb fun r_90 h_91=>?_
        refine jri [cp 6 (IM _ h_91) [(0,0),(1,33),(2,34),(3,35),(4,36),(5,37),(6,38),(7,39),(8,40),(9,41),(10,42)] 43] [] (hr:=fun c_92=>?_)
        refine jm 3 (hr:=?_)
        refine jc (h1:=fun b_94=>?_) (h2:=fun b_94=>?_)
        ·refine jm 2 (hr:=?_)
         exact jt (rl (rc (rr [])))
        ·refine jn 4 [0≤x_73.2.2.2.2.2.2.2.2.2.2,x_73.2.2.2.2.2.2.2.2.2.2<(lnI more_4)] (ap2 c_92.1 (ap1 c_92.2)) (hr:=?_)
         exact jx (r_90.2.2.1,r_90.2.2.2.1,r_90.2.2.2.2.1,r_90.2.2.2.2.2.1,r_90.2.2.2.2.2.2.1,r_90.2.2.2.2.2.2.2.1,r_90.2.2.2.2.2.2.2.2.1,r_90.2.2.2.2.2.2.2.2.2.1,r_90.2.2.2.2.2.2.2.2.2.2,(w6 (x_73.2.2.2.2.2.2.2.2.2.1+(((ByteArray.size (List.getD more_4 (Int.toNat x_73.2.2.2.2.2.2.2.2.2.2) ByteArray.empty)):Nat):Int))),(w6 (x_73.2.2.2.2.2.2.2.2.2.2+(1:Int)))) rfl [(27,38),(28,39),(29,40),(30,41),(31,42)]
     ·refine jq 0 (ql (qh ?_))
      exact jo []
    ·refine jm 1 (hr:=?_)
     refine jb fun r_108 h_109=>?_
     refine jr0 [cp 1 (PH _ h_109) [(0,0),(1,27),(2,28),(3,29),(4,30),(5,31),(6,32)] 33] (hr:=?_)
     refine jm 1 (hr:=?_)
     refine js (fun b_112=>?_) fun b_112=>?_
     ·refine js (fun b_113=>?_) fun b_113=>?_
      ·refine js (fun b_114=>?_) fun b_114=>?_
       ·refine jb fun r_115 h_116=>?_
        refine jp fun c_117=>?_
        refine jw [cp 22 (DG _ h_116) [(0,0),(1,27),(2,28),(3,29),(4,30),(5,31)] 33] [(116,true),(121,true),(134,true)] [(r_33.2.1==(0:Int))=true,((lnI r_108)==(1:Int))=true,(0:Int)≤(0:Int),(0:Int)<(lnI r_108),(((List.getD r_108 0 zS).1==(w6 ((Int.tmod (w6 from_2) (((ByteArray.size s_1):Nat):Int))+y_128.2.2.2.2.2.2.2.2.2)))&&(((List.getD r_108 0 zS).2.1==(w6 ((w6 ((w6 ((Int.tmod (w6 from_2) (((ByteArray.size s_1):Nat):Int))+(1:Int)))+(Int.tmod (w6 to_3) (w6 ((((ByteArray.size s_1):Nat):Int) - (Int.tmod (w6 from_2) (((ByteArray.size s_1):Nat):Int)))))))+y_128.2.2.2.2.2.2.2.2.2)))&&((List.getD r_108 0 zS).2.2==(7:Int))))=true,(0:Int)≤(w6 ((Int.tmod (w6 from_2) (((ByteArray.size s_1):Nat):Int))+y_128.2.2.2.2.2.2.2.2.2)),(w6 ((Int.tmod (w6 from_2) (((ByteArray.size s_1):Nat):Int))+y_128.2.2.2.2.2.2.2.2.2))≤(w6 ((w6 ((w6 ((Int.tmod (w6 from_2) (((ByteArray.size s_1):Nat):Int))+(1:Int)))+(Int.tmod (w6 to_3) (w6 ((((ByteArray.size s_1):Nat):Int) - (Int.tmod (w6 from_2) (((ByteArray.size s_1):Nat):Int)))))))+y_128.2.2.2.2.2.2.2.2.2)),(w6 ((w6 ((w6 ((Int.tmod (w6 from_2) (((ByteArray.size s_1):Nat):Int))+(1:Int)))+(Int.tmod (w6 to_3) (w6 ((((ByteArray.size s_1):Nat):Int) - (Int.tmod (w6 from_2) (((ByteArray.size s_1):Nat):Int)))))))+y_128.2.2.2.2.2.2.2.2.2))≤(((ByteArray.size r_115):Nat):Int),(0:Int)≤(Int.tmod (w6 from_2) (((ByteArray.size s_1):Nat):Int)),(Int.tmod (w6 from_2) (((ByteArray.size s_1):Nat):Int))≤(w6 ((w6 ((Int.tmod (w6 from_2) (((ByteArray.size s_1):Nat):Int))+(1:Int)))+(Int.tmod (w6 to_3) (w6 ((((ByteArray.size s_1):Nat):Int) - (Int.tmod (w6 from_2) (((ByteArray.size s_1):Nat):Int))))))),(w6 ((w6 ((Int.tmod (w6 from_2) (((ByteArray.size s_1):Nat):Int))+(1:Int)))+(Int.tmod (w6 to_3) (w6 ((((ByteArray.size s_1):Nat):Int) - (Int.tmod (w6 from_2) (((ByteArray.size s_1):Nat):Int)))))))≤(((ByteArray.size s_1):Nat):Int),(0:Int)≤(Int.tmod (w6 from_2) (((ByteArray.size s_1):Nat):Int)),(Int.tmod (w6 from_2) (((ByteArray.size s_1):Nat):Int))≤(w6 ((w6 ((Int.tmod (w6 from_2) (((ByteArray.size s_1):Nat):Int))+(1:Int)))+(Int.tmod (w6 to_3) (w6 ((((ByteArray.size s_1):Nat):Int) - (Int.tmod (w6 from_2) (((ByteArray.size s_1):Nat):Int))))))),(w6 ((w6 ((Int.tmod (w6 from_2) (((ByteArray.size s_1):Nat):Int))+(1:Int)))+(Int.tmod (w6 to_3) (w6 ((((ByteArray.size s_1):Nat):Int) - (Int.tmod (w6 from_2) (((ByteArray.size s_1):Nat):Int)))))))≤(((ByteArray.size s_1):Nat):Int)] (ap2 b_112 (ap2 b_113 (ap2 (by decide) (ap2 c_117.1 (ap2 b_114 (ap2 c_117.2.1 (ap2 c_117.2.2.1 (ap2 c_117.2.2.2.1 (ap2 c_117.2.2.2.2.1 (ap2 c_117.2.2.2.2.2.1 (ap2 c_117.2.2.2.2.2.2 (ap2 c_117.2.2.2.2.1 (ap2 c_117.2.2.2.2.2.1 (ap1 c_117.2.2.2.2.2.2)))))))))))))) (hr:=?_)
        exact jt (rr [])
       ·refine jp fun c_118=>?_
        refine jw [] [(116,true),(121,true),(134,false)] [(r_33.2.1==(0:Int))=true,((lnI r_108)==(1:Int))=true,(0:Int)≤(0:Int),(0:Int)<(lnI r_108),(((List.getD r_108 0 zS).1==(w6 ((Int.tmod (w6 from_2) (((ByteArray.size s_1):Nat):Int))+y_128.2.2.2.2.2.2.2.2.2)))&&(((List.getD r_108 0 zS).2.1==(w6 ((w6 ((w6 ((Int.tmod (w6 from_2) (((ByteArray.size s_1):Nat):Int))+(1:Int)))+(Int.tmod (w6 to_3) (w6 ((((ByteArray.size s_1):Nat):Int) - (Int.tmod (w6 from_2) (((ByteArray.size s_1):Nat):Int)))))))+y_128.2.2.2.2.2.2.2.2.2)))&&((List.getD r_108 0 zS).2.2==(7:Int))))=false] (ap2 b_112 (ap2 b_113 (ap2 (by decide) (ap2 c_118 (ap1 b_114))))) (hr:=?_)
        exact jt (rr [])
      ·refine jw [] [(116,true),(121,false)] [(r_33.2.1==(0:Int))=true,((lnI r_108)==(1:Int))=false] (ap2 b_112 (ap1 b_113)) (hr:=?_)
       exact jt (rr [])
     ·refine jw [] [(116,false)] [(r_33.2.1==(0:Int))=false] (ap1 b_112) (hr:=?_)
      exact jt (rr [])
end Go.Pal
