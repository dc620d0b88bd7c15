/- The Go functions that WholeStyles reaches compute what the plain functions say: a part, printed by a program of this workplace. -/
import Derived.Test.YtidbfmbocikkgaaGreatChecked
import Derived.Test.YtidbfmbocikkgaaGreatTopWholeStyles
namespace Go.Pal
open Go Go.Proofs
set_option maxRecDepth 100000
set_option linter.unusedVariables false
theorem UR {K}:FS Tryz.prog 50 0 [] [] (K9 K) (fun r=>.c (.h 0)) fun r=>[(0,.box [.h 1,.val (.int .i64 (0:Int)),.h 2,.h 3]),(1,.sets r.1 none),(2,.map r.2.1),(3,.map r.2.2)]:=by
 refine jfn (fn:=Tryz.f50) Tryz.func50 (jy (K9.eq_1 ..) ?_)
 refine jm 4 (hr:=?_)
 refine jg0 (.lits 1) (hr:=?_)
 refine jg0 (.absorb 5) (hr:=?_)
 exact jt (rr [(0,4),(1,6)])
theorem S7 {K}:FS Tryz.prog 16 0 [] [] (HQ K) (fun r=>.c (.h 0)) fun r=>[(0,.box [.imm (.slice kAt) ([]:List AtT),.h 1]),(1,.box [.h 2,.val (.int .i64 (0:Int)),.h 3,.h 4]),(2,.sets r.1 none),(3,.map r.2.1),(4,.map r.2.2)]:=by
 refine jfn (fn:=Tryz.f16) Tryz.func16 (jy (HQ.eq_1 ..) ?_)
 refine jm 3 (hr:=?_)
 refine jb fun r_2 h_3=>?_
 refine jr0 [cp 0 (UR _ h_3) [(0,0),(1,1),(2,2),(3,3)] 4] (hr:=?_)
 refine jg [.readCell 4 0 (.slice kAt)] ?_
 exact jt (rr [(0,4),(1,0),(2,1),(3,2),(4,3)])
theorem F4 {K r_1 r_2 r_3 r_4}:FS Tryz.prog 79 4 [.c (.h 0)] [(0,.box [.h 1,.val (.int .i64 r_2),.h 2,.h 3]),(1,.sets r_1 none),(2,.map r_3),(3,.map r_4)] (CS K r_1 r_2 r_3 r_4) (fun r=>cI r) fun r=>[(0,.box [.h 1,.val (.int .i64 r_2),.h 2,.h 3]),(1,.sets r_1 none),(2,.map r_3),(3,.map r_4)]:=by
 refine jfn (fn:=Tryz.f79) Tryz.func79 (jy (CS.eq_1 ..) ?_)
 refine jm 3 (hr:=?_)
 refine jw0 [] (hr:=?_)
 exact jt (rr [])
theorem HO {K e_1 e_2 e_3 e_4 e_5}:FS Tryz.prog 48 5 [.c (.h 0)] [(0,.box [.imm (.slice kAt) e_1,.h 1]),(1,.box [.h 2,.val (.int .i64 e_3),.h 3,.h 4]),(2,.sets e_2 none),(3,.map e_4),(4,.map e_5)] (D2 K e_1 e_2 e_3 e_4 e_5) (fun r=>cI r) fun r=>[(0,.box [.imm (.slice kAt) e_1,.h 1]),(1,.box [.h 2,.val (.int .i64 e_3),.h 3,.h 4]),(2,.sets e_2 none),(3,.map e_4),(4,.map e_5)]:=by
 refine jfn (fn:=Tryz.f48) Tryz.func48 (jy (D2.eq_1 ..) ?_)
 refine jm 3 (hr:=?_)
 refine jb fun r_7 h_8=>?_
 refine jr0 [cp 4 (F4 _ h_8) [(0,1),(1,2),(2,3),(3,4)] 5] (hr:=?_)
 exact jt (rr [])
theorem XQ {K v_1 v_2 v_3 v_4 v_5 v_6}:FS Tryz.prog 42 6 [.c (.h 0)] [(0,.box [.h 1,.val (.pointer none),.imm (.slice kP) v_6,.val (.slice none 0 0),.val (.slice none 0 0)]),(1,.box [.imm (.slice kAt) v_1,.h 2]),(2,.box [.h 3,.val (.int .i64 v_3),.h 4,.h 5]),(3,.sets v_2 none),(4,.map v_4),(5,.map v_5)] (GY K v_1 v_2 v_3 v_4 v_5 v_6) (fun r=>cI r) fun r=>[(0,.box [.h 1,.imm (.opt (.opt .node)) (none:(Option (Option Tree))),.imm (.slice kP) v_6,.imm (.slice kS) ([]:List (Int×(Int×Int))),.imm (.slice (.int .i64)) ([]:List Int)]),(1,.box [.imm (.slice kAt) v_1,.h 2]),(2,.box [.h 3,.val (.int .i64 v_3),.h 4,.h 5]),(3,.sets v_2 none),(4,.map v_4),(5,.map v_5)]:=by
 refine jfn (fn:=Tryz.f42) Tryz.func42 (jy (GY.eq_1 ..) ?_)
 refine jm 3 (hr:=?_)
 refine jb fun r_8 h_9=>?_
 refine jr0 [cp 4 (HO _ h_9) [(0,1),(1,2),(2,3),(3,4),(4,5)] 6] (hr:=?_)
 refine jg [.readCell 0 1 (.opt (.opt .node)),.readCell 0 3 (.slice kS),.readCell 0 4 (.slice (.int .i64))] ?_
 exact jt (rr [])
theorem NV {K r_1 r_2 r_3 r_4 rev_5}:FS Tryz.prog 100 4 [.c (.h 0),cI rev_5] [(0,.box [.h 1,.val (.int .i64 r_2),.h 2,.h 3]),(1,.sets r_1 none),(2,.map r_3),(3,.map r_4)] (F5 K r_1 r_2 r_3 r_4 rev_5) (fun r=>cB r) fun r=>[(0,.box [.h 1,.val (.int .i64 r_2),.h 2,.h 3]),(1,.sets r_1 none),(2,.map r_3),(3,.map r_4)]:=by
 refine jfn (fn:=Tryz.f100) Tryz.func100 (jy (F5.eq_1 ..) ?_)
 refine jm 3 (hr:=?_)
 refine js (fun b_7=>?_) fun b_7=>?_
 ·refine jb fun r_8 h_9=>?_
  refine jr [cp 9 (F4 _ h_9) [(0,0),(1,1),(2,2),(3,3)] 4] [(11,true)] [(decide (rev_5≥r_2))=true] (ap1 b_7) (hr:=?_)
  exact jt (rr [])
 ·refine jr [] [(11,false)] [(decide (rev_5≥r_2))=false] (ap1 b_7) (hr:=?_)
  exact jt (rr [])
theorem HP {K e_1 e_2 e_3 e_4 e_5 rev_6}:FS Tryz.prog 82 5 [.c (.h 0),cI rev_6] [(0,.box [.imm (.slice kAt) e_1,.h 1]),(1,.box [.h 2,.val (.int .i64 e_3),.h 3,.h 4]),(2,.sets e_2 none),(3,.map e_4),(4,.map e_5)] (DK K e_1 e_2 e_3 e_4 e_5 rev_6) (fun r=>cB r) fun r=>[(0,.box [.imm (.slice kAt) e_1,.h 1]),(1,.box [.h 2,.val (.int .i64 e_3),.h 3,.h 4]),(2,.sets e_2 none),(3,.map e_4),(4,.map e_5)]:=by
 refine jfn (fn:=Tryz.f82) Tryz.func82 (jy (DK.eq_1 ..) ?_)
 refine jm 3 (hr:=?_)
 refine jb fun r_8 h_9=>?_
 refine jr0 [cp 5 (NV _ h_9) [(0,1),(1,2),(2,3),(3,4)] 5] (hr:=?_)
 exact jt (rr [])
theorem TD {K l_1 i_2}:FS Tryz.prog 144 1 [.c (.elm 0 i_2)] [(0,.sets l_1 none)] (JV K l_1 i_2) (fun r=>.c (.clo 210 [1])) fun r=>[(0,.sets l_1 none),(1,.box [.elm 0 i_2])]:=by
 exact keysE_fs kyLays
theorem W2 {K l_1 i_2}:FS Tryz.prog 143 2 [.c (.clo 210 [0])] [(0,.box [.elm 1 i_2]),(1,.sets l_1 none)] (KK K l_1 i_2) (fun r=>.c (.h 2)) fun r=>[(0,.box [.elm 1 i_2]),(1,.sets l_1 none),(2,.row (.int .i64) r)]:=by
 exact sortedE_fs (k:=3) (by kernel_rfl) soLays
theorem UW {K s_1 six_2}:FS Tryz.prog 101 1 [.c (.elm 0 six_2)] [(0,.sets s_1 none)] (GN K s_1 six_2) (fun r=>.c (.h 1)) fun r=>[(0,.sets s_1 none),(1,.row (.int .i64) r)]:=by
 refine jfn (fn:=Tryz.f101) Tryz.func101 (jy (GN.eq_1 ..) ?_)
 refine ji 5 (hr:=fun c_3=>?_)
 refine jb fun r_4 h_5=>?_
 refine jb fun r_6 h_7=>?_
 refine jr0 [cp 2 (TD _ h_5) [(0,0),(1,2)] 3,cp 3 (W2 _ h_7) [(0,2),(1,0),(2,3)] 4] (hr:=?_)
 refine jm 2 (hr:=?_)
 exact jt (rr [])
theorem NW {K r_1 r_2 r_3 r_4 rev_5}:FS Tryz.prog 60 4 [.c (.h 0),cI rev_5] [(0,.box [.h 1,.val (.int .i64 r_2),.h 2,.h 3]),(1,.sets r_1 none),(2,.map r_3),(3,.map r_4)] (F6 K r_1 r_2 r_3 r_4 rev_5) (fun r=>.c (.h 4)) fun r=>[(0,.box [.h 1,.val (.int .i64 r_2),.h 2,.h 3]),(1,.sets r_1 none),(2,.map r_3),(3,.map r_4),(4,.row (.int .i64) r)]:=by
 refine jfn (fn:=Tryz.f60) Tryz.func60 (jy (F6.eq_1 ..) ?_)
 refine jm 4 (hr:=?_)
 refine jb fun r_7 h_8=>?_
 refine jr0 [cp 2 (NV _ h_8) [(0,0),(1,1),(2,2),(3,3)] 4] (hr:=?_)
 refine jc (h1:=fun b_10=>?_) (h2:=fun b_10=>?_)
 ·refine jm 2 (hr:=?_)
  refine jg [.nilSlot 4 (.int .i64)] ?_
  exact jt (rr [])
 ·refine jm 2 (hr:=?_)
  refine jb fun r_13 h_14=>?_
  refine jwi [cp 12 (UW _ h_14) [(0,1),(1,4)] 5] [] (hr:=fun c_15=>?_)
  exact jt (rr [])
theorem G9 {K e_1 e_2 e_3 e_4 e_5 rev_6}:FS Tryz.prog 55 5 [.c (.h 0),cI rev_6] [(0,.box [.imm (.slice kAt) e_1,.h 1]),(1,.box [.h 2,.val (.int .i64 e_3),.h 3,.h 4]),(2,.sets e_2 none),(3,.map e_4),(4,.map e_5)] (CO K e_1 e_2 e_3 e_4 e_5 rev_6) (fun r=>.c (.h 5)) fun r=>[(0,.box [.imm (.slice kAt) e_1,.h 1]),(1,.box [.h 2,.val (.int .i64 e_3),.h 3,.h 4]),(2,.sets e_2 none),(3,.map e_4),(4,.map e_5),(5,.row (.int .i64) r)]:=by
 refine jfn (fn:=Tryz.f55) Tryz.func55 (jy (CO.eq_1 ..) ?_)
 refine jm 3 (hr:=?_)
 refine jb fun r_8 h_9=>?_
 refine jr0 [cp 5 (NW _ h_9) [(0,1),(1,2),(2,3),(3,4),(4,5)] 6] (hr:=?_)
 exact jt (rr [])
theorem VX {K s_1 v_2}:FS Tryz.prog 201 1 [.c (.h 0),cI v_2] [(0,.row (.int .i64) s_1)] (B5 K s_1 v_2) (fun r=>cI r) fun r=>[(0,.row (.int .i64) s_1)]:=by
 refine jfn (fn:=Tryz.f201) Tryz.func201 (jy (B5.eq_1 ..) ?_)
 refine jm 6 (hr:=?_)
 refine jl (X:=Int) (fun k x=>B5.l0 K s_1 v_2 k x) K _ rfl 1 [] (fun x_5=>[(0,.c (.h 0)),(1,cI v_2),(7,cI (lnI s_1)),(8,cI x_5)]) (fun x_5=>[(0,.row (.int .i64) s_1)]) (fun _=>rfl) (round:=fun k x_5=>jy (B5.l0.eq_2 ..) ?_)
 refine jm 3 (hr:=?_)
 refine jc (h1:=fun b_7=>?_) (h2:=fun b_7=>?_)
 ·refine ji 7 (hr:=fun c_8=>?_)
  refine jc (h1:=fun b_9=>?_) (h2:=fun b_9=>?_)
  ·refine jm 2 (hr:=?_)
   exact jt (rl (rr []))
  ·refine jm 3 (hr:=?_)
   exact jx _ rfl []
 ·refine jq 0 (ql (qh ?_))
  refine jm 2 (hr:=?_)
  exact jt (rr [])
theorem KG {K s_1 v_2}:FS Tryz.prog 131 1 [.c (.h 0),cI v_2] [(0,.row (.int .i64) s_1)] (C6 K s_1 v_2) (fun r=>cB r) fun r=>[(0,.row (.int .i64) s_1)]:=by
 refine jfn (fn:=Tryz.f131) Tryz.func131 (jy (C6.eq_1 ..) ?_)
 refine jm 3 (hr:=?_)
 refine jb fun r_4 h_5=>?_
 refine jr0 [cp 2 (VX _ h_5) [(0,0)] 1] (hr:=?_)
 exact jt (rr [])
theorem LP {K group_1 undone_2}:FS Tryz.prog 203 1 [cI group_1,.c (.h 0)] [(0,.row (.int .i64) undone_2)] (EK K group_1 undone_2) (fun r=>cB r) fun r=>[(0,.row (.int .i64) undone_2)]:=by
 refine jfn (fn:=Tryz.f203) Tryz.func203 (jy (EK.eq_1 ..) ?_)
 refine jm 3 (hr:=?_)
 refine js (fun b_4=>?_) fun b_4=>?_
 ·refine jr [] [(7,true)] [(group_1==(-1:Int))=true] (ap1 b_4) (hr:=?_)
  exact jt (rr [])
 ·refine jb fun r_6 h_7=>?_
  refine jr [cp 5 (KG _ h_7) [(0,0)] 1] [(7,false)] [(group_1==(-1:Int))=false] (ap1 b_4) (hr:=?_)
  exact jt (rr [])
theorem PY {K c_1 c_2 p_3 p_4}:FS Tryz.prog 204 3 [.agg [.val (.int .i64 c_1),.val (.int .i64 c_2)],.c (.h 0),.c (.h 1)] [(0,.box [.val (.int .i64 p_3)]),(1,.box [.h 2]),(2,.row (.int .i64) p_4)] (FP K c_1 c_2 p_3 p_4) (fun r=>cB r) fun r=>[(0,.box [.val (.int .i64 p_3)]),(1,.box [.h 2]),(2,.row (.int .i64) p_4)]:=by
 refine jfn (fn:=Tryz.f204) Tryz.func204 (jy (FP.eq_1 ..) ?_)
 refine jm 3 (hr:=?_)
 refine js (fun b_6=>?_) fun b_6=>?_
 ·refine jb fun r_7 h_8=>?_
  refine jr [cp 8 (LP _ h_8) [(0,2)] 4] [(9,true)] [(decide (c_1≤p_3))=true] (ap1 b_6) (hr:=?_)
  exact jt (rr [])
 ·refine jr [] [(9,false)] [(decide (c_1≤p_3))=false] (ap1 b_6) (hr:=?_)
  exact jt (rr [])
theorem VP {K s_1 f_2 f_3}:FS Tryz.prog 202 3 [.c (.imm (.slice kP) s_1),.c (.clo 204 [0,1])] [(0,.box [.val (.int .i64 f_2)]),(1,.box [.h 2]),(2,.row (.int .i64) f_3)] (C7 K s_1 f_2 f_3) (fun r=>cI r) fun r=>[(0,.box [.val (.int .i64 f_2)]),(1,.box [.h 2]),(2,.row (.int .i64) f_3)]:=by
 refine jfn (fn:=Tryz.f202) Tryz.func202 (jy (C7.eq_1 ..) ?_)
 refine jm 6 (hr:=?_)
 refine jl (X:=Int) (fun k x=>C7.l0 K s_1 f_2 f_3 k x) K _ rfl 3 [] (fun x_6=>[(0,.c (.imm (.slice kP) s_1)),(1,.c (.clo 204 [0,1])),(7,cI (lnI s_1)),(8,cI x_6)]) (fun x_6=>[(0,.box [.val (.int .i64 f_2)]),(1,.box [.h 2]),(2,.row (.int .i64) f_3)]) (fun _=>rfl) (round:=fun k x_6=>jy (C7.l0.eq_2 ..) ?_)
 refine jm 3 (hr:=?_)
 refine jc (h1:=fun b_8=>?_) (h2:=fun b_8=>?_)
 ·refine jm 6 (hr:=?_)
  refine jb fun r_10 h_11=>?_
  refine jri [cp 5 (PY _ h_11) [(0,0),(1,1),(2,2)] 3] [] (hr:=fun c_12=>?_)
  refine jc (h1:=fun b_13=>?_) (h2:=fun b_13=>?_)
  ·refine jm 2 (hr:=?_)
   exact jt (rl (rr []))
  ·refine jm 3 (hr:=?_)
   exact jx _ rfl []
 ·refine jq 0 (ql (qh ?_))
  refine jm 2 (hr:=?_)
  exact jt (rr [])
theorem VF {K s_1 f_2 f_3}:FS Tryz.prog 133 3 [.c (.imm (.slice kP) s_1),.c (.clo 204 [0,1])] [(0,.box [.val (.int .i64 f_2)]),(1,.box [.h 2]),(2,.row (.int .i64) f_3)] (IB K s_1 f_2 f_3) (fun r=>cB r) fun r=>[(0,.box [.val (.int .i64 f_2)]),(1,.box [.h 2]),(2,.row (.int .i64) f_3)]:=by
 refine jfn (fn:=Tryz.f133) Tryz.func133 (jy (IB.eq_1 ..) ?_)
 refine jm 3 (hr:=?_)
 refine jb fun r_5 h_6=>?_
 refine jr0 [cp 2 (VP _ h_6) [(0,0),(1,1),(2,2)] 3] (hr:=?_)
 exact jt (rr [])
theorem E2 {K a_1 a_2 a_3 a_4 a_5 rev_6 undone_7}:FS Tryz.prog 137 1 [.agg [.val (.string a_1),.val (.int .i64 a_2),.val (.int .i64 a_3),.val (.int .i64 a_4),.imm (.slice kP) a_5],cI rev_6,.c (.h 0)] [(0,.row (.int .i64) undone_7)] (CL K a_1 a_2 a_3 a_4 a_5 rev_6 undone_7) (fun r=>cB r) fun r=>[(0,.row (.int .i64) undone_7)]:=by
 refine jfn (fn:=Tryz.f137) Tryz.func137 (jy (CL.eq_1 ..) ?_)
 refine jm 4 (hr:=?_)
 refine ja (Y:=Bool) 4 (fun y_23=>[(3,.c (.h 1)),(4,.c (.h 2)),(5,.c (.h 3)),(17,cB y_23)]) (fun y_23=>[(0,.row (.int .i64) undone_7),(1,.box [.val (.string a_1),.val (.int .i64 a_2),.val (.int .i64 a_3),.val (.int .i64 a_4),.imm (.slice kP) a_5]),(2,.box [.val (.int .i64 rev_6)]),(3,.box [.h 0])]) (h1:=?_) (h2:=fun y_23=>?_)
 ·refine js (fun b_9=>?_) fun b_9=>?_
  ·refine jr [] [(11,true)] [(decide (a_2 > rev_6))=true] (ap1 b_9) (hr:=?_)
   exact jo []
  ·refine jb fun r_11 h_12=>?_
   refine jr [cp 8 (LP _ h_12) [(0,0)] 4] [(11,false)] [(decide (a_2 > rev_6))=false] (ap1 b_9) (hr:=?_)
   exact jo []
 ·refine jc (h1:=fun b_15=>?_) (h2:=fun b_15=>?_)
  ·refine jm 2 (hr:=?_)
   exact jt (rr [])
  ·refine jm 2 (hr:=?_)
   refine jb fun r_18 h_19=>?_
   refine jr0 [cp 3 (VF _ h_19) [(0,2),(1,3),(2,0)] 4] (hr:=?_)
   exact jt (rr [])
theorem OP {K b_1}:FS Tryz.prog 175 2 [.c (.h 0)] [(0,.box [.slf 0 167,.h 1]),(1,.brow 5 b_1)] (GR K b_1) (fun r=>.tup []) fun r=>[(0,.box [.slf 0 167,.h 1]),(1,.brow 5 b_1)]:=by
 exact copyCheck_fs ccUsed ccFresh
theorem OO {K b_1 s_2}:FS Tryz.prog 113 2 [.c (.h 0),cS s_2] [(0,.box [.slf 0 167,.h 1]),(1,.brow 5 b_1)] (FI K b_1 s_2) (fun r=>.tup [(false,[.val (.int .i64 r.1)]),(false,[.val .nilIface])]) fun r=>[(0,.box [.slf 0 167,.h 2]),(2,.brow 5 r.2)]:=by
 refine jfn (fn:=Tryz.f113) Tryz.func113 (jy (FI.eq_1 ..) ?_)
 refine jm 3 (hr:=?_)
 refine jb fun r_4 h_5=>?_
 refine jr0 [cp 1 (OP _ h_5) [(0,0),(1,1)] 2] (hr:=?_)
 refine ji 4 (hr:=fun c_7=>?_)
 exact jt (rr [])
theorem KT {K b_1}:FS Tryz.prog 114 2 [.c (.h 0)] [(0,.box [.slf 0 167,.h 1]),(1,.brow 5 b_1)] (FH K b_1) (fun r=>.c (.val (.string r))) fun r=>[]:=by
 exact bString_fs (pt:=240) (by kernel_rfl) (by kernel_rfl) bStrT
theorem E1 {K l_1 rev_2 undone_3}:FS Tryz.prog 83 1 [.c (.imm (.slice kAt) l_1),cI rev_2,.c (.h 0)] [(0,.row (.int .i64) undone_3)] (AZ K l_1 rev_2 undone_3) (fun r=>cS r) fun r=>[(0,.row (.int .i64) undone_3)]:=by
 refine jfn (fn:=Tryz.f83) Tryz.func83 (jy (AZ.eq_1 ..) ?_)
 refine jm 4 (hr:=?_)
 refine jg0 (.nilB 1 1 5) (hr:=?_)
 refine jm 3 (hr:=?_)
 refine ja (Y:=(List Int)) 6 (fun y_42=>[(7,.c (.h 1))]) (fun y_42=>[(0,.row (.int .i64) undone_3),(1,.box [.slf 1 167,.h 5]),(5,.brow 5 y_42)]) (h1:=?_) (h2:=fun y_42=>?_)
 ·refine jm 1 (hr:=?_)
  refine jl (X:=((List Int)×Int)) (fun k x=>AZ.l0 K l_1 rev_2 undone_3 k x.1 x.2) K (([]:List Int),(0:Int)) rfl 6 [(5,2)] (fun x_22=>[(1,cI rev_2),(2,.c (.h 0)),(7,.c (.h 1)),(10,.c (.imm (.slice kAt) l_1)),(11,cI (lnI l_1)),(12,cI x_22.2)]) (fun x_22=>[(0,.row (.int .i64) undone_3),(1,.box [.slf 1 167,.h 5]),(5,.brow 5 x_22.1)]) (fun _=>rfl) (round:=fun k x_22=>jy (AZ.l0.eq_2 ..) ?_)
  refine jm 3 (hr:=?_)
  refine jc (h1:=fun b_24=>?_) (h2:=fun b_24=>?_)
  ·refine ji 6 (hr:=fun c_25=>?_)
   refine jb fun r_26 h_27=>?_
   refine jr0 [cp 3 (E2 _ h_27) [(0,0)] 7] (hr:=?_)
   refine jc (h1:=fun b_29=>?_) (h2:=fun b_29=>?_)
   ·refine jb fun r_30 h_31=>?_
    refine jr0 [cp 2 (OO _ h_31) [(0,1),(1,5),(2,7)] 8] (hr:=?_)
    refine jm 2 (hr:=?_)
    exact jx (r_30.2,(w6 (x_22.2+(1:Int)))) rfl [(5,7)]
   ·refine jm 3 (hr:=?_)
    exact jx (x_22.1,(w6 (x_22.2+(1:Int)))) rfl []
  ·refine jq 0 (ql (qh ?_))
   exact jo []
 ·refine jm 1 (hr:=?_)
  refine jb fun r_37 h_38=>?_
  refine jr0 [cp 0 (KT _ h_38) [(0,1),(1,5)] 6] (hr:=?_)
  exact jt (rr [])
theorem EP {K e_1 e_2 e_3 e_4 e_5 rev_6}:FS Tryz.prog 51 5 [.c (.h 0),cI rev_6] [(0,.box [.imm (.slice kAt) e_1,.h 1]),(1,.box [.h 2,.val (.int .i64 e_3),.h 3,.h 4]),(2,.sets e_2 none),(3,.map e_4),(4,.map e_5)] (CN K e_1 e_2 e_3 e_4 e_5 rev_6) (fun r=>.tup [(false,[.val (.string r.1)]),(false,[.val (.int .i64 r.2)])]) fun r=>[(0,.box [.imm (.slice kAt) e_1,.h 1]),(1,.box [.h 2,.val (.int .i64 e_3),.h 3,.h 4]),(2,.sets e_2 none),(3,.map e_4),(4,.map e_5)]:=by
 refine jfn (fn:=Tryz.f51) Tryz.func51 (jy (CN.eq_1 ..) ?_)
 refine jm 4 (hr:=?_)
 refine jb fun r_8 h_9=>?_
 refine jr0 [cp 2 (HP _ h_9) [(0,0),(1,1),(2,2),(3,3),(4,4)] 5] (hr:=?_)
 refine jc (h1:=fun b_11=>?_) (h2:=fun b_11=>?_)
 ·refine jm 2 (hr:=?_)
  exact jt (rr [])
 ·refine jm 2 (hr:=?_)
  refine jb fun r_14 h_15=>?_
  refine jb fun r_16 h_17=>?_
  refine jw0 [cp 7 (G9 _ h_15) [(0,0),(1,1),(2,2),(3,3),(4,4),(5,5)] 6,cp 8 (E1 _ h_17) [(0,5)] 6] (hr:=?_)
  exact jt (rr [])
theorem XD {K}:FS Tryz.prog 242 0 [] [] (IL K) (fun r=>.agg [.val (.int .u8 r.1),.val (.int .u8 r.2.1),.val (.int .i32 r.2.2.1),.val (.int .u8 r.2.2.2.1),.val (.int .u8 r.2.2.2.2.1),.val (.int .i32 r.2.2.2.2.2.1),.val (.int .u8 r.2.2.2.2.2.2.1),.val (.int .u8 r.2.2.2.2.2.2.2.1),.val (.int .i32 r.2.2.2.2.2.2.2.2.1),.val (.int .u8 r.2.2.2.2.2.2.2.2.2.1),.val (.int .u8 r.2.2.2.2.2.2.2.2.2.2.1),.val (.int .i32 r.2.2.2.2.2.2.2.2.2.2.2)]) fun r=>[]:=by
 refine jfn (fn:=Tryz.f242) Tryz.func242 (jy (IL.eq_1 ..) ?_)
 refine jm 4 (hr:=?_)
 exact jt (rr [])
theorem PD {K r_1}:FS Tryz.prog 244 0 [.c (.val (.int .i32 r_1))] [] (EF K r_1) (fun r=>cB r) fun r=>[]:=by
 refine jfn (fn:=Tryz.f244) Tryz.func244 (jy (EF.eq_1 ..) ?_)
 refine jm 3 (hr:=?_)
 refine js (fun b_3=>?_) fun b_3=>?_
 ·refine js (fun b_4=>?_) fun b_4=>?_
  ·refine js (fun b_5=>?_) fun b_5=>?_
   ·refine jr [] [(5,true),(9,true),(12,true)] [(decide (r_1≥(0:Int)))=true,(decide (r_1≤(1114111:Int)))=true,(decide (r_1<(55296:Int)))=true] (ap2 b_3 (ap2 b_4 (ap1 b_5))) (hr:=?_)
    exact jt (rr [])
   ·refine jr [] [(5,true),(9,true),(12,false)] [(decide (r_1≥(0:Int)))=true,(decide (r_1≤(1114111:Int)))=true,(decide (r_1<(55296:Int)))=false] (ap2 b_3 (ap2 b_4 (ap1 b_5))) (hr:=?_)
    exact jt (rr [])
  ·refine jr [] [(5,true),(9,false)] [(decide (r_1≥(0:Int)))=true,(decide (r_1≤(1114111:Int)))=false] (ap2 b_3 (ap1 b_4)) (hr:=?_)
   exact jt (rr [])
 ·refine jr [] [(5,false)] [(decide (r_1≥(0:Int)))=false] (ap1 b_3) (hr:=?_)
  exact jt (rr [])
theorem XE {K s_1 at_2 n_3 f_4 f_5 f_6}:FS Tryz.prog 243 0 [cS s_1,cI at_2,cI n_3,.agg [.val (.int .u8 f_4),.val (.int .u8 f_5),.val (.int .i32 f_6)]] [] (AI K s_1 at_2 n_3 f_4 f_5 f_6) (fun r=>.tup [(false,[.val (.int .i32 r.1)]),(false,[.val (.int .i64 r.2)])]) fun r=>[]:=by
 refine jfn (fn:=Tryz.f243) Tryz.func243 (jy (AI.eq_1 ..) ?_)
 refine jm 5 (hr:=?_)
 refine jc (h1:=fun b_8=>?_) (h2:=fun b_8=>?_)
 ·refine jm 2 (hr:=?_)
  exact jt (rr [])
 ·refine jm 2 (hr:=?_)
  refine jwi [] [] (hr:=fun c_11=>?_)
  refine jm 3 (hr:=?_)
  refine ja2 (Y:=Int) 1 (fun y_39=>[(2,cI n_3),(7,.c (.h 0)),(10,.c (.val (.int .i32 y_39)))]) (fun y_39=>[(0,.box [.val (.int .u8 f_4),.val (.int .u8 f_5),.val (.int .i32 f_6)])]) (h1:=?_) (h2:=fun y_39=>?_)
  ·refine jm 1 (hr:=?_)
   refine jl (X:=(Int×Int)) (fun k x=>AI.l0 K n_3 at_2 s_1 k x.1 x.2) K ((IntKind.wrap .i32 (IntKind.wrap .u8 (BitVec.toNat (BitVec.ofInt (IntKind.bits .u8) (bt s_1 at_2)&&& ~~~BitVec.ofInt (IntKind.bits .u8) f_4)))),(1:Int)) rfl 1 [] (fun x_16=>[(0,cS s_1),(1,cI at_2),(2,cI n_3),(7,.c (.h 0)),(10,.c (.val (.int .i32 x_16.1))),(11,cI x_16.2)]) (fun x_16=>[(0,.box [.val (.int .u8 f_4),.val (.int .u8 f_5),.val (.int .i32 f_6)])]) (fun _=>rfl) (round:=fun k x_16=>jy (AI.l0.eq_2 ..) ?_)
   refine jm 3 (hr:=?_)
   refine jc (h1:=fun b_18=>?_) (h2:=fun b_18=>?_)
   ·refine ji 8 (hr:=fun c_19=>?_)
    refine jc (h1:=fun b_20=>?_) (h2:=fun b_20=>?_)
    ·refine jm 2 (hr:=?_)
     exact jt (rl (rc (rr [])))
    ·refine jn 4 [(0:Int)≤(6:Int)] (ap1 (by decide)) (hr:=?_)
     exact jx ((IntKind.wrap .i32 (BitVec.toNat (BitVec.ofInt (IntKind.bits .i32) (IntKind.wrap .i32 (x_16.1 * (64:Int)))||| BitVec.ofInt (IntKind.bits .i32) (IntKind.wrap .i32 (IntKind.wrap .u8 (BitVec.toNat (BitVec.ofInt (IntKind.bits .u8) (bt s_1 (w6 (at_2+x_16.2)))&&& ~~~BitVec.ofInt (IntKind.bits .u8) (192:Int)))))))),(w6 (x_16.2+(1:Int)))) rfl []
   ·refine jq 0 (ql (qh ?_))
    exact jo []
  ·refine jm 2 (hr:=?_)
   refine ja (Y:=Bool) 1 (fun y_40=>[(2,cI n_3),(10,.c (.val (.int .i32 y_39))),(53,cB y_40)]) (fun y_40=>[]) (h1:=?_) (h2:=fun y_40=>?_)
   ·refine js (fun b_25=>?_) fun b_25=>?_
    ·refine jr [] [(49,true)] [(decide (y_39<f_6))=true] (ap1 b_25) (hr:=?_)
     exact jo []
    ·refine jb fun r_27 h_28=>?_
     refine jr [cp 6 (PD _ h_28) [] 1] [(49,false)] [(decide (y_39<f_6))=false] (ap1 b_25) (hr:=?_)
     exact jo []
   ·refine jc (h1:=fun b_31=>?_) (h2:=fun b_31=>?_)
    ·refine jm 2 (hr:=?_)
     exact jt (rr [])
    ·refine jm 3 (hr:=?_)
     exact jt (rr [])
theorem PE {K s_1 at_2}:FS Tryz.prog 205 0 [cS s_1,cI at_2] [] (CD K s_1 at_2) (fun r=>.tup [(false,[.val (.int .i32 r.1)]),(false,[.val (.int .i64 r.2)])]) fun r=>[]:=by
 refine jfn (fn:=Tryz.f205) Tryz.func205 (jy (CD.eq_1 ..) ?_)
 refine jm 4 (hr:=?_)
 refine ja (Y:=Bool) 0 (fun y_31=>[(0,cS s_1),(1,cI at_2),(15,cB y_31)]) (fun y_31=>[]) (h1:=?_) (h2:=fun y_31=>?_)
 ·refine js (fun b_4=>?_) fun b_4=>?_
  ·refine jr [] [(10,true)] [(decide (at_2<(0:Int)))=true] (ap1 b_4) (hr:=?_)
   exact jo []
  ·refine jr [] [(10,false)] [(decide (at_2<(0:Int)))=false] (ap1 b_4) (hr:=?_)
   exact jo []
 ·refine jc (h1:=fun b_8=>?_) (h2:=fun b_8=>?_)
  ·refine jm 2 (hr:=?_)
   exact jt (rr [])
  ·refine jm 3 (hr:=?_)
   refine jb fun r_11 h_12=>?_
   refine jr0 [cp 0 (XD _ h_12) [] 0] (hr:=?_)
   refine jm 1 (hr:=?_)
   refine jl (X:=Int) (fun k x=>CD.l0 K at_2 s_1 r_11 k x) K _ rfl 0 [] (fun x_16=>[(0,cS s_1),(1,cI at_2),(16,.agg [.val (.int .u8 r_11.1),.val (.int .u8 r_11.2.1),.val (.int .i32 r_11.2.2.1),.val (.int .u8 r_11.2.2.2.1),.val (.int .u8 r_11.2.2.2.2.1),.val (.int .i32 r_11.2.2.2.2.2.1),.val (.int .u8 r_11.2.2.2.2.2.2.1),.val (.int .u8 r_11.2.2.2.2.2.2.2.1),.val (.int .i32 r_11.2.2.2.2.2.2.2.2.1),.val (.int .u8 r_11.2.2.2.2.2.2.2.2.2.1),.val (.int .u8 r_11.2.2.2.2.2.2.2.2.2.2.1),.val (.int .i32 r_11.2.2.2.2.2.2.2.2.2.2.2)]),(17,cI x_16)]) (fun x_16=>[]) (fun _=>rfl) (round:=fun k x_16=>jy (CD.l0.eq_2 ..) ?_)
   refine jm 3 (hr:=?_)
   refine jc (h1:=fun b_18=>?_) (h2:=fun b_18=>?_)
   ·refine ji 6 (hr:=fun c_19=>?_)
    refine jwi [] [] (hr:=fun c_20=>?_)
    refine jc (h1:=fun b_21=>?_) (h2:=fun b_21=>?_)
    ·refine jm 1 (hr:=?_)
     refine jb fun r_23 h_24=>?_
     refine jr0 [cp 5 (XE _ h_24) [] 1] (hr:=?_)
     exact jt (rl (rr []))
    ·refine jm 3 (hr:=?_)
     exact jx _ rfl []
   ·refine jq 0 (ql (qh ?_))
    refine jm 2 (hr:=?_)
    exact jt (rr [])
theorem XC {K s_1 at_2}:FS Tryz.prog 138 0 [cS s_1,cI at_2] [] (GU K s_1 at_2) (fun r=>cI r) fun r=>[]:=by
 refine jfn (fn:=Tryz.f138) Tryz.func138 (jy (GU.eq_1 ..) ?_)
 refine jm 3 (hr:=?_)
 refine jb fun r_4 h_5=>?_
 refine jr0 [cp 2 (PE _ h_5) [] 0] (hr:=?_)
 refine jm 2 (hr:=?_)
 exact jt (rr [])
theorem DY {K s_1}:FS Tryz.prog 84 0 [cS s_1] [] (AR K s_1) (fun r=>cB r) fun r=>[]:=by
 refine jfn (fn:=Tryz.f84) Tryz.func84 (jy (AR.eq_1 ..) ?_)
 refine jm 6 (hr:=?_)
 refine jl (X:=Int) (fun k x=>AR.l0 K s_1 k x) K _ rfl 0 [] (fun x_4=>[(0,cS s_1),(3,cI x_4)]) (fun x_4=>[]) (fun _=>rfl) (round:=fun k x_4=>jy (AR.l0.eq_2 ..) ?_)
 refine jm 3 (hr:=?_)
 refine jc (h1:=fun b_6=>?_) (h2:=fun b_6=>?_)
 ·refine jm 3 (hr:=?_)
  refine jb fun r_8 h_9=>?_
  refine jr0 [cp 2 (XC _ h_9) [] 0] (hr:=?_)
  refine jm 3 (hr:=?_)
  refine jc (h1:=fun b_12=>?_) (h2:=fun b_12=>?_)
  ·refine jm 2 (hr:=?_)
   exact jt (rl (rr []))
  ·refine jm 3 (hr:=?_)
   exact jx _ rfl []
 ·refine jq 0 (ql (qh ?_))
  refine jm 2 (hr:=?_)
  exact jt (rr [])
theorem XB {K s_1}:FS Tryz.prog 207 0 [cS s_1] [] (DF K s_1) (fun r=>.c (.h 0)) fun r=>[(0,.row (.int .i64) r)]:=by
 refine jfn (fn:=Tryz.f207) Tryz.func207 (jy (DF.eq_1 ..) ?_)
 refine jm 8 (hr:=?_)
 refine jg [.nilSlot 3 (.int .i64)] ?_
 refine jl (X:=((List Int)×Int)) (fun k x=>DF.l0 K s_1 k x.1 x.2) K (([]:List Int),(0:Int)) rfl 4 [(3,0)] (fun x_19=>[(0,cS s_1),(3,.c (.h 3)),(4,cI x_19.2)]) (fun x_19=>[(3,.row (.int .i64) x_19.1)]) (fun _=>rfl) (round:=fun k x_19=>jy (DF.l0.eq_2 ..) ?_)
 refine jm 3 (hr:=?_)
 refine jc (h1:=fun b_21=>?_) (h2:=fun b_21=>?_)
 ·refine jm 3 (hr:=?_)
  refine jb fun r_23 h_24=>?_
  refine jr0 [cp 2 (PE _ h_24) [] 4] (hr:=?_)
  refine jm 3 (hr:=?_)
  refine jc (h1:=fun b_27=>?_) (h2:=fun b_27=>?_)
  ·refine ji 4 (hr:=fun c_28=>?_)
   refine jm 1 (hr:=?_)
   exact jx ((x_19.1++([(65533:Int)]:List Int)),(w6 (x_19.2+(1:Int)))) rfl [(3,5)]
  ·refine ji 4 (hr:=fun c_30=>?_)
   refine jm 1 (hr:=?_)
   exact jx ((x_19.1++([(w6 r_23.1)]:List Int)),(w6 (x_19.2+r_23.2))) rfl [(3,5)]
 ·refine jq 0 (ql (qh ?_))
  refine jm 2 (hr:=?_)
  exact jt (rr [(0,3)])
theorem X8 {K p_1 r_2}:FS Tryz.prog 277 1 [.c (.h 0),.c (.val (.int .i32 r_2))] [(0,.brow 5 p_1)] (KZ K p_1 r_2) (fun r=>.c (.h 1)) fun r=>[(1,.brow 5 r)]:=by
 refine jfn (fn:=Tryz.f277) Tryz.func277 (jy (KZ.eq_1 ..) ?_)
 refine jm 7 (hr:=?_)
 refine jc (h1:=fun b_4=>?_) (h2:=fun b_4=>?_)
 ·refine jp fun c_5=>?_
  refine jn 2 [(0:Int)≤(6:Int),(List.length p_1+List.length ([(IntKind.wrap .u8 (BitVec.toNat (BitVec.ofInt (IntKind.bits .u8) (192:Int)||| BitVec.ofInt (IntKind.bits .u8) (IntKind.wrap .u8 (Int.fdiv r_2 (64:Int)))))),(IntKind.wrap .u8 (BitVec.toNat (BitVec.ofInt (IntKind.bits .u8) (128:Int)||| BitVec.ofInt (IntKind.bits .u8) (IntKind.wrap .u8 (BitVec.toNat (BitVec.ofInt (IntKind.bits .u8) (IntKind.wrap .u8 r_2)&&& BitVec.ofInt (IntKind.bits .u8) (63:Int)))))))]:List Int)) * 1≤140737488355328] (ap2 (by decide) (ap1 c_5)) (hr:=?_)
  exact jt (rr [(1,2)])
 ·refine jm 3 (hr:=?_)
  refine ja (Y:=Bool) 1 (fun y_26=>[(0,.c (.h 0)),(1,.c (.val (.int .i32 r_2))),(5,.c (.val (.int .u32 (IntKind.wrap .u32 r_2)))),(25,cB y_26)]) (fun y_26=>[(0,.brow 5 p_1)]) (h1:=?_) (h2:=fun y_26=>?_)
  ·refine jc (h1:=fun b_7=>?_) (h2:=fun b_7=>?_)
   ·refine jm 1 (hr:=?_)
    exact jo []
   ·refine js (fun b_9=>?_) fun b_9=>?_
    ·refine jr [] [(30,true)] [(decide ((57343:Int)<(IntKind.wrap .u32 r_2)))=true] (ap1 b_9) (hr:=?_)
     exact jo []
    ·refine jr [] [(30,false)] [(decide ((57343:Int)<(IntKind.wrap .u32 r_2)))=false] (ap1 b_9) (hr:=?_)
     exact jo []
  ·refine jc (h1:=fun b_13=>?_) (h2:=fun b_13=>?_)
   ·refine jp fun c_14=>?_
    refine jn 2 [(0:Int)≤(12:Int),(0:Int)≤(6:Int),(List.length p_1+List.length ([(IntKind.wrap .u8 (BitVec.toNat (BitVec.ofInt (IntKind.bits .u8) (224:Int)||| BitVec.ofInt (IntKind.bits .u8) (IntKind.wrap .u8 (Int.fdiv r_2 (4096:Int)))))),(IntKind.wrap .u8 (BitVec.toNat (BitVec.ofInt (IntKind.bits .u8) (128:Int)||| BitVec.ofInt (IntKind.bits .u8) (IntKind.wrap .u8 (BitVec.toNat (BitVec.ofInt (IntKind.bits .u8) (IntKind.wrap .u8 (Int.fdiv r_2 (64:Int)))&&& BitVec.ofInt (IntKind.bits .u8) (63:Int))))))),(IntKind.wrap .u8 (BitVec.toNat (BitVec.ofInt (IntKind.bits .u8) (128:Int)||| BitVec.ofInt (IntKind.bits .u8) (IntKind.wrap .u8 (BitVec.toNat (BitVec.ofInt (IntKind.bits .u8) (IntKind.wrap .u8 r_2)&&& BitVec.ofInt (IntKind.bits .u8) (63:Int)))))))]:List Int)) * 1≤140737488355328] (ap2 (by decide) (ap2 (by decide) (ap1 c_14))) (hr:=?_)
    exact jt (rr [(1,2)])
   ·refine jm 1 (hr:=?_)
    refine ja (Y:=Bool) 1 (fun y_27=>[(0,.c (.h 0)),(1,.c (.val (.int .i32 r_2))),(50,cB y_27)]) (fun y_27=>[(0,.brow 5 p_1)]) (h1:=?_) (h2:=fun y_27=>?_)
    ·refine js (fun b_16=>?_) fun b_16=>?_
     ·refine jr [] [(53,true)] [(decide ((IntKind.wrap .u32 r_2) > (65535:Int)))=true] (ap1 b_16) (hr:=?_)
      exact jo []
     ·refine jr [] [(53,false)] [(decide ((IntKind.wrap .u32 r_2) > (65535:Int)))=false] (ap1 b_16) (hr:=?_)
      exact jo []
    ·refine jc (h1:=fun b_20=>?_) (h2:=fun b_20=>?_)
     ·refine jp fun c_21=>?_
      refine jn 2 [(0:Int)≤(18:Int),(0:Int)≤(12:Int),(0:Int)≤(6:Int),(List.length p_1+List.length ([(IntKind.wrap .u8 (BitVec.toNat (BitVec.ofInt (IntKind.bits .u8) (240:Int)||| BitVec.ofInt (IntKind.bits .u8) (IntKind.wrap .u8 (Int.fdiv r_2 (262144:Int)))))),(IntKind.wrap .u8 (BitVec.toNat (BitVec.ofInt (IntKind.bits .u8) (128:Int)||| BitVec.ofInt (IntKind.bits .u8) (IntKind.wrap .u8 (BitVec.toNat (BitVec.ofInt (IntKind.bits .u8) (IntKind.wrap .u8 (Int.fdiv r_2 (4096:Int)))&&& BitVec.ofInt (IntKind.bits .u8) (63:Int))))))),(IntKind.wrap .u8 (BitVec.toNat (BitVec.ofInt (IntKind.bits .u8) (128:Int)||| BitVec.ofInt (IntKind.bits .u8) (IntKind.wrap .u8 (BitVec.toNat (BitVec.ofInt (IntKind.bits .u8) (IntKind.wrap .u8 (Int.fdiv r_2 (64:Int)))&&& BitVec.ofInt (IntKind.bits .u8) (63:Int))))))),(IntKind.wrap .u8 (BitVec.toNat (BitVec.ofInt (IntKind.bits .u8) (128:Int)||| BitVec.ofInt (IntKind.bits .u8) (IntKind.wrap .u8 (BitVec.toNat (BitVec.ofInt (IntKind.bits .u8) (IntKind.wrap .u8 r_2)&&& BitVec.ofInt (IntKind.bits .u8) (63:Int)))))))]:List Int)) * 1≤140737488355328] (ap2 (by decide) (ap2 (by decide) (ap2 (by decide) (ap1 c_21)))) (hr:=?_)
      exact jt (rr [(1,2)])
     ·refine ji 2 (hr:=fun c_22=>?_)
      exact jt (rr [(1,2)])
theorem X7 {K p_1 r_2}:FS Tryz.prog 261 1 [.c (.h 0),.c (.val (.int .i32 r_2))] [(0,.brow 5 p_1)] (KY K p_1 r_2) (fun r=>.c (.h 1)) fun r=>[(1,.brow 5 r)]:=by
 refine jfn (fn:=Tryz.f261) Tryz.func261 (jy (KY.eq_1 ..) ?_)
 refine jm 5 (hr:=?_)
 refine jc (h1:=fun b_4=>?_) (h2:=fun b_4=>?_)
 ·refine ji 2 (hr:=fun c_5=>?_)
  exact jt (rr [(1,2)])
 ·refine jm 2 (hr:=?_)
  refine jb fun r_7 h_8=>?_
  refine jr0 [cp 2 (X8 _ h_8) [(0,0),(1,1)] 2] (hr:=?_)
  exact jt (rr [])
theorem WF {K b_1 r_2}:FS Tryz.prog 245 2 [.c (.h 0),.c (.val (.int .i32 r_2))] [(0,.box [.slf 0 167,.h 1]),(1,.brow 5 b_1)] (KU K b_1 r_2) (fun r=>.tup [(false,[.val (.int .i64 r.1)]),(false,[.val .nilIface])]) fun r=>[(0,.box [.slf 0 167,.h 2]),(2,.brow 5 r.2)]:=by
 refine jfn (fn:=Tryz.f245) Tryz.func245 (jy (KU.eq_1 ..) ?_)
 refine jm 3 (hr:=?_)
 refine jb fun r_4 h_5=>?_
 refine jr0 [cp 1 (OP _ h_5) [(0,0),(1,1)] 2] (hr:=?_)
 refine jm 3 (hr:=?_)
 refine jb fun r_8 h_9=>?_
 refine jr0 [cp 6 (X7 _ h_9) [(0,1),(1,2)] 3] (hr:=?_)
 refine jm 2 (hr:=?_)
 exact jt (rr [])
theorem XA {K points_1}:FS Tryz.prog 206 1 [.c (.h 0)] [(0,.row (.int .i64) points_1)] (DX K points_1) (fun r=>cS r) fun r=>[(0,.row (.int .i64) points_1)]:=by
 refine jfn (fn:=Tryz.f206) Tryz.func206 (jy (DX.eq_1 ..) ?_)
 refine jm 4 (hr:=?_)
 refine jg0 (.nilB 1 1 5) (hr:=?_)
 refine jm 3 (hr:=?_)
 refine ja (Y:=(List Int)) 5 (fun y_58=>[(3,.c (.h 1))]) (fun y_58=>[(0,.row (.int .i64) points_1),(1,.box [.slf 1 167,.h 4]),(4,.brow 5 y_58)]) (h1:=?_) (h2:=fun y_58=>?_)
 ·refine jm 1 (hr:=?_)
  refine jl (X:=((List Int)×Int)) (fun k x=>DX.l0 K points_1 k x.1 x.2) K (([]:List Int),(0:Int)) rfl 5 [(4,2)] (fun x_27=>[(3,.c (.h 1)),(7,.c (.h 0)),(8,cI (lnI points_1)),(9,cI x_27.2)]) (fun x_27=>[(0,.row (.int .i64) points_1),(1,.box [.slf 1 167,.h 4]),(4,.brow 5 x_27.1)]) (fun _=>rfl) (round:=fun k x_27=>jy (DX.l0.eq_2 ..) ?_)
  refine jm 3 (hr:=?_)
  refine jc (h1:=fun b_29=>?_) (h2:=fun b_29=>?_)
  ·refine ji 9 (hr:=fun c_30=>?_)
   refine ja (Y:=Bool) 5 (fun y_59=>[(3,.c (.h 1)),(5,cI (List.getD points_1 (Int.toNat x_27.2) (0:Int))),(6,.c (.val (.int .i32 (65533:Int)))),(7,.c (.h 0)),(8,cI (lnI points_1)),(9,cI x_27.2),(23,cB y_59)]) (fun y_59=>[(0,.row (.int .i64) points_1),(1,.box [.slf 1 167,.h 4]),(4,.brow 5 x_27.1)]) (h1:=?_) (h2:=fun y_59=>?_)
   ·refine js (fun b_31=>?_) fun b_31=>?_
    ·refine js (fun b_32=>?_) fun b_32=>?_
     ·refine jb fun r_33 h_34=>?_
      refine jr [cp 9 (PD _ h_34) [] 5] [(15,true),(19,true)] [(decide ((List.getD points_1 (Int.toNat x_27.2) (0:Int))≥(0:Int)))=true,(decide ((List.getD points_1 (Int.toNat x_27.2) (0:Int))≤(1114111:Int)))=true] (ap2 b_31 (ap1 b_32)) (hr:=?_)
      exact jo []
     ·refine jr [] [(15,true),(19,false)] [(decide ((List.getD points_1 (Int.toNat x_27.2) (0:Int))≥(0:Int)))=true,(decide ((List.getD points_1 (Int.toNat x_27.2) (0:Int))≤(1114111:Int)))=false] (ap2 b_31 (ap1 b_32)) (hr:=?_)
      exact jo []
    ·refine jr [] [(15,false)] [(decide ((List.getD points_1 (Int.toNat x_27.2) (0:Int))≥(0:Int)))=false] (ap1 b_31) (hr:=?_)
     exact jo []
   ·refine ja (Y:=Int) 5 (fun y_60=>[(3,.c (.h 1)),(6,.c (.val (.int .i32 y_60))),(7,.c (.h 0)),(8,cI (lnI points_1)),(9,cI x_27.2)]) (fun y_60=>[(0,.row (.int .i64) points_1),(1,.box [.slf 1 167,.h 4]),(4,.brow 5 x_27.1)]) (h1:=?_) (h2:=fun y_60=>?_)
    ·refine jc (h1:=fun b_39=>?_) (h2:=fun b_39=>?_)
     ·refine jm 1 (hr:=?_)
      exact jo []
     ·refine jm 1 (hr:=?_)
      exact jo []
    ·refine jb fun r_43 h_44=>?_
     refine jr0 [cp 1 (WF _ h_44) [(0,1),(1,4),(2,5)] 6] (hr:=?_)
     refine jm 2 (hr:=?_)
     exact jx (r_43.2,(w6 (x_27.2+(1:Int)))) rfl [(4,5)]
  ·refine jq 0 (ql (qh ?_))
   exact jo []
 ·refine jm 1 (hr:=?_)
  refine jb fun r_49 h_50=>?_
  refine jr0 [cp 0 (KT _ h_50) [(0,1),(1,4)] 5] (hr:=?_)
  exact jt (rr [])
theorem L0 {K s_1}:FS Tryz.prog 141 0 [cS s_1] [] (EE K s_1) (fun r=>cS r) fun r=>[]:=by
 refine jfn (fn:=Tryz.f141) Tryz.func141 (jy (EE.eq_1 ..) ?_)
 refine jm 4 (hr:=?_)
 refine jb fun r_3 h_4=>?_
 refine jr0 [cp 1 (DY _ h_4) [] 0] (hr:=?_)
 refine jc (h1:=fun b_6=>?_) (h2:=fun b_6=>?_)
 ·refine jm 2 (hr:=?_)
  exact jt (rr [])
 ·refine jm 2 (hr:=?_)
  refine jb fun r_9 h_10=>?_
  refine jb fun r_11 h_12=>?_
  refine jr0 [cp 1 (XB _ h_10) [(0,0)] 1,cp 2 (XA _ h_12) [(0,0)] 1] (hr:=?_)
  exact jt (rr [])
theorem QS {K r_1}:FS Tryz.prog 316 0 [.c (.val (.int .i32 r_1))] [] (FV K r_1) (fun r=>cI r) fun r=>[]:=by
 refine jfn (fn:=Tryz.f316) Tryz.func316 (jy (FV.eq_1 ..) ?_)
 refine jm 5 (hr:=?_)
 refine jc (h1:=fun b_3=>?_) (h2:=fun b_3=>?_)
 ·refine jm 2 (hr:=?_)
  exact jt (rr [])
 ·refine jm 3 (hr:=?_)
  exact jt (rr [])
theorem QR {K r_1}:FS Tryz.prog 315 0 [.c (.val (.int .i32 r_1))] [] (FU K r_1) (fun r=>.agg [.val (.int .i64 r.1),.val (.int .i64 r.2.1),.val (.int .i64 r.2.2.1),.val (.int .i64 r.2.2.2)]) fun r=>[]:=by
 refine jfn (fn:=Tryz.f315) Tryz.func315 (jy (FU.eq_1 ..) ?_)
 refine jm 3 (hr:=?_)
 refine jb fun r_3 h_4=>?_
 refine jr0 [cp 4 (QS _ h_4) [] 1] (hr:=?_)
 refine jm 3 (hr:=?_)
 refine jc (h1:=fun b_7=>?_) (h2:=fun b_7=>?_)
 ·refine jm 3 (hr:=?_)
  exact jt (rr [])
 ·refine jm 3 (hr:=?_)
  exact jt (rr [])
theorem LX {K a_1 a_2 a_3 a_4 b_5 b_6 b_7 b_8}:FS Tryz.prog 314 0 [.agg [.val (.int .i64 a_1),.val (.int .i64 a_2),.val (.int .i64 a_3),.val (.int .i64 a_4)],.agg [.val (.int .i64 b_5),.val (.int .i64 b_6),.val (.int .i64 b_7),.val (.int .i64 b_8)]] [] (E5 K a_1 a_2 a_3 a_4 b_5 b_6 b_7 b_8) (fun r=>.agg [.val (.int .i64 r.1),.val (.int .i64 r.2.1),.val (.int .i64 r.2.2.1),.val (.int .i64 r.2.2.2)]) fun r=>[]:=by
 refine jfn (fn:=Tryz.f314) Tryz.func314 (jy (E5.eq_1 ..) ?_)
 refine jm 4 (hr:=?_)
 exact jt (rr [(0,2)])
theorem QQ {K s_1}:FS Tryz.prog 313 0 [cS s_1] [] (CH K s_1) (fun r=>.agg [.val (.int .i64 r.1),.val (.int .i64 r.2.1),.val (.int .i64 r.2.2.1),.val (.int .i64 r.2.2.2)]) fun r=>[]:=by
 refine jfn (fn:=Tryz.f313) Tryz.func313 (jy (CH.eq_1 ..) ?_)
 refine jm 6 (hr:=?_)
 refine jb fun r_3 h_4=>?_
 refine jr0 [cp 1 (L0 _ h_4) [] 2] (hr:=?_)
 refine jm 1 (hr:=?_)
 refine jl (X:=(Int×Int×Int×Int×Nat)) (fun k x=>CH.l0 K r_3 k x.1 x.2.1 x.2.2.1 x.2.2.2.1 x.2.2.2.2) K ((0:Int),(0:Int),(0:Int),(0:Int),(0:Nat)) rfl 3 [] (fun x_24=>[(2,.c (.h 0)),(3,.c (.h 1)),(8,.c (.h 2))]) (fun x_24=>[(0,.box [.val (.int .i64 (0:Int)),.val (.int .i64 (0:Int)),.val (.int .i64 (0:Int)),.val (.int .i64 (0:Int))]),(1,.box [.val (.int .i64 x_24.1),.val (.int .i64 x_24.2.1),.val (.int .i64 x_24.2.2.1),.val (.int .i64 x_24.2.2.2.1)]),(2,.it r_3 x_24.2.2.2.2 none)]) (fun _=>rfl) (round:=fun k x_24=>jy (CH.l0.eq_2 ..) ?_)
 refine jm 1 (hr:=?_)
 refine js (fun b_26=>jit 2 b_26 (hr:=?_)) fun b_26=>jit 2 b_26 (hr:=?_)
 ·refine jm 7 (hr:=?_)
  refine jb fun r_28 h_29=>?_
  refine jb fun r_30 h_31=>?_
  refine jw0 [cp 2 (QR _ h_29) [] 3,cp 3 (LX _ h_31) [] 3] (hr:=?_)
  refine jm 1 (hr:=?_)
  exact jx (r_30.1,r_30.2.1,r_30.2.2.1,r_30.2.2.2,(x_24.2.2.2.2+(Utf8.decode r_3 x_24.2.2.2.2).2)) rfl []
 ·refine jm 3 (hr:=?_)
  refine jq 0 (ql (qh ?_))
  refine jm 2 (hr:=?_)
  exact jt (rr [])
theorem UZ {K p_1}:FS Tryz.prog 312 0 [cS p_1] [] (GO K p_1) (fun r=>.agg [.val (.int .i64 r.1),.val (.int .i64 r.2.1),.val (.int .i64 r.2.2.1),.val (.int .i64 r.2.2.2)]) fun r=>[]:=by
 refine jfn (fn:=Tryz.f312) Tryz.func312 (jy (GO.eq_1 ..) ?_)
 refine jm 3 (hr:=?_)
 refine jb fun r_3 h_4=>?_
 refine jr0 [cp 1 (QQ _ h_4) [] 1] (hr:=?_)
 exact jt (rr [])
theorem O3 {K c_1 c_2 c_3 c_4 o_5 o_6 o_7 o_8}:FS Tryz.prog 317 0 [.agg [.val (.int .i64 c_1),.val (.int .i64 c_2),.val (.int .i64 c_3),.val (.int .i64 c_4)],.agg [.val (.int .i64 o_5),.val (.int .i64 o_6),.val (.int .i64 o_7),.val (.int .i64 o_8)]] [] (F9 K c_1 c_2 c_3 c_4 o_5 o_6 o_7 o_8) (fun r=>.agg [.val (.int .i64 r.1),.val (.int .i64 r.2.1),.val (.int .i64 r.2.2.1),.val (.int .i64 r.2.2.2)]) fun r=>[]:=by
 refine jfn (fn:=Tryz.f317) Tryz.func317 (jy (F9.eq_1 ..) ?_)
 refine jm 3 (hr:=?_)
 refine jb fun r_10 h_11=>?_
 refine jr0 [cp 2 (LX _ h_11) [] 3] (hr:=?_)
 exact jt (rr [(0,2)])
theorem WR {K l_1}:FS Tryz.prog 250 1 [.c (.h 0)] [(0,.row .str l_1)] (CA K l_1) (fun r=>.c (.imm (.opt .node) r)) fun r=>[]:=by
 refine jfn (fn:=Tryz.f250) Tryz.func250 (jy (CA.eq_1 ..) ?_)
 refine jg [.shut 0] ?_
 refine jm 8 (hr:=?_)
 refine jl (X:=(Int×Int×Int×Int×Int)) (fun k x=>CA.l0 K l_1 k x.1 x.2.1 x.2.2.1 x.2.2.2.1 x.2.2.2.2) K ((0:Int),(0:Int),(0:Int),(0:Int),(0:Int)) rfl 2 [] (fun x_19=>[(3,.c (.h 1)),(11,.c (.imm (.slice .str) l_1)),(12,cI (lnI l_1)),(13,cI x_19.2.2.2.2)]) (fun x_19=>[(1,.box [.val (.slice none 0 0),.imm (.slice .str) l_1,.val (.int .i64 (lnI l_1)),.val (.int .i64 (1:Int)),.val (.int .i64 x_19.1),.val (.int .i64 x_19.2.1),.val (.int .i64 x_19.2.2.1),.val (.int .i64 x_19.2.2.2.1)])]) (fun _=>rfl) (round:=fun k x_19=>jy (CA.l0.eq_2 ..) ?_)
 refine jm 3 (hr:=?_)
 refine jc (h1:=fun b_21=>?_) (h2:=fun b_21=>?_)
 ·refine ji 5 (hr:=fun c_22=>?_)
  refine jb fun r_23 h_24=>?_
  refine jb fun r_25 h_26=>?_
  refine jw0 [cp 8 (UZ _ h_24) [] 2,cp 9 (O3 _ h_26) [] 2] (hr:=?_)
  refine jm 2 (hr:=?_)
  exact jx (r_25.1,r_25.2.1,r_25.2.2.1,r_25.2.2.2,(w6 (x_19.2.2.2.2+(1:Int)))) rfl []
 ·refine jq 0 (ql (qh ?_))
  refine jm 2 (hr:=?_)
  refine jg [.shutBox 1 .node,.read 2 (.opt .node)] ?_
  exact jt (rr [])
theorem WU {K l_1}:FS Tryz.prog 249 1 [.c (.h 0),.c (.clo 250 [])] [(0,.row .str l_1)] (CC K l_1) (fun r=>.c (.h 1)) fun r=>[(0,.row .str l_1),(1,.row (.opt .node) r)]:=by
 refine jfn (fn:=Tryz.f249) Tryz.func249 (jy (CC.eq_1 ..) ?_)
 refine jn 10 [(16:Int)≠(0:Int)] (ap1 (by decide)) (hr:=?_)
 refine jg [.nilSlot 6 (.opt .node)] ?_
 refine jl (X:=((List (Option Tree))×Int)) (fun k x=>CC.l0 K l_1 k x.1 x.2) K (([]:List (Option Tree)),(0:Int)) rfl 6 [(5,1)] (fun x_15=>[(0,.c (.h 0)),(1,.c (.clo 250 [])),(5,cI (w6 (Int.tdiv (w6 ((w6 ((lnI l_1)+(16:Int))) - (1:Int))) (16:Int)))),(6,.c (.h 5)),(14,cI (w6 (Int.tdiv (w6 ((w6 ((lnI l_1)+(16:Int))) - (1:Int))) (16:Int)))),(15,cI x_15.2)]) (fun x_15=>[(0,.row .str l_1),(5,.row (.opt .node) x_15.1)]) (fun _=>rfl) (round:=fun k x_15=>jy (CC.l0.eq_2 ..) ?_)
 refine jm 3 (hr:=?_)
 refine jc (h1:=fun b_17=>?_) (h2:=fun b_17=>?_)
 ·refine jm 6 (hr:=?_)
  refine jp fun c_19=>?_
  refine jw [] [] [(w6 (Int.tdiv (w6 ((w6 ((lnI l_1)+(16:Int))) - (1:Int))) (16:Int)))≠0,(w6 (Int.tdiv (w6 ((w6 ((lnI l_1)+(16:Int))) - (1:Int))) (16:Int)))≠0,(0:Int)≤(w6 (Int.tdiv (w6 ((lnI l_1) * x_15.2)) (w6 (Int.tdiv (w6 ((w6 ((lnI l_1)+(16:Int))) - (1:Int))) (16:Int))))),(w6 (Int.tdiv (w6 ((lnI l_1) * x_15.2)) (w6 (Int.tdiv (w6 ((w6 ((lnI l_1)+(16:Int))) - (1:Int))) (16:Int)))))≤(w6 (Int.tdiv (w6 ((lnI l_1) * (w6 (x_15.2+(1:Int))))) (w6 (Int.tdiv (w6 ((w6 ((lnI l_1)+(16:Int))) - (1:Int))) (16:Int))))),(w6 (Int.tdiv (w6 ((lnI l_1) * (w6 (x_15.2+(1:Int))))) (w6 (Int.tdiv (w6 ((w6 ((lnI l_1)+(16:Int))) - (1:Int))) (16:Int)))))≤(lnI l_1)] (ap2 c_19.1 (ap2 c_19.1 (ap2 c_19.2.1 (ap2 c_19.2.2.1 (ap1 c_19.2.2.2))))) (hr:=?_)
  refine jb fun r_20 h_21=>?_
  refine jri [cp 4 (WR _ h_21) [(0,6)] 7] [] (hr:=fun c_22=>?_)
  refine jm 2 (hr:=?_)
  exact jx ((x_15.1++([r_20]:List (Option Tree))),(w6 (x_15.2+(1:Int)))) rfl [(5,8)]
 ·refine jq 0 (ql (qh ?_))
  refine jm 2 (hr:=?_)
  exact jt (rr [(1,5)])
theorem WQ {K l_1}:FS Tryz.prog 252 1 [.c (.h 0)] [(0,.row (.opt .node) l_1)] (C2 K l_1) (fun r=>.c (.imm (.opt .node) r)) fun r=>[]:=by
 refine jfn (fn:=Tryz.f252) Tryz.func252 (jy (C2.eq_1 ..) ?_)
 refine jg [.shut 0] ?_
 refine jp fun c_2=>?_
 refine jn 7 [(0:Int)≤(0:Int),(0:Int)<(lnI l_1),Option.isSome (List.getD l_1 0 (none:(Option Tree)))=true] (ap2 (by decide) (ap2 c_2.1 (ap1 c_2.2))) (hr:=?_)
 refine jm 1 (hr:=?_)
 refine jl (X:=(Int×Int×Int×Int×Int×Int)) (fun k x=>C2.l0 K l_1 k x.1 x.2.1 x.2.2.1 x.2.2.2.1 x.2.2.2.2.1 x.2.2.2.2.2) K ((0:Int),(0:Int),(0:Int),(0:Int),(0:Int),(0:Int)) rfl 2 [] (fun x_20=>[(3,.c (.h 1)),(16,.c (.imm (.slice (.opt .node)) l_1)),(17,cI (lnI l_1)),(18,cI x_20.2.2.2.2.2)]) (fun x_20=>[(1,.box [.imm (.slice (.opt .node)) l_1,.val (.slice none 0 0),.val (.int .i64 x_20.1),.val (.int .i64 (w6 ((Tree.d (Option.getD (List.getD l_1 0 (none:(Option Tree))) (Tree.mk [] [] 0 0 0 0 0 0)))+(1:Int)))),.val (.int .i64 x_20.2.1),.val (.int .i64 x_20.2.2.1),.val (.int .i64 x_20.2.2.2.1),.val (.int .i64 x_20.2.2.2.2.1)])]) (fun _=>rfl) (round:=fun k x_20=>jy (C2.l0.eq_2 ..) ?_)
 refine jm 3 (hr:=?_)
 refine jc (h1:=fun b_22=>?_) (h2:=fun b_22=>?_)
 ·refine ji 6 (hr:=fun c_23=>?_)
  refine jwi [] [] (hr:=fun c_24=>?_)
  refine jb fun r_25 h_26=>?_
  refine jw [cp 10 (O3 _ h_26) [] 2] [] [Option.isSome (List.getD l_1 (Int.toNat x_20.2.2.2.2.2) (none:(Option Tree)))=true] (ap1 c_24) (hr:=?_)
  refine jm 2 (hr:=?_)
  exact jx ((w6 (x_20.1+(Tree.n (Option.getD (List.getD l_1 (Int.toNat x_20.2.2.2.2.2) (none:(Option Tree))) (Tree.mk [] [] 0 0 0 0 0 0))))),r_25.1,r_25.2.1,r_25.2.2.1,r_25.2.2.2,(w6 (x_20.2.2.2.2.2+(1:Int)))) rfl []
 ·refine jq 0 (ql (qh ?_))
  refine jm 2 (hr:=?_)
  refine jg [.shutBox 1 .node,.read 2 (.opt .node)] ?_
  exact jt (rr [])
theorem WT {K l_1}:FS Tryz.prog 251 1 [.c (.h 0),.c (.clo 252 [])] [(0,.row (.opt .node) l_1)] (CB K l_1) (fun r=>.c (.h 1)) fun r=>[(0,.row (.opt .node) l_1),(1,.row (.opt .node) r)]:=by
 refine jfn (fn:=Tryz.f251) Tryz.func251 (jy (CB.eq_1 ..) ?_)
 refine jn 10 [(16:Int)≠(0:Int)] (ap1 (by decide)) (hr:=?_)
 refine jg [.nilSlot 6 (.opt .node)] ?_
 refine jl (X:=((List (Option Tree))×Int)) (fun k x=>CB.l0 K l_1 k x.1 x.2) K (([]:List (Option Tree)),(0:Int)) rfl 6 [(5,1)] (fun x_15=>[(0,.c (.h 0)),(1,.c (.clo 252 [])),(5,cI (w6 (Int.tdiv (w6 ((w6 ((lnI l_1)+(16:Int))) - (1:Int))) (16:Int)))),(6,.c (.h 5)),(14,cI (w6 (Int.tdiv (w6 ((w6 ((lnI l_1)+(16:Int))) - (1:Int))) (16:Int)))),(15,cI x_15.2)]) (fun x_15=>[(0,.row (.opt .node) l_1),(5,.row (.opt .node) x_15.1)]) (fun _=>rfl) (round:=fun k x_15=>jy (CB.l0.eq_2 ..) ?_)
 refine jm 3 (hr:=?_)
 refine jc (h1:=fun b_17=>?_) (h2:=fun b_17=>?_)
 ·refine jm 6 (hr:=?_)
  refine jp fun c_19=>?_
  refine jw [] [] [(w6 (Int.tdiv (w6 ((w6 ((lnI l_1)+(16:Int))) - (1:Int))) (16:Int)))≠0,(w6 (Int.tdiv (w6 ((w6 ((lnI l_1)+(16:Int))) - (1:Int))) (16:Int)))≠0,(0:Int)≤(w6 (Int.tdiv (w6 ((lnI l_1) * x_15.2)) (w6 (Int.tdiv (w6 ((w6 ((lnI l_1)+(16:Int))) - (1:Int))) (16:Int))))),(w6 (Int.tdiv (w6 ((lnI l_1) * x_15.2)) (w6 (Int.tdiv (w6 ((w6 ((lnI l_1)+(16:Int))) - (1:Int))) (16:Int)))))≤(w6 (Int.tdiv (w6 ((lnI l_1) * (w6 (x_15.2+(1:Int))))) (w6 (Int.tdiv (w6 ((w6 ((lnI l_1)+(16:Int))) - (1:Int))) (16:Int))))),(w6 (Int.tdiv (w6 ((lnI l_1) * (w6 (x_15.2+(1:Int))))) (w6 (Int.tdiv (w6 ((w6 ((lnI l_1)+(16:Int))) - (1:Int))) (16:Int)))))≤(lnI l_1)] (ap2 c_19.1 (ap2 c_19.1 (ap2 c_19.2.1 (ap2 c_19.2.2.1 (ap1 c_19.2.2.2))))) (hr:=?_)
  refine jb fun r_20 h_21=>?_
  refine jri [cp 4 (WQ _ h_21) [(0,6)] 7] [] (hr:=fun c_22=>?_)
  refine jm 2 (hr:=?_)
  exact jx ((x_15.1++([r_20]:List (Option Tree))),(w6 (x_15.2+(1:Int)))) rfl [(5,8)]
 ·refine jq 0 (ql (qh ?_))
  refine jm 2 (hr:=?_)
  exact jt (rr [(1,5)])
theorem WN {K l_1}:FS Tryz.prog 211 1 [.c (.h 0)] [(0,.row .str l_1)] (C9 K l_1) (fun r=>.agg [.imm (.opt .node) r]) fun r=>[(0,.row .str l_1)]:=by
 refine jfn (fn:=Tryz.f211) Tryz.func211 (jy (C9.eq_1 ..) ?_)
 refine jm 5 (hr:=?_)
 refine jc (h1:=fun b_3=>?_) (h2:=fun b_3=>?_)
 ·refine jm 2 (hr:=?_)
  refine jg [.readCell 1 0 (.opt .node)] ?_
  exact jt (rr [])
 ·refine jm 2 (hr:=?_)
  refine jb fun r_6 h_7=>?_
  refine jr0 [cp 1 (WU _ h_7) [(0,0),(1,2)] 3] (hr:=?_)
  refine jm 2 (hr:=?_)
  refine jl (X:=(List (Option Tree))) (fun k x=>C9.l0 K k x) K _ rfl 5 [(4,2)] (fun x_20=>[(2,.c (.h 1)),(3,.c (.h 4))]) (fun x_20=>[(0,.row .str l_1),(1,.box [.val (.pointer none)]),(4,.row (.opt .node) x_20)]) (fun _=>rfl) (round:=fun k x_20=>jy (C9.l0.eq_2 ..) ?_)
  refine jm 3 (hr:=?_)
  refine jc (h1:=fun b_22=>?_) (h2:=fun b_22=>?_)
  ·refine jm 2 (hr:=?_)
   refine jb fun r_24 h_25=>?_
   refine jr0 [cp 1 (WT _ h_25) [(0,4),(1,5)] 6] (hr:=?_)
   refine jm 1 (hr:=?_)
   exact jx _ rfl [(4,5)]
  ·refine jq 0 (ql (qh ?_))
   refine jp fun c_28=>?_
   refine jn 2 [(0:Int)≤(0:Int),(0:Int)<(lnI x_20)] (ap2 (by decide) (ap1 c_28)) (hr:=?_)
   exact jt (rr [])
theorem UY {K s_1}:FS Tryz.prog 145 0 [cS s_1] [] (AP K s_1) (fun r=>.agg [.imm (.opt .node) r]) fun r=>[]:=by
 refine jfn (fn:=Tryz.f145) Tryz.func145 (jy (AP.eq_1 ..) ?_)
 refine jm 5 (hr:=?_)
 refine ja (Y:=(List ByteArray)) 5 (fun y_57=>[(2,.c (.h 0)),(3,.c (.h 4))]) (fun y_57=>[(0,.box [.val (.pointer none)]),(4,.row .str y_57)]) (h1:=?_) (h2:=fun y_57=>?_)
 ·refine jm 1 (hr:=?_)
  refine jg [.nilSlot 3 .str] ?_
  refine jl (X:=(ByteArray×(List ByteArray))) (fun k x=>AP.l0 K k x.1 x.2) K (s_1,([]:List ByteArray)) rfl 5 [(4,1)] (fun x_26=>[(0,cS x_26.1),(2,.c (.h 0)),(3,.c (.h 4))]) (fun x_26=>[(0,.box [.val (.pointer none)]),(4,.row .str x_26.2)]) (fun _=>rfl) (round:=fun k x_26=>jy (AP.l0.eq_2 ..) ?_)
  refine jm 3 (hr:=?_)
  refine jc (h1:=fun b_28=>?_) (h2:=fun b_28=>?_)
  ·refine jm 1 (hr:=?_)
   refine ja (Y:=(ByteArray×(List ByteArray))) 7 (fun y_58=>[(0,cS y_58.1),(2,.c (.h 0)),(3,.c (.h 6))]) (fun y_58=>[(0,.box [.val (.pointer none)]),(6,.row .str y_58.2)]) (h1:=?_) (h2:=fun y_58=>?_)
   ·refine jm 6 (hr:=?_)
    refine jc (h1:=fun b_31=>?_) (h2:=fun b_31=>?_)
    ·refine jm 2 (hr:=?_)
     refine ja (Y:=Int) 5 (fun y_59=>[(0,cS x_26.1),(2,.c (.h 0)),(3,.c (.h 4)),(4,cI y_59)]) (fun y_59=>[(0,.box [.val (.pointer none)]),(4,.row .str x_26.2)]) (h1:=?_) (h2:=fun y_59=>?_)
     ·refine jm 1 (hr:=?_)
      refine jl (X:=Int) (fun k x=>AP.l1 K x_26.1 k x) K _ rfl 5 [] (fun x_35=>[(0,cS x_26.1),(2,.c (.h 0)),(3,.c (.h 4)),(4,cI x_35)]) (fun x_35=>[(0,.box [.val (.pointer none)]),(4,.row .str x_26.2)]) (fun _=>rfl) (round:=fun k x_35=>jy (AP.l1.eq_2 ..) ?_)
      refine ji 3 (hr:=fun c_36=>?_)
      refine jc (h1:=fun b_37=>?_) (h2:=fun b_37=>?_)
      ·refine jm 6 (hr:=?_)
       exact jx _ rfl []
      ·refine jq 2 (ql (qh ?_))
       exact jo []
     ·refine jp fun c_40=>?_
      refine jn 3 [(0:Int)≤y_59,y_59≤(((ByteArray.size x_26.1):Nat):Int),(List.length x_26.2+List.length ([(ByteArray.extract x_26.1 0 (Int.toNat y_59))]:List ByteArray)) * 16≤140737488355328,(0:Int)≤y_59,y_59≤(((ByteArray.size x_26.1):Nat):Int)] (ap2 c_40.1 (ap2 c_40.2.1 (ap2 c_40.2.2 (ap2 c_40.1 (ap1 c_40.2.1))))) (hr:=?_)
      refine jm 1 (hr:=?_)
      exact jo []
    ·refine jp fun c_42=>?_
     refine jn 4 [(0:Int)≤(((ByteArray.size x_26.1):Nat):Int),(((ByteArray.size x_26.1):Nat):Int)≤(((ByteArray.size x_26.1):Nat):Int),(List.length x_26.2+List.length ([(ByteArray.extract x_26.1 0 (Int.toNat (((ByteArray.size x_26.1):Nat):Int)))]:List ByteArray)) * 16≤140737488355328,(0:Int)≤(((ByteArray.size x_26.1):Nat):Int),(((ByteArray.size x_26.1):Nat):Int)≤(((ByteArray.size x_26.1):Nat):Int)] (ap2 c_42.1 (ap2 c_42.2.1 (ap2 c_42.2.2 (ap2 c_42.1 (ap1 c_42.2.1))))) (hr:=?_)
     refine jm 1 (hr:=?_)
     exact jo []
   ·exact jx (y_58.1,y_58.2) rfl [(4,6)]
  ·refine jq 0 (ql (qh ?_))
   exact jo []
 ·refine jm 1 (hr:=?_)
  refine jb fun r_48 h_49=>?_
  refine jr0 [cp 1 (WN _ h_49) [(0,4)] 5] (hr:=?_)
  exact jt (rr [])
theorem O2 {K s_1}:FS Tryz.prog 102 0 [cS s_1] [] (F8 K s_1) (fun r=>.tup [(false,[.imm (.opt (.opt .node)) r.1]),(false,[.val (.int .i64 r.2)])]) fun r=>[]:=by
 refine jfn (fn:=Tryz.f102) Tryz.func102 (jy (F8.eq_1 ..) ?_)
 refine jm 3 (hr:=?_)
 refine jb fun r_3 h_4=>?_
 refine jr0 [cp 1 (L0 _ h_4) [] 0] (hr:=?_)
 refine jm 3 (hr:=?_)
 refine jc (h1:=fun b_7=>?_) (h2:=fun b_7=>?_)
 ·refine jm 2 (hr:=?_)
  refine jg [.read 2 (.opt (.opt .node))] ?_
  exact jt (rr [])
 ·refine jm 2 (hr:=?_)
  refine jb fun r_10 h_11=>?_
  refine jr0 [cp 1 (UY _ h_11) [] 0] (hr:=?_)
  refine jg [.shutBox 0 (.opt .node),.read 2 (.opt (.opt .node))] ?_
  exact jt (rr [])
theorem XY {K v_1 v_2 v_3 v_4 v_5 v_6}:FS Tryz.prog 61 7 [.c (.h 0)] [(0,.box [.h 1,.val (.pointer none),.h 6,.val (.slice none 0 0),.val (.slice none 0 0)]),(1,.box [.imm (.slice kAt) v_1,.h 2]),(2,.box [.h 3,.val (.int .i64 v_3),.h 4,.h 5]),(3,.sets v_2 none),(4,.map v_4),(5,.map v_5),(6,.row kP v_6)] (IN K v_1 v_2 v_3 v_4 v_5 v_6) (fun r=>.c (.h 0)) fun r=>[(0,.box [.h 1,.imm (.opt (.opt .node)) r,.imm (.slice kP) v_6,.imm (.slice kS) ([]:List (Int×(Int×Int))),.imm (.slice (.int .i64)) ([]:List Int)]),(1,.box [.imm (.slice kAt) v_1,.h 2]),(2,.box [.h 3,.val (.int .i64 v_3),.h 4,.h 5]),(3,.sets v_2 none),(4,.map v_4),(5,.map v_5)]:=by
 refine jfn (fn:=Tryz.f61) Tryz.func61 (jy (IN.eq_1 ..) ?_)
 refine jg [.shut 6] ?_
 refine jm 3 (hr:=?_)
 refine jb fun r_8 h_9=>?_
 refine jb fun r_10 h_11=>?_
 refine jw0 [cp 5 (XQ _ h_9) [(0,0),(1,1),(2,2),(3,3),(4,4),(5,5)] 7,cp 6 (EP _ h_11) [(0,1),(1,2),(2,3),(3,4),(4,5)] 7] (hr:=?_)
 refine jm 1 (hr:=?_)
 refine jb fun r_14 h_15=>?_
 refine jr0 [cp 2 (O2 _ h_15) [] 7] (hr:=?_)
 refine jm 2 (hr:=?_)
 exact jt (rr [])
theorem PG {K}:FS Tryz.prog 25 0 [] [] (FK K) (fun r=>.c (.h 0)) fun r=>[(0,.box [.h 1,.imm (.opt (.opt .node)) r.2.2.2,.imm (.slice kP) (List.replicate 1 zP),.imm (.slice kS) ([]:List (Int×(Int×Int))),.imm (.slice (.int .i64)) ([]:List Int)]),(1,.box [.imm (.slice kAt) ([]:List AtT),.h 2]),(2,.box [.h 3,.val (.int .i64 (0:Int)),.h 4,.h 5]),(3,.sets r.1 none),(4,.map r.2.1),(5,.map r.2.2.1)]:=by
 refine jfn (fn:=Tryz.f25) Tryz.func25 (jy (FK.eq_1 ..) ?_)
 refine jm 3 (hr:=?_)
 refine jb fun r_2 h_3=>?_
 refine jb fun r_4 h_5=>?_
 refine jw [cp 0 (S7 _ h_3) [(0,0),(1,1),(2,2),(3,3),(4,4)] 5,cp 4 (XY _ h_5) [(0,6),(1,0),(2,1),(3,2),(4,3),(5,4),(6,5)] 7] [] [(0:Int)≤(1:Int),(1:Int)≤(1:Int),(16:Int)≤(140737488355328:Int),(1:Int)≤(9223372036854775807:Int),(0:Int)≤(1:Int),(1:Int)≤(1:Int),(16:Int)≤(140737488355328:Int),(1:Int)≤(9223372036854775807:Int)] (ap2 (by decide) (ap2 (by decide) (ap2 (by decide) (ap2 (by decide) (ap2 (by decide) (ap2 (by decide) (ap2 (by decide) (ap1 (by decide))))))))) (hr:=?_)
 exact jt (rr [(0,6),(1,0),(2,1),(3,2),(4,3),(5,4)])
theorem IA {K s_1}:FS Tryz.prog 98 0 [.c (.imm (.slice kP) s_1)] [] (DQ K s_1) (fun r=>.c (.h 0)) fun r=>[(0,.row kP r)]:=by
 refine jfn (fn:=Tryz.f98) Tryz.func98 (jy (DQ.eq_1 ..) ?_)
 refine jm 4 (hr:=?_)
 refine jnil s_1 (k:=kP) (h1:=fun hx=>?_) (h2:=?_)
 ·subst hx; refine jy (y:=some ([]:List (Int×Int))) (by simp) ?_
  refine jm 3 (hr:=?_)
  refine jg [.nilSlot 2 kP] ?_
  exact jt (rr [])
 ·refine ji 4 (hr:=fun c_4=>?_)
  exact jt (rr [(0,1)])
theorem EJ {K l_1}:FS Tryz.prog 58 0 [.c (.imm (.slice kAt) l_1)] [] (BB K l_1) (fun r=>.c (.h 0)) fun r=>[(0,.aown r)]:=by
 refine jfn (fn:=Tryz.f58) Tryz.func58 (jy (BB.eq_1 ..) ?_)
 refine ji 9 (hr:=fun c_2=>?_)
 refine jm 1 (hr:=?_)
 refine jg0 (.ar0 0) (hr:=?_)
 refine jl (X:=(Nat×(List AtT)×Int)) (fun k x=>BB.l0 K l_1 k x.1 x.2.1 x.2.2) K ((0:Nat),(putAt (List.replicate (Int.toNat (lnI l_1)) zAt) (List.take (List.length (List.replicate (Int.toNat (lnI l_1)) zAt)) l_1) 0),(0:Int)) rfl 5 [(4,1)] (fun x_18=>[(3,.c (.h 4)),(12,cI (lnI (putAt (List.replicate (Int.toNat (lnI l_1)) zAt) (List.take (List.length (List.replicate (Int.toNat (lnI l_1)) zAt)) l_1) 0))),(13,cI x_18.2.2)]) (fun x_18=>[(4,.arow x_18.1 x_18.2.1)]) (fun _=>rfl) (round:=fun k x_18=>jy (BB.l0.eq_2 ..) ?_)
 refine jm 3 (hr:=?_)
 refine jc (h1:=fun b_20=>?_) (h2:=fun b_20=>?_)
 ·refine jm 5 (hr:=?_)
  refine jb fun r_22 h_23=>?_
  refine jp fun c_24=>?_
  refine jr [cp 7 (IA _ h_23) [(0,5)] 6] [] [0≤x_18.2.2,x_18.2.2<(lnI x_18.2.1),x_18.1≤(Int.toNat x_18.2.2),0≤x_18.2.2,x_18.2.2<(lnI x_18.2.1),(Int.toNat x_18.2.2)=x_18.1] (ap2 c_24.1 (ap2 c_24.2.1 (ap2 c_24.2.2.1 (ap2 c_24.1 (ap2 c_24.2.1 (ap1 c_24.2.2.2)))))) (hr:=?_)
  refine jm 2 (hr:=?_)
  exact jx ((x_18.1+1),(setCut x_18.2.1 x_18.1 r_22),(w6 (x_18.2.2+(1:Int)))) rfl [(4,6)]
 ·refine jq 0 (ql (qh ?_))
  refine jm 2 (hr:=?_)
  refine jgi (.ao 4) (hr:=fun _=>?_)
  exact jt (rr [(0,4)])
theorem N2 {K l_1}:FS Tryz.prog 99 1 [.c (.h 0)] [(0,.map l_1)] (GE K l_1) (fun r=>.c (.h 1)) fun r=>[(0,.map l_1),(1,.map r)]:=by
 exact mapsClone_fs mpLays
theorem JU {K l_1 i_2}:FS Tryz.prog 99 1 [.c (.elm 0 i_2)] [(0,.sets l_1 none)] (E9 K l_1 i_2) (fun r=>.c (.h 1)) fun r=>[(0,.sets l_1 none),(1,.map r)]:=by
 exact mapsCloneE_fs mpLays
theorem US {K r_1 r_2 r_3 r_4}:FS Tryz.prog 59 4 [.c (.h 0)] [(0,.box [.h 1,.val (.int .i64 r_2),.h 2,.h 3]),(1,.sets r_1 none),(2,.map r_3),(3,.map r_4)] (C0 K r_1 r_2 r_3 r_4) (fun r=>.c (.h 4)) fun r=>[(0,.box [.h 1,.val (.int .i64 r_2),.h 2,.h 3]),(1,.sets r_1 none),(2,.map r_3),(3,.map r_4),(4,.box [.h 5,.val (.int .i64 r_2),.h 6,.h 7]),(5,.sets r.1 none),(6,.map r.2.1),(7,.map r.2.2)]:=by
 refine jfn (fn:=Tryz.f59) Tryz.func59 (jy (C0.eq_1 ..) ?_)
 refine jm 3 (hr:=?_)
 refine jb fun r_6 h_7=>?_
 refine jb fun r_8 h_9=>?_
 refine jw0 [cp 8 (N2 _ h_7) [(0,2),(1,4)] 5,cp 13 (N2 _ h_9) [(0,3),(1,5)] 6] (hr:=?_)
 refine jm 4 (hr:=?_)
 refine jg0 (.nilSets 6 0) (hr:=?_)
 refine jl (X:=((List (List Int))×Int)) (fun k x=>C0.l0 K r_1 r_6 r_8 k x.1 x.2) K (([]:List (List Int)),(0:Int)) rfl 12 [(11,7)] (fun x_23=>[(3,.c (.h 6)),(25,.c (.h 1)),(26,cI (lnI r_1)),(27,cI x_23.2)]) (fun x_23=>[(0,.box [.h 1,.val (.int .i64 r_2),.h 2,.h 3]),(1,.sets r_1 none),(2,.map r_3),(3,.map r_4),(4,.map r_6),(5,.map r_8),(6,.box [.h 11,.val (.int .i64 r_2),.h 4,.h 5]),(11,.sets x_23.1 none)]) (fun _=>rfl) (round:=fun k x_23=>jy (C0.l0.eq_2 ..) ?_)
 refine jm 3 (hr:=?_)
 refine jc (h1:=fun b_25=>?_) (h2:=fun b_25=>?_)
 ·refine ji 5 (hr:=fun c_26=>?_)
  refine jb fun r_27 h_28=>?_
  refine jwi [cp 6 (JU _ h_28) [(0,1),(1,12)] 13] [] (hr:=fun c_29=>?_)
  refine jm 2 (hr:=?_)
  refine jg0 (.absorb 14) (hr:=?_)
  exact jx ((x_23.1++[r_27]),(w6 (x_23.2+(1:Int)))) rfl [(11,15)]
 ·refine jq 0 (ql (qh ?_))
  refine jm 2 (hr:=?_)
  exact jt (rr [(4,6),(5,11),(6,4),(7,5)])
theorem HN {K e_1 e_2 e_3 e_4 e_5}:FS Tryz.prog 22 5 [.c (.h 0)] [(0,.box [.imm (.slice kAt) e_1,.h 1]),(1,.box [.h 2,.val (.int .i64 e_3),.h 3,.h 4]),(2,.sets e_2 none),(3,.map e_4),(4,.map e_5)] (E7 K e_1 e_2 e_3 e_4 e_5) (fun r=>.c (.h 5)) fun r=>[(0,.box [.imm (.slice kAt) e_1,.h 1]),(1,.box [.h 2,.val (.int .i64 e_3),.h 3,.h 4]),(2,.sets e_2 none),(3,.map e_4),(4,.map e_5),(5,.box [.imm (.slice kAt) r.1,.h 6]),(6,.box [.h 7,.val (.int .i64 e_3),.h 8,.h 9]),(7,.sets r.2.1 none),(8,.map r.2.2.1),(9,.map r.2.2.2)]:=by
 refine jfn (fn:=Tryz.f22) Tryz.func22 (jy (E7.eq_1 ..) ?_)
 refine jm 3 (hr:=?_)
 refine jb fun r_7 h_8=>?_
 refine jb fun r_9 h_10=>?_
 refine jw0 [cp 4 (EJ _ h_8) [(0,5)] 6,cp 9 (US _ h_10) [(0,1),(1,2),(2,3),(3,4),(4,6),(5,7),(6,8),(7,9)] 10] (hr:=?_)
 refine jg0 (.un 5) (hr:=?_)
 refine jg [.shut 11] ?_
 exact jt (rr [(5,10)])
theorem Y1 {K l_1}:FS Tryz.prog 75 0 [.c (.imm (.slice kP) l_1)] [] (IP K l_1) (fun r=>.c (.h 0)) fun r=>[(0,.row kP r)]:=by
 refine jfn (fn:=Tryz.f75) Tryz.func75 (jy (IP.eq_1 ..) ?_)
 refine ji 8 (hr:=fun c_2=>?_)
 exact jt (rr [])
theorem XR {K v_1 v_2 v_3 v_4 v_5 v_6 v_7 v_8 v_9}:FS Tryz.prog 35 6 [.c (.h 0)] [(0,.box [.h 1,.imm (.opt (.opt .node)) v_6,.imm (.slice kP) v_7,.imm (.slice kS) v_8,.imm (.slice (.int .i64)) v_9]),(1,.box [.imm (.slice kAt) v_1,.h 2]),(2,.box [.h 3,.val (.int .i64 v_3),.h 4,.h 5]),(3,.sets v_2 none),(4,.map v_4),(5,.map v_5)] (GZ K v_1 v_2 v_3 v_4 v_5 v_6 v_7 v_8 v_9) (fun r=>.c (.h 6)) fun r=>[(0,.box [.h 1,.imm (.opt (.opt .node)) v_6,.imm (.slice kP) v_7,.imm (.slice kS) v_8,.imm (.slice (.int .i64)) v_9]),(1,.box [.imm (.slice kAt) v_1,.h 2]),(2,.box [.h 3,.val (.int .i64 v_3),.h 4,.h 5]),(3,.sets v_2 none),(4,.map v_4),(5,.map v_5),(6,.row kP r)]:=by
 refine jfn (fn:=Tryz.f35) Tryz.func35 (jy (GZ.eq_1 ..) ?_)
 refine jm 3 (hr:=?_)
 refine jb fun r_11 h_12=>?_
 refine jr0 [cp 4 (Y1 _ h_12) [(0,6)] 7] (hr:=?_)
 exact jt (rr [])
theorem XZ {K l_1}:FS Tryz.prog 68 0 [.c (.imm (.slice kS) l_1)] [] (IQ K l_1) (fun r=>.c (.h 0)) fun r=>[(0,.row kS r)]:=by
 refine jfn (fn:=Tryz.f68) Tryz.func68 (jy (IQ.eq_1 ..) ?_)
 refine ji 8 (hr:=fun c_2=>?_)
 exact jt (rr [])
theorem PH {K v_1 v_2 v_3 v_4 v_5 v_6 v_7 v_8 v_9}:FS Tryz.prog 28 6 [.c (.h 0)] [(0,.box [.h 1,.imm (.opt (.opt .node)) v_6,.imm (.slice kP) v_7,.imm (.slice kS) v_8,.imm (.slice (.int .i64)) v_9]),(1,.box [.imm (.slice kAt) v_1,.h 2]),(2,.box [.h 3,.val (.int .i64 v_3),.h 4,.h 5]),(3,.sets v_2 none),(4,.map v_4),(5,.map v_5)] (FL K v_1 v_2 v_3 v_4 v_5 v_6 v_7 v_8 v_9) (fun r=>.c (.h 6)) fun r=>[(0,.box [.h 1,.imm (.opt (.opt .node)) v_6,.imm (.slice kP) v_7,.imm (.slice kS) v_8,.imm (.slice (.int .i64)) v_9]),(1,.box [.imm (.slice kAt) v_1,.h 2]),(2,.box [.h 3,.val (.int .i64 v_3),.h 4,.h 5]),(3,.sets v_2 none),(4,.map v_4),(5,.map v_5),(6,.row kS r)]:=by
 refine jfn (fn:=Tryz.f28) Tryz.func28 (jy (FL.eq_1 ..) ?_)
 refine jm 3 (hr:=?_)
 refine jb fun r_11 h_12=>?_
 refine jr0 [cp 4 (XZ _ h_12) [(0,6)] 7] (hr:=?_)
 exact jt (rr [])
theorem Y0 {K l_1}:FS Tryz.prog 76 0 [.c (.imm (.slice (.int .i64)) l_1)] [] (IR K l_1) (fun r=>.c (.h 0)) fun r=>[(0,.row (.int .i64) r)]:=by
 refine jfn (fn:=Tryz.f76) Tryz.func76 (jy (IR.eq_1 ..) ?_)
 refine ji 8 (hr:=fun c_2=>?_)
 exact jt (rr [])
theorem XN {K v_1 v_2 v_3 v_4 v_5 v_6 v_7 v_8 v_9}:FS Tryz.prog 37 6 [.c (.h 0)] [(0,.box [.h 1,.imm (.opt (.opt .node)) v_6,.imm (.slice kP) v_7,.imm (.slice kS) v_8,.imm (.slice (.int .i64)) v_9]),(1,.box [.imm (.slice kAt) v_1,.h 2]),(2,.box [.h 3,.val (.int .i64 v_3),.h 4,.h 5]),(3,.sets v_2 none),(4,.map v_4),(5,.map v_5)] (GW K v_1 v_2 v_3 v_4 v_5 v_6 v_7 v_8 v_9) (fun r=>.c (.h 6)) fun r=>[(0,.box [.h 1,.imm (.opt (.opt .node)) v_6,.imm (.slice kP) v_7,.imm (.slice kS) v_8,.imm (.slice (.int .i64)) v_9]),(1,.box [.imm (.slice kAt) v_1,.h 2]),(2,.box [.h 3,.val (.int .i64 v_3),.h 4,.h 5]),(3,.sets v_2 none),(4,.map v_4),(5,.map v_5),(6,.row (.int .i64) r)]:=by
 refine jfn (fn:=Tryz.f37) Tryz.func37 (jy (GW.eq_1 ..) ?_)
 refine jm 3 (hr:=?_)
 refine jb fun r_11 h_12=>?_
 refine jr0 [cp 4 (Y0 _ h_12) [(0,6)] 7] (hr:=?_)
 exact jt (rr [])
theorem L3 {K v_1 v_2 v_3 v_4 v_5 v_6 v_7 v_8 v_9}:FS Tryz.prog 62 6 [.c (.h 0)] [(0,.box [.h 1,.imm (.opt (.opt .node)) v_6,.imm (.slice kP) v_7,.imm (.slice kS) v_8,.imm (.slice (.int .i64)) v_9]),(1,.box [.imm (.slice kAt) v_1,.h 2]),(2,.box [.h 3,.val (.int .i64 v_3),.h 4,.h 5]),(3,.sets v_2 none),(4,.map v_4),(5,.map v_5)] (EH K v_1 v_2 v_3 v_4 v_5 v_6 v_7 v_8 v_9) (fun r=>.c (.h 6)) fun r=>[(0,.box [.h 1,.imm (.opt (.opt .node)) v_6,.imm (.slice kP) v_7,.imm (.slice kS) v_8,.imm (.slice (.int .i64)) v_9]),(1,.box [.imm (.slice kAt) v_1,.h 2]),(2,.box [.h 3,.val (.int .i64 v_3),.h 4,.h 5]),(3,.sets v_2 none),(4,.map v_4),(5,.map v_5),(6,.box [.h 7,.imm (.opt (.opt .node)) v_6,.imm (.slice kP) r.2.2.2.2.1,.imm (.slice kS) r.2.2.2.2.2.1,.imm (.slice (.int .i64)) r.2.2.2.2.2.2]),(7,.box [.imm (.slice kAt) r.1,.h 8]),(8,.box [.h 9,.val (.int .i64 v_3),.h 10,.h 11]),(9,.sets r.2.1 none),(10,.map r.2.2.1),(11,.map r.2.2.2.1)]:=by
 refine jfn (fn:=Tryz.f62) Tryz.func62 (jy (EH.eq_1 ..) ?_)
 refine jm 3 (hr:=?_)
 refine jb fun r_11 h_12=>?_
 refine jb fun r_13 h_14=>?_
 refine jb fun r_15 h_16=>?_
 refine jb fun r_17 h_18=>?_
 refine jw0 [cp 4 (HN _ h_12) [(0,1),(1,2),(2,3),(3,4),(4,5),(5,6),(6,7),(7,8),(8,9),(9,10)] 11,cp 10 (XR _ h_14) [(0,0),(1,1),(2,2),(3,3),(4,4),(5,5),(6,11)] 12,cp 12 (PH _ h_16) [(0,0),(1,1),(2,2),(3,3),(4,4),(5,5),(6,12)] 13,cp 14 (XN _ h_18) [(0,0),(1,1),(2,2),(3,3),(4,4),(5,5),(6,13)] 14] (hr:=?_)
 refine jg [.shut 11,.shut 12,.shut 13] ?_
 exact jt (rr [(6,14),(7,6),(8,7),(9,8),(10,9),(11,10)])
theorem LA {K}:FS Tryz.prog 63 0 [] [] (E0 K) (fun r=>.agg [.val (.bool r.1),.val (.bool r.2.1),.val (.bool r.2.2.1),.val (.bool r.2.2.2.1),.val (.bool r.2.2.2.2.1),.val (.bool r.2.2.2.2.2.1),.val (.bool r.2.2.2.2.2.2.1),.val (.bool r.2.2.2.2.2.2.2.1),.val (.bool r.2.2.2.2.2.2.2.2)]) fun r=>[]:=by
 refine jfn (fn:=Tryz.f63) Tryz.func63 (jy (E0.eq_1 ..) ?_)
 refine jm 4 (hr:=?_)
 exact jt (rr [])
theorem M4 {K c_1 c_2 c_3 p_4}:FS Tryz.prog 88 1 [.agg [.val (.int .i64 c_1),.val (.int .i64 c_2),.val (.string c_3)],.c (.h 0)] [(0,.box [.val (.string p_4)])] (G3 K c_1 c_2 c_3 p_4) (fun r=>cB r) fun r=>[(0,.box [.val (.string p_4)])]:=by
 refine jfn (fn:=Tryz.f88) Tryz.func88 (jy (G3.eq_1 ..) ?_)
 refine jm 3 (hr:=?_)
 refine js (fun b_6=>?_) fun b_6=>?_
 ·refine jr [] [(7,true)] [(decide (c_1<(0:Int)))=true] (ap1 b_6) (hr:=?_)
  exact jt (rr [])
 ·refine js (fun b_8=>?_) fun b_8=>?_
  ·refine jr [] [(7,false),(14,true)] [(decide (c_1<(0:Int)))=false,(decide (c_1 > c_2))=true] (ap2 b_6 (ap1 b_8)) (hr:=?_)
   exact jt (rr [])
  ·refine jr [] [(7,false),(14,false)] [(decide (c_1<(0:Int)))=false,(decide (c_1 > c_2))=false] (ap2 b_6 (ap1 b_8)) (hr:=?_)
   exact jt (rr [])
theorem RO {K e_2 wrong_3}:FS Tryz.prog 87 1 [.c (.val (.slice none 0 0)),cI e_2,.c (.clo 88 [0])] [(0,.box [.val (.string wrong_3)])] (B2 K ([]:(List (Int×(Int×ByteArray)))) e_2 wrong_3) (fun r=>cI r) fun r=>[(0,.box [.val (.string wrong_3)])]:=by
 refine jfn (fn:=Tryz.f87) Tryz.func87 (jy (B2.eq_1 ..) ?_)
 refine jm 6 (hr:=?_)
 refine jl (X:=Int) (fun k x=>B2.l0 K ([]:(List (Int×(Int×ByteArray)))) wrong_3 e_2 k x) K _ rfl 1 [] (fun x_6=>[(1,cI e_2),(2,.c (.clo 88 [0])),(9,.c (.val (.slice none 0 0))),(10,cI (lnI ([]:(List (Int×(Int×ByteArray)))))),(11,cI x_6)]) (fun x_6=>[(0,.box [.val (.string wrong_3)])]) (fun _=>rfl) (round:=fun k x_6=>jy (B2.l0.eq_2 ..) ?_)
 refine jm 3 (hr:=?_)
 refine jc (h1:=fun b_8=>?_) (h2:=fun b_8=>?_)
 ·refine ji 6 (hr:=fun c_9=>?_)
  refine jb fun r_10 h_11=>?_
  refine jr0 [cp 2 (M4 _ h_11) [(0,0)] 2] (hr:=?_)
  refine jc (h1:=fun b_13=>?_) (h2:=fun b_13=>?_)
  ·refine jm 2 (hr:=?_)
   exact jt (rl (rr []))
  ·refine jm 3 (hr:=?_)
   exact jx _ rfl []
 ·refine jq 0 (ql (qh ?_))
  refine jm 2 (hr:=?_)
  exact jt (rr [])
theorem B8 {K s_1 at_2}:FS Tryz.prog 86 0 [cS s_1,cI at_2] [] (B7 K s_1 at_2) (fun r=>cB r) fun r=>[]:=by
 refine jfn (fn:=Tryz.f86) Tryz.func86 (jy (B7.eq_1 ..) ?_)
 refine jm 3 (hr:=?_)
 refine js (fun b_4=>?_) fun b_4=>?_
 ·refine js (fun b_5=>?_) fun b_5=>?_
  ·refine js (fun b_6=>?_) fun b_6=>?_
   ·refine jb fun r_7 h_8=>?_
    refine jr [cp 23 (DY _ h_8) [] 0] [(7,true),(13,true),(18,true)] [(decide (at_2≥(0:Int)))=true,(decide (at_2≤(((ByteArray.size s_1):Nat):Int)))=true,(at_2==(((ByteArray.size s_1):Nat):Int))=true] (ap2 b_4 (ap2 b_5 (ap1 b_6))) (hr:=?_)
    exact jt (rr [])
   ·refine js (fun b_10=>?_) fun b_10=>?_
    ·refine jb fun r_11 h_12=>?_
     refine jp fun c_13=>?_
     refine jr [cp 23 (DY _ h_12) [] 0] [(7,true),(13,true),(18,false),(26,true)] [(decide (at_2≥(0:Int)))=true,(decide (at_2≤(((ByteArray.size s_1):Nat):Int)))=true,(at_2==(((ByteArray.size s_1):Nat):Int))=false,0≤at_2,at_2<(((ByteArray.size s_1):Nat):Int),((IntKind.wrap .u8 (BitVec.toNat (BitVec.ofInt (IntKind.bits .u8) (bt s_1 at_2)&&& BitVec.ofInt (IntKind.bits .u8) (192:Int)))) !=(128:Int))=true] (ap2 b_4 (ap2 b_5 (ap2 b_6 (ap2 c_13.1 (ap2 c_13.2 (ap1 b_10)))))) (hr:=?_)
     exact jt (rr [])
    ·refine jp fun c_14=>?_
     refine jr [] [(7,true),(13,true),(18,false),(26,false)] [(decide (at_2≥(0:Int)))=true,(decide (at_2≤(((ByteArray.size s_1):Nat):Int)))=true,(at_2==(((ByteArray.size s_1):Nat):Int))=false,0≤at_2,at_2<(((ByteArray.size s_1):Nat):Int),((IntKind.wrap .u8 (BitVec.toNat (BitVec.ofInt (IntKind.bits .u8) (bt s_1 at_2)&&& BitVec.ofInt (IntKind.bits .u8) (192:Int)))) !=(128:Int))=false] (ap2 b_4 (ap2 b_5 (ap2 b_6 (ap2 c_14.1 (ap2 c_14.2 (ap1 b_10)))))) (hr:=?_)
     exact jt (rr [])
  ·refine jr [] [(7,true),(13,false)] [(decide (at_2≥(0:Int)))=true,(decide (at_2≤(((ByteArray.size s_1):Nat):Int)))=false] (ap2 b_4 (ap1 b_5)) (hr:=?_)
   exact jt (rr [])
 ·refine jr [] [(7,false)] [(decide (at_2≥(0:Int)))=false] (ap1 b_4) (hr:=?_)
  exact jt (rr [])
theorem J9 {K at_1 p_2}:FS Tryz.prog 85 1 [cI at_1,.c (.h 0)] [(0,.box [.val (.string p_2)])] (G2 K at_1 p_2) (fun r=>cB r) fun r=>[(0,.box [.val (.string p_2)])]:=by
 refine jfn (fn:=Tryz.f85) Tryz.func85 (jy (G2.eq_1 ..) ?_)
 refine jm 3 (hr:=?_)
 refine jb fun r_4 h_5=>?_
 refine jr0 [cp 2 (B8 _ h_5) [] 1] (hr:=?_)
 exact jt (rr [])
theorem M5 {K c_1 c_2 c_3 p_4}:FS Tryz.prog 89 2 [.agg [.val (.int .i64 c_1),.val (.int .i64 c_2),.val (.string c_3)],.c (.h 0)] [(0,.box [.clo 85 [1]]),(1,.box [.val (.string p_4)])] (G4 K c_1 c_2 c_3 p_4) (fun r=>cB r) fun r=>[(0,.box [.clo 85 [1]]),(1,.box [.val (.string p_4)])]:=by
 refine jfn (fn:=Tryz.f89) Tryz.func89 (jy (G4.eq_1 ..) ?_)
 refine jm 3 (hr:=?_)
 refine jb fun r_6 h_7=>?_
 refine js (fun b_8=>?_) fun b_8=>?_
 ·refine jr [cp 3 (J9 _ h_7) [(0,1)] 3] [(9,true)] [(!r_6)=true] (ap1 b_8) (hr:=?_)
  exact jt (rr [])
 ·refine jb fun r_10 h_11=>?_
  refine jr [cp 3 (J9 _ h_7) [(0,1)] 3,cp 9 (J9 _ h_11) [(0,1)] 3] [(9,false)] [(!r_6)=false] (ap1 b_8) (hr:=?_)
  exact jt (rr [])
theorem RP {K e_2 wrong_3}:FS Tryz.prog 87 2 [.c (.val (.slice none 0 0)),cI e_2,.c (.clo 89 [0])] [(0,.box [.clo 85 [1]]),(1,.box [.val (.string wrong_3)])] (B3 K ([]:(List (Int×(Int×ByteArray)))) e_2 wrong_3) (fun r=>cI r) fun r=>[(0,.box [.clo 85 [1]]),(1,.box [.val (.string wrong_3)])]:=by
 refine jfn (fn:=Tryz.f87) Tryz.func87 (jy (B3.eq_1 ..) ?_)
 refine jm 6 (hr:=?_)
 refine jl (X:=Int) (fun k x=>B3.l0 K ([]:(List (Int×(Int×ByteArray)))) wrong_3 e_2 k x) K _ rfl 2 [] (fun x_6=>[(1,cI e_2),(2,.c (.clo 89 [0])),(9,.c (.val (.slice none 0 0))),(10,cI (lnI ([]:(List (Int×(Int×ByteArray)))))),(11,cI x_6)]) (fun x_6=>[(0,.box [.clo 85 [1]]),(1,.box [.val (.string wrong_3)])]) (fun _=>rfl) (round:=fun k x_6=>jy (B3.l0.eq_2 ..) ?_)
 refine jm 3 (hr:=?_)
 refine jc (h1:=fun b_8=>?_) (h2:=fun b_8=>?_)
 ·refine ji 6 (hr:=fun c_9=>?_)
  refine jb fun r_10 h_11=>?_
  refine jr0 [cp 2 (M5 _ h_11) [(0,0),(1,1)] 3] (hr:=?_)
  refine jc (h1:=fun b_13=>?_) (h2:=fun b_13=>?_)
  ·refine jm 2 (hr:=?_)
   exact jt (rl (rr []))
  ·refine jm 3 (hr:=?_)
   exact jx _ rfl []
 ·refine jq 0 (ql (qh ?_))
  refine jm 2 (hr:=?_)
  exact jt (rr [])
theorem RY {K}:FS Tryz.prog 90 0 [.c (.val (.slice none 0 0))] [] (AV K ([]:(List (Int×(Int×ByteArray))))) (fun r=>cI r) fun r=>[]:=by
 refine jfn (fn:=Tryz.f90) Tryz.func90 (jy (AV.eq_1 ..) ?_)
 refine jm 6 (hr:=?_)
 refine jl (X:=Int) (fun k x=>AV.l0 K ([]:(List (Int×(Int×ByteArray)))) k x) K _ rfl 0 [] (fun x_4=>[(0,.c (.val (.slice none 0 0))),(3,cI x_4)]) (fun x_4=>[]) (fun _=>rfl) (round:=fun k x_4=>jy (AV.l0.eq_2 ..) ?_)
 refine jm 3 (hr:=?_)
 refine jc (h1:=fun b_6=>?_) (h2:=fun b_6=>?_)
 ·refine jm 4 (hr:=?_)
  refine jp fun c_8=>?_
  refine jw [] [] [0≤(w6 (x_4 - (1:Int))),(w6 (x_4 - (1:Int)))<(lnI ([]:(List (Int×(Int×ByteArray))))),0≤(w6 (x_4 - (1:Int))),(w6 (x_4 - (1:Int)))<(lnI ([]:(List (Int×(Int×ByteArray))))),0≤(w6 (x_4 - (1:Int))),(w6 (x_4 - (1:Int)))<(lnI ([]:(List (Int×(Int×ByteArray))))),0≤(w6 (x_4 - (1:Int))),(w6 (x_4 - (1:Int)))<(lnI ([]:(List (Int×(Int×ByteArray))))),0≤x_4,x_4<(lnI ([]:(List (Int×(Int×ByteArray))))),0≤x_4,x_4<(lnI ([]:(List (Int×(Int×ByteArray))))),0≤x_4,x_4<(lnI ([]:(List (Int×(Int×ByteArray))))),0≤x_4,x_4<(lnI ([]:(List (Int×(Int×ByteArray))))),0≤x_4,x_4<(lnI ([]:(List (Int×(Int×ByteArray)))))] (ap2 c_8.1 (ap2 c_8.2.1 (ap2 c_8.1 (ap2 c_8.2.1 (ap2 c_8.1 (ap2 c_8.2.1 (ap2 c_8.1 (ap2 c_8.2.1 (ap2 c_8.2.2.1 (ap2 c_8.2.2.2 (ap2 c_8.2.2.1 (ap2 c_8.2.2.2 (ap2 c_8.2.2.1 (ap2 c_8.2.2.2 (ap2 c_8.2.2.1 (ap2 c_8.2.2.2 (ap2 c_8.2.2.1 (ap1 c_8.2.2.2)))))))))))))))))) (hr:=?_)
  refine jm 1 (hr:=?_)
  refine ja (Y:=Bool) 2 (fun y_23=>[(0,.c (.val (.slice none 0 0))),(3,cI x_4),(39,cB y_23)]) (fun y_23=>[]) (h1:=?_) (h2:=fun y_23=>?_)
  ·refine js (fun b_10=>?_) fun b_10=>?_
   ·refine jr [] [(26,true)] [(decide ((List.getD ([]:(List (Int×(Int×ByteArray)))) (Int.toNat x_4) zE).1<(List.getD ([]:(List (Int×(Int×ByteArray)))) (Int.toNat (w6 (x_4 - (1:Int)))) zE).2.1))=true] (ap1 b_10) (hr:=?_)
    exact jo []
   ·refine js (fun b_12=>?_) fun b_12=>?_
    ·refine jr [] [(26,false),(32,true)] [(decide ((List.getD ([]:(List (Int×(Int×ByteArray)))) (Int.toNat x_4) zE).1<(List.getD ([]:(List (Int×(Int×ByteArray)))) (Int.toNat (w6 (x_4 - (1:Int)))) zE).2.1))=false,((List.getD ([]:(List (Int×(Int×ByteArray)))) (Int.toNat (w6 (x_4 - (1:Int)))) zE).1==(List.getD ([]:(List (Int×(Int×ByteArray)))) (Int.toNat x_4) zE).1)=true] (ap2 b_10 (ap1 b_12)) (hr:=?_)
     exact jo []
    ·refine jr [] [(26,false),(32,false)] [(decide ((List.getD ([]:(List (Int×(Int×ByteArray)))) (Int.toNat x_4) zE).1<(List.getD ([]:(List (Int×(Int×ByteArray)))) (Int.toNat (w6 (x_4 - (1:Int)))) zE).2.1))=false,((List.getD ([]:(List (Int×(Int×ByteArray)))) (Int.toNat (w6 (x_4 - (1:Int)))) zE).1==(List.getD ([]:(List (Int×(Int×ByteArray)))) (Int.toNat x_4) zE).1)=false] (ap2 b_10 (ap1 b_12)) (hr:=?_)
     exact jo []
  ·refine jc (h1:=fun b_16=>?_) (h2:=fun b_16=>?_)
   ·refine jm 2 (hr:=?_)
    exact jt (rl (rr []))
   ·refine jm 3 (hr:=?_)
    exact jx _ rfl []
 ·refine jq 0 (ql (qh ?_))
  refine jm 2 (hr:=?_)
  exact jt (rr [])
theorem M6 {K c_1 c_2 c_3}:FS Tryz.prog 91 0 [.agg [.val (.int .i64 c_1),.val (.int .i64 c_2),.val (.string c_3)]] [] (HI K c_1 c_2 c_3) (fun r=>cB r) fun r=>[]:=by
 refine jfn (fn:=Tryz.f91) Tryz.func91 (jy (HI.eq_1 ..) ?_)
 refine jm 3 (hr:=?_)
 refine jb fun r_5 h_6=>?_
 refine jr0 [cp 2 (DY _ h_6) [] 1] (hr:=?_)
 exact jt (rr [])
theorem RQ {K e_2}:FS Tryz.prog 87 0 [.c (.val (.slice none 0 0)),cI e_2,.c (.clo 91 [])] [] (B4 K ([]:(List (Int×(Int×ByteArray)))) e_2) (fun r=>cI r) fun r=>[]:=by
 refine jfn (fn:=Tryz.f87) Tryz.func87 (jy (B4.eq_1 ..) ?_)
 refine jm 6 (hr:=?_)
 refine jl (X:=Int) (fun k x=>B4.l0 K ([]:(List (Int×(Int×ByteArray)))) e_2 k x) K _ rfl 0 [] (fun x_5=>[(1,cI e_2),(2,.c (.clo 91 [])),(9,.c (.val (.slice none 0 0))),(10,cI (lnI ([]:(List (Int×(Int×ByteArray)))))),(11,cI x_5)]) (fun x_5=>[]) (fun _=>rfl) (round:=fun k x_5=>jy (B4.l0.eq_2 ..) ?_)
 refine jm 3 (hr:=?_)
 refine jc (h1:=fun b_7=>?_) (h2:=fun b_7=>?_)
 ·refine ji 6 (hr:=fun c_8=>?_)
  refine jb fun r_9 h_10=>?_
  refine jr0 [cp 2 (M6 _ h_10) [] 1] (hr:=?_)
  refine jc (h1:=fun b_12=>?_) (h2:=fun b_12=>?_)
  ·refine jm 2 (hr:=?_)
   exact jt (rl (rr []))
  ·refine jm 3 (hr:=?_)
   exact jx _ rfl []
 ·refine jq 0 (ql (qh ?_))
  refine jm 2 (hr:=?_)
  exact jt (rr [])
theorem RW {K s_1}:FS Tryz.prog 92 0 [cS s_1,.c (.val (.slice none 0 0))] [] (AC K s_1 ([]:(List (Int×(Int×ByteArray))))) (fun r=>cI r) fun r=>[]:=by
 refine jfn (fn:=Tryz.f92) Tryz.func92 (jy (AC.eq_1 ..) ?_)
 refine jm 7 (hr:=?_)
 refine ja (Y:=Int) 0 (fun y_33=>[(1,.c (.val (.slice none 0 0))),(5,cI y_33)]) (fun y_33=>[]) (h1:=?_) (h2:=fun y_33=>?_)
 ·refine jm 1 (hr:=?_)
  refine jl (X:=(Int×Int)) (fun k x=>AC.l0 K ([]:(List (Int×(Int×ByteArray)))) s_1 k x.1 x.2) K ((w6 ((20000:Int) - (((ByteArray.size s_1):Nat):Int))),(0:Int)) rfl 0 [] (fun x_7=>[(0,cS s_1),(1,.c (.val (.slice none 0 0))),(5,cI x_7.1),(13,.c (.val (.slice none 0 0))),(14,cI (lnI ([]:(List (Int×(Int×ByteArray)))))),(15,cI x_7.2)]) (fun x_7=>[]) (fun _=>rfl) (round:=fun k x_7=>jy (AC.l0.eq_2 ..) ?_)
  refine jm 3 (hr:=?_)
  refine jc (h1:=fun b_9=>?_) (h2:=fun b_9=>?_)
  ·refine ji 6 (hr:=fun c_10=>?_)
   refine jm 2 (hr:=?_)
   exact jx ((w6 (x_7.1+(mn2 (mx2 (w6 ((List.getD ([]:(List (Int×(Int×ByteArray)))) (Int.toNat x_7.2) zE).2.1 - (List.getD ([]:(List (Int×(Int×ByteArray)))) (Int.toNat x_7.2) zE).1)) (0:Int)) (((ByteArray.size s_1):Nat):Int)))),(w6 (x_7.2+(1:Int)))) rfl []
  ·refine jq 0 (ql (qh ?_))
   exact jo []
 ·refine jm 3 (hr:=?_)
  refine ja2 (Y:=Int) 0 (fun y_34=>[(5,cI y_34)]) (fun y_34=>[]) (h1:=?_) (h2:=fun y_34=>?_)
  ·refine jm 1 (hr:=?_)
   refine jl (X:=(Int×Int)) (fun k x=>AC.l1 K ([]:(List (Int×(Int×ByteArray)))) k x.1 x.2) K (y_33,(0:Int)) rfl 0 [] (fun x_17=>[(5,cI x_17.1),(31,.c (.val (.slice none 0 0))),(32,cI (lnI ([]:(List (Int×(Int×ByteArray)))))),(33,cI x_17.2)]) (fun x_17=>[]) (fun _=>rfl) (round:=fun k x_17=>jy (AC.l1.eq_2 ..) ?_)
   refine jm 3 (hr:=?_)
   refine jc (h1:=fun b_19=>?_) (h2:=fun b_19=>?_)
   ·refine ji 8 (hr:=fun c_20=>?_)
    refine jc (h1:=fun b_21=>?_) (h2:=fun b_21=>?_)
    ·refine jm 2 (hr:=?_)
     exact jt (rl (rc (rr [])))
    ·refine jm 4 (hr:=?_)
     exact jx ((w6 (x_17.1 - (((ByteArray.size (List.getD ([]:(List (Int×(Int×ByteArray)))) (Int.toNat x_17.2) zE).2.2):Nat):Int))),(w6 (x_17.2+(1:Int)))) rfl []
   ·refine jq 2 (ql (qh ?_))
    exact jo []
  ·refine jm 3 (hr:=?_)
   refine jc (h1:=fun b_26=>?_) (h2:=fun b_26=>?_)
   ·refine jm 2 (hr:=?_)
    exact jt (rr [])
   ·refine jm 3 (hr:=?_)
    exact jt (rr [])
theorem HJ {K s_1}:FS Tryz.prog 52 0 [cS s_1,.c (.val (.slice none 0 0))] [] (AN K s_1 ([]:(List (Int×(Int×ByteArray))))) (fun r=>cI r) fun r=>[]:=by
 refine jfn (fn:=Tryz.f52) Tryz.func52 (jy (AN.eq_1 ..) ?_)
 refine jm 5 (hr:=?_)
 refine jb fun r_4 h_5=>?_
 refine jr0 [cp 1 (DY _ h_5) [] 1] (hr:=?_)
 refine jc (h1:=fun b_7=>?_) (h2:=fun b_7=>?_)
 ·refine jm 2 (hr:=?_)
  exact jt (rr [])
 ·refine jm 2 (hr:=?_)
  refine jc (h1:=fun b_10=>?_) (h2:=fun b_10=>?_)
  ·refine jm 2 (hr:=?_)
   exact jt (rr [])
  ·refine jm 6 (hr:=?_)
   refine jb fun r_13 h_14=>?_
   refine jb fun r_15 h_16=>?_
   refine jb fun r_17 h_18=>?_
   refine jb fun r_19 h_20=>?_
   refine jb fun r_21 h_22=>?_
   refine jw0 [cp 2 (RO _ h_14) [(0,0)] 2,cp 5 (RP _ h_16) [(0,1),(1,0)] 2,cp 7 (RY _ h_18) [] 2,cp 9 (RQ _ h_20) [] 2,cp 12 (RW _ h_22) [] 2] (hr:=?_)
   refine jm 1 (hr:=?_)
   refine jl (X:=Int) (fun k x=>AN.l0 K r_13 r_15 r_17 r_19 r_21 k x) K _ rfl 3 [] (fun x_26=>[(30,.c (.h 2)),(31,cI (lnI ([r_13,r_15,r_17,r_19,r_21]:List Int))),(32,cI x_26)]) (fun x_26=>[(2,.row (.int .i64) ([r_13,r_15,r_17,r_19,r_21]:List Int))]) (fun _=>rfl) (round:=fun k x_26=>jy (AN.l0.eq_2 ..) ?_)
   refine jm 3 (hr:=?_)
   refine jc (h1:=fun b_28=>?_) (h2:=fun b_28=>?_)
   ·refine ji 7 (hr:=fun c_29=>?_)
    refine jc (h1:=fun b_30=>?_) (h2:=fun b_30=>?_)
    ·refine jm 2 (hr:=?_)
     exact jt (rl (rr []))
    ·refine jm 3 (hr:=?_)
     exact jx _ rfl []
   ·refine jq 1 (ql (qh ?_))
    refine jm 2 (hr:=?_)
    exact jt (rr [])
theorem NY {K r_1 r_2 r_3 r_4}:FS Tryz.prog 93 4 [.c (.h 0)] [(0,.box [.h 1,.val (.int .i64 r_2),.h 2,.h 3]),(1,.sets r_1 none),(2,.map r_3),(3,.map r_4)] (DP K r_1 r_2 r_3 r_4) (fun r=>.tup [(false,[.val (.map none)]),(false,[.val (.int .i64 (70:Int))])]) fun r=>[(0,.box [.h 1,.val (.int .i64 r_2),.h 2,.h 3]),(1,.sets r_1 none),(2,.map r_3),(3,.map r_4)]:=by
 refine jfn (fn:=Tryz.f93) Tryz.func93 (jy (DP.eq_1 ..) ?_)
 refine jm 4 (hr:=?_)
 refine jb fun r_6 h_7=>?_
 refine jr0 [cp 1 (F4 _ h_7) [(0,0),(1,1),(2,2),(3,3)] 4] (hr:=?_)
 refine jc (h1:=fun b_9=>?_) (h2:=fun b_9=>?_)
 ·refine jm 2 (hr:=?_)
  exact jt (rr [])
 ·refine jm 2 (hr:=?_)
  refine jb fun r_12 h_13=>?_
  refine jwi [cp 12 (JU _ h_13) [(0,1),(1,4)] 5] [] (hr:=fun c_14=>?_)
  refine ji 4 (hr:=fun c_15=>?_)
  exact jd
theorem NZ {K r_1 r_2 r_3 r_4}:FS Tryz.prog 93 4 [.c (.h 0)] [(0,.box [.h 1,.val (.int .i64 r_2),.h 2,.h 3]),(1,.sets r_1 none),(2,.map r_3),(3,.map r_4)] (F7 K r_1 r_2 r_3 r_4) (fun r=>.tup [(false,[.h 4]),(false,[.val (.int .i64 (0:Int))])]) fun r=>[(0,.box [.h 5,.val (.int .i64 r_2),.h 2,.h 3]),(2,.map r_3),(3,.map r_4),(4,.map r.1),(5,.sets r.2 (some 4))]:=by
 refine jfn (fn:=Tryz.f93) Tryz.func93 (jy (F7.eq_1 ..) ?_)
 refine jm 4 (hr:=?_)
 refine jb fun r_6 h_7=>?_
 refine jr0 [cp 1 (F4 _ h_7) [(0,0),(1,1),(2,2),(3,3)] 4] (hr:=?_)
 refine jc (h1:=fun b_9=>?_) (h2:=fun b_9=>?_)
 ·refine jm 2 (hr:=?_)
  exact jd
 ·refine jm 2 (hr:=?_)
  refine jb fun r_12 h_13=>?_
  refine jwi [cp 12 (JU _ h_13) [(0,1),(1,4)] 5] [] (hr:=fun c_14=>?_)
  refine ji 4 (hr:=fun c_15=>?_)
  exact jt (rr [(5,6)])
theorem UU {K r_1 r_2 r_3 r_4 r_5}:FS Tryz.prog 79 5 [.c (.h 0)] [(0,.box [.h 1,.val (.int .i64 r_3),.h 3,.h 4]),(1,.sets r_1 (some 2)),(2,.map r_2),(3,.map r_4),(4,.map r_5)] (I8 K r_1 r_2 r_3 r_4 r_5) (fun r=>cI r.1) fun r=>[(0,.box [.h 5,.val (.int .i64 r_3),.h 3,.h 4]),(3,.map r_4),(4,.map r_5),(5,.sets r.2 none)]:=by
 refine jfn (fn:=Tryz.f79) Tryz.func79 (jy (I8.eq_1 ..) ?_)
 refine jm 3 (hr:=?_)
 refine jw0 [] (hr:=?_)
 refine jg0 (.absorb 1) (hr:=?_)
 exact jt (rr [])
theorem NU {K r_1 r_2 r_3 r_4 group_5}:FS Tryz.prog 53 4 [.c (.h 0),cI group_5] [(0,.box [.h 1,.val (.int .i64 r_2),.h 2,.h 3]),(1,.sets r_1 none),(2,.map r_3),(3,.map r_4)] (GM K r_1 r_2 r_3 r_4 group_5) (fun r=>.tup [(false,[.val (.int .i64 r.1)]),(false,[.val (.int .i64 r.2.1)])]) fun r=>[(0,.box [.h 4,.val (.int .i64 r_2),.h 2,.h 3]),(2,.map r.2.2.2),(3,.map r_4),(4,.sets r.2.2.1 none)]:=by
 refine jfn (fn:=Tryz.f53) Tryz.func53 (jy (GM.eq_1 ..) ?_)
 refine jm 6 (hr:=?_)
 refine ja (Y:=Bool) 5 (fun y_35=>[(0,.c (.h 0)),(1,cI group_5),(27,cB y_35)]) (fun y_35=>[(0,.box [.h 1,.val (.int .i64 r_2),.h 2,.h 3]),(1,.sets r_1 none),(2,.map r_3),(3,.map r_4)]) (h1:=?_) (h2:=fun y_35=>?_)
 ·refine js (fun b_7=>?_) fun b_7=>?_
  ·refine jr [] [(20,true)] [(List.contains r_4 group_5)=true] (ap1 b_7) (hr:=?_)
   exact jo []
  ·refine js (fun b_9=>?_) fun b_9=>?_
   ·refine jr [] [(20,false),(24,true)] [(List.contains r_4 group_5)=false,(decide (group_5<(0:Int)))=true] (ap2 b_7 (ap1 b_9)) (hr:=?_)
    exact jo []
   ·refine jr [] [(20,false),(24,false)] [(List.contains r_4 group_5)=false,(decide (group_5<(0:Int)))=false] (ap2 b_7 (ap1 b_9)) (hr:=?_)
    exact jo []
 ·refine jc (h1:=fun b_13=>?_) (h2:=fun b_13=>?_)
  ·refine jm 2 (hr:=?_)
   exact jt (rr [(4,1)])
  ·refine jm 3 (hr:=?_)
   refine js (fun b_18=>?_) fun b_18=>?_
   ·refine jb fun r_19 h_20=>?_
    refine jr0 [cp 1 (NY _ h_20) [(0,0),(1,1),(2,2),(3,3)] 5] (hr:=?_)
    refine jm 5 (hr:=?_)
    exact jt (rr [(4,1)])
   ·refine jb fun r_23 h_24=>?_
    refine jr0 [cp 1 (NZ _ h_24) [(0,0),(1,1),(2,2),(3,3),(4,5),(5,6)] 7] (hr:=?_)
    refine ji 7 (hr:=fun c_26=>?_)
    refine jb fun r_27 h_28=>?_
    refine jr0 [cp 1 (UU _ h_28) [(0,0),(1,6),(2,5),(3,2),(4,3),(5,7)] 8] (hr:=?_)
    exact jt (rr [(4,7)])
theorem H6 {K l_1 rev_2 undone_3}:FS Tryz.prog 139 1 [.c (.imm (.slice kAt) l_1),cI rev_2,.c (.h 0)] [(0,.row (.int .i64) undone_3)] (BG K l_1 rev_2 undone_3) (fun r=>.c (.h 1)) fun r=>[(0,.row (.int .i64) undone_3),(1,.row (.int .i64) r)]:=by
 refine jfn (fn:=Tryz.f139) Tryz.func139 (jy (BG.eq_1 ..) ?_)
 refine jp fun c_4=>?_
 refine jn 9 [(0:Int)≤(0:Int),(0:Int)≤(w6 ((lnI l_1)+(1:Int))),(w6 ((lnI l_1)+(1:Int))) * 8≤(140737488355328:Int),(w6 ((lnI l_1)+(1:Int)))≤(9223372036854775807:Int)] (ap2 (by decide) (ap2 c_4.1 (ap2 c_4.2.1 (ap1 c_4.2.2)))) (hr:=?_)
 refine jm 1 (hr:=?_)
 refine jl (X:=((List Int)×Int×Int)) (fun k x=>BG.l0 K l_1 rev_2 undone_3 k x.1 x.2.1 x.2.2) K ((List.replicate 0 (0:Int)),(0:Int),(0:Int)) rfl 6 [(5,1)] (fun x_20=>[(1,cI rev_2),(2,.c (.h 0)),(7,.c (.h 5)),(8,cI x_20.2.1),(15,.c (.imm (.slice kAt) l_1)),(16,cI (lnI l_1)),(17,cI x_20.2.2)]) (fun x_20=>[(0,.row (.int .i64) undone_3),(5,.row (.int .i64) x_20.1)]) (fun _=>rfl) (round:=fun k x_20=>jy (BG.l0.eq_2 ..) ?_)
 refine jm 3 (hr:=?_)
 refine jc (h1:=fun b_22=>?_) (h2:=fun b_22=>?_)
 ·refine ji 8 (hr:=fun c_23=>?_)
  refine jb fun r_24 h_25=>?_
  refine jr0 [cp 3 (E2 _ h_25) [(0,0)] 9] (hr:=?_)
  refine jc (h1:=fun b_27=>?_) (h2:=fun b_27=>?_)
  ·refine jm 3 (hr:=?_)
   exact jx ((x_20.1++([x_20.2.1]:List Int)),(w6 (x_20.2.1+(((ByteArray.size (List.getD l_1 (Int.toNat x_20.2.2) zAt).1):Nat):Int))),(w6 (x_20.2.2+(1:Int)))) rfl [(5,8)]
  ·refine jm 3 (hr:=?_)
   exact jx ((x_20.1++([x_20.2.1]:List Int)),x_20.2.1,(w6 (x_20.2.2+(1:Int)))) rfl [(5,8)]
 ·refine jq 0 (ql (qh ?_))
  refine ji 2 (hr:=fun c_30=>?_)
  exact jt (rr [(1,7)])
theorem M9 {K l_1 places_2 rev_3 undone_4 from_5 rank_6}:FS Tryz.prog 140 2 [.c (.imm (.slice kAt) l_1),.c (.h 0),cI rev_3,.c (.h 1),cI from_5,cI rank_6] [(0,.row (.int .i64) places_2),(1,.row (.int .i64) undone_4)] (AJ K l_1 places_2 rev_3 undone_4 from_5 rank_6) (fun r=>cI r) fun r=>[(0,.row (.int .i64) places_2),(1,.row (.int .i64) undone_4)]:=by
 refine jfn (fn:=Tryz.f140) Tryz.func140 (jy (AJ.eq_1 ..) ?_)
 refine jm 7 (hr:=?_)
 refine ja (Y:=Int) 2 (fun y_44=>[(0,.c (.imm (.slice kAt) l_1)),(2,cI rev_3),(5,cI rank_6),(13,cI y_44)]) (fun y_44=>[(0,.row (.int .i64) places_2),(1,.row (.int .i64) undone_4)]) (h1:=?_) (h2:=fun y_44=>?_)
 ·refine jm 1 (hr:=?_)
  refine jl (X:=(Int×Int)) (fun k x=>AJ.l0 K l_1 places_2 from_5 rev_3 undone_4 k x.1 x.2) K zP rfl 2 [] (fun x_11=>[(0,.c (.imm (.slice kAt) l_1)),(1,.c (.h 0)),(2,cI rev_3),(3,.c (.h 1)),(4,cI from_5),(5,cI rank_6),(13,cI x_11.1),(16,.c (.imm (.slice kAt) l_1)),(17,cI (lnI l_1)),(18,cI x_11.2)]) (fun x_11=>[(0,.row (.int .i64) places_2),(1,.row (.int .i64) undone_4)]) (fun _=>rfl) (round:=fun k x_11=>jy (AJ.l0.eq_2 ..) ?_)
  refine jm 3 (hr:=?_)
  refine jc (h1:=fun b_13=>?_) (h2:=fun b_13=>?_)
  ·refine ji 6 (hr:=fun c_14=>?_)
   refine ja (Y:=Bool) 3 (fun y_45=>[(0,.c (.imm (.slice kAt) l_1)),(1,.c (.h 0)),(2,cI rev_3),(3,.c (.h 1)),(4,cI from_5),(5,cI rank_6),(13,cI x_11.1),(14,cI x_11.2),(16,.c (.imm (.slice kAt) l_1)),(17,cI (lnI l_1)),(18,cI x_11.2),(34,cB y_45)]) (fun y_45=>[(0,.row (.int .i64) places_2),(1,.row (.int .i64) undone_4)]) (h1:=?_) (h2:=fun y_45=>?_)
   ·refine js (fun b_15=>?_) fun b_15=>?_
    ·refine jb fun r_16 h_17=>?_
     refine jp fun c_18=>?_
     refine jr [cp 10 (E2 _ h_17) [(0,1)] 3] [(29,true)] [0≤x_11.2,x_11.2<(lnI places_2),(decide ((List.getD places_2 (Int.toNat x_11.2) (0:Int))<from_5))=true] (ap2 c_14.1 (ap2 c_18 (ap1 b_15))) (hr:=?_)
     exact jo []
    ·refine jp fun c_19=>?_
     refine jr [] [(29,false)] [0≤x_11.2,x_11.2<(lnI places_2),(decide ((List.getD places_2 (Int.toNat x_11.2) (0:Int))<from_5))=false] (ap2 c_14.1 (ap2 c_19 (ap1 b_15))) (hr:=?_)
     exact jo []
   ·refine jc (h1:=fun b_21=>?_) (h2:=fun b_21=>?_)
    ·refine jm 3 (hr:=?_)
     exact jx ((w6 (x_11.2+(1:Int))),(w6 (x_11.2+(1:Int)))) rfl []
    ·refine jm 3 (hr:=?_)
     exact jx (x_11.1,(w6 (x_11.2+(1:Int)))) rfl []
  ·refine jq 0 (ql (qh ?_))
   exact jo []
 ·refine jm 2 (hr:=?_)
  refine jl (X:=Int) (fun k x=>AJ.l1 K l_1 rev_3 rank_6 k x) K _ rfl 2 [] (fun x_27=>[(0,.c (.imm (.slice kAt) l_1)),(2,cI rev_3),(5,cI rank_6),(13,cI x_27)]) (fun x_27=>[(0,.row (.int .i64) places_2),(1,.row (.int .i64) undone_4)]) (fun _=>rfl) (round:=fun k x_27=>jy (AJ.l1.eq_2 ..) ?_)
  refine jm 2 (hr:=?_)
  refine ja (Y:=Bool) 2 (fun y_46=>[(0,.c (.imm (.slice kAt) l_1)),(2,cI rev_3),(5,cI rank_6),(13,cI x_27),(59,cB y_46)]) (fun y_46=>[(0,.row (.int .i64) places_2),(1,.row (.int .i64) undone_4)]) (h1:=?_) (h2:=fun y_46=>?_)
  ·refine js (fun b_29=>?_) fun b_29=>?_
   ·refine js (fun b_30=>?_) fun b_30=>?_
    ·refine jp fun c_31=>?_
     refine jr [] [(42,true),(51,true)] [(decide (x_27<(lnI l_1)))=true,0≤x_27,x_27<(lnI l_1),(decide ((List.getD l_1 (Int.toNat x_27) zAt).2.1 > rev_3))=true,0≤x_27,x_27<(lnI l_1)] (ap2 b_29 (ap2 c_31.1 (ap2 c_31.2 (ap2 b_30 (ap2 c_31.1 (ap1 c_31.2)))))) (hr:=?_)
     exact jo []
    ·refine jp fun c_32=>?_
     refine jr [] [(42,true),(51,false)] [(decide (x_27<(lnI l_1)))=true,0≤x_27,x_27<(lnI l_1),(decide ((List.getD l_1 (Int.toNat x_27) zAt).2.1 > rev_3))=false] (ap2 b_29 (ap2 c_32.1 (ap2 c_32.2 (ap1 b_30)))) (hr:=?_)
     exact jo []
   ·refine jr [] [(42,false)] [(decide (x_27<(lnI l_1)))=false] (ap1 b_29) (hr:=?_)
    exact jo []
  ·refine jc (h1:=fun b_35=>?_) (h2:=fun b_35=>?_)
   ·refine jm 4 (hr:=?_)
    exact jx _ rfl []
   ·refine jq 2 (ql (qh ?_))
    refine jm 2 (hr:=?_)
    exact jt (rr [])
theorem RK {K l_1 rev_2 undone_3 rank_5}:FS Tryz.prog 94 1 [.c (.imm (.slice kAt) l_1),cI rev_2,.c (.h 0),.c (.val (.slice none 0 0)),cI rank_5] [(0,.row (.int .i64) undone_3)] (B1 K l_1 rev_2 undone_3 ([]:(List (Int×(Int×ByteArray)))) rank_5) (fun r=>.c (.h 1)) fun r=>[(0,.row (.int .i64) undone_3),(1,.row (.int .i64) r)]:=by
 refine jfn (fn:=Tryz.f94) Tryz.func94 (jy (B1.eq_1 ..) ?_)
 refine jm 4 (hr:=?_)
 refine jb fun r_7 h_8=>?_
 refine jb fun r_9 h_10=>?_
 refine jr0 [cp 3 (E1 _ h_8) [(0,0)] 1,cp 5 (HJ _ h_10) [] 1] (hr:=?_)
 refine jc (h1:=fun b_12=>?_) (h2:=fun b_12=>?_)
 ·refine jm 2 (hr:=?_)
  refine jg [.nilSlot 10 (.int .i64)] ?_
  exact jt (rr [])
 ·refine jm 2 (hr:=?_)
  refine jb fun r_15 h_16=>?_
  refine jr0 [cp 3 (H6 _ h_16) [(0,0),(1,1)] 2] (hr:=?_)
  refine jm 6 (hr:=?_)
  refine jg [.nilSlot 12 (.int .i64)] ?_
  refine jl (X:=((List Int)×Int)) (fun k x=>B1.l0 K ([]:(List (Int×(Int×ByteArray)))) l_1 r_15 rev_2 undone_3 rank_5 k x.1 x.2) K (([]:List Int),(0:Int)) rfl 7 [(6,2)] (fun x_30=>[(0,.c (.imm (.slice kAt) l_1)),(1,cI rev_2),(2,.c (.h 0)),(4,cI rank_5),(11,.c (.h 1)),(12,.c (.h 6)),(26,.c (.val (.slice none 0 0))),(27,cI (lnI ([]:(List (Int×(Int×ByteArray)))))),(28,cI x_30.2)]) (fun x_30=>[(0,.row (.int .i64) undone_3),(1,.row (.int .i64) r_15),(6,.row (.int .i64) x_30.1)]) (fun _=>rfl) (round:=fun k x_30=>jy (B1.l0.eq_2 ..) ?_)
  refine jm 3 (hr:=?_)
  refine jc (h1:=fun b_32=>?_) (h2:=fun b_32=>?_)
  ·refine ji 5 (hr:=fun c_33=>?_)
   refine jb fun r_34 h_35=>?_
   refine jri [cp 8 (M9 _ h_35) [(0,1),(1,0)] 8] [] (hr:=fun c_36=>?_)
   refine jm 2 (hr:=?_)
   exact jx ((x_30.1++([r_34]:List Int)),(w6 (x_30.2+(1:Int)))) rfl [(6,9)]
  ·refine jq 0 (ql (qh ?_))
   refine jm 2 (hr:=?_)
   exact jt (rr [(1,6)])
theorem RI {K l_1 rev_2 undone_3}:FS Tryz.prog 95 1 [.c (.imm (.slice kAt) l_1),cI rev_2,.c (.h 0),.c (.val (.slice none 0 0))] [(0,.row (.int .i64) undone_3)] (AB K l_1 rev_2 undone_3 ([]:(List (Int×(Int×ByteArray))))) (fun r=>.c (.h 1)) fun r=>[(0,.row (.int .i64) undone_3),(1,.row (.int .i64) r)]:=by
 refine jfn (fn:=Tryz.f95) Tryz.func95 (jy (AB.eq_1 ..) ?_)
 refine jm 5 (hr:=?_)
 refine jb fun r_6 h_7=>?_
 refine jb fun r_8 h_9=>?_
 refine jr0 [cp 3 (E1 _ h_7) [(0,0)] 1,cp 5 (HJ _ h_9) [] 1] (hr:=?_)
 refine jc (h1:=fun b_11=>?_) (h2:=fun b_11=>?_)
 ·refine jm 2 (hr:=?_)
  refine jg [.nilSlot 8 (.int .i64)] ?_
  exact jt (rr [])
 ·refine jm 2 (hr:=?_)
  refine jb fun r_14 h_15=>?_
  refine jr0 [cp 3 (H6 _ h_15) [(0,0),(1,1)] 2] (hr:=?_)
  refine jm 8 (hr:=?_)
  refine jg [.nilSlot 10 (.int .i64)] ?_
  refine jl (X:=((List Int)×Int)) (fun k x=>AB.l0 K l_1 rev_2 undone_3 ([]:(List (Int×(Int×ByteArray)))) r_14 k x.1 x.2) K (([]:List Int),(0:Int)) rfl 9 [(8,2)] (fun x_47=>[(1,cI rev_2),(2,.c (.h 0)),(3,.c (.val (.slice none 0 0))),(9,.c (.h 1)),(10,.c (.h 8)),(26,.c (.imm (.slice kAt) l_1)),(27,cI (lnI l_1)),(28,cI x_47.2)]) (fun x_47=>[(0,.row (.int .i64) undone_3),(1,.row (.int .i64) r_14),(8,.row (.int .i64) x_47.1)]) (fun _=>rfl) (round:=fun k x_47=>jy (AB.l0.eq_2 ..) ?_)
  refine jm 3 (hr:=?_)
  refine jc (h1:=fun b_49=>?_) (h2:=fun b_49=>?_)
  ·refine jm 2 (hr:=?_)
   refine ja (Y:=(List Int)) 14 (fun y_79=>[(1,cI rev_2),(2,.c (.h 0)),(3,.c (.val (.slice none 0 0))),(9,.c (.h 1)),(10,.c (.h 13)),(26,.c (.imm (.slice kAt) l_1)),(27,cI (lnI l_1)),(28,cI x_47.2)]) (fun y_79=>[(0,.row (.int .i64) undone_3),(1,.row (.int .i64) r_14),(13,.row (.int .i64) y_79)]) (h1:=?_) (h2:=fun y_79=>?_)
   ·refine ji 5 (hr:=fun c_51=>?_)
    refine jb fun r_52 h_53=>?_
    refine jr0 [cp 3 (E2 _ h_53) [(0,0)] 10] (hr:=?_)
    refine jc (h1:=fun b_55=>?_) (h2:=fun b_55=>?_)
    ·refine jm 1 (hr:=?_)
     exact jo [(13,8)]
    ·refine jm 4 (hr:=?_)
     refine jl (X:=Int) (fun k x=>AB.l1 K ([]:(List (Int×(Int×ByteArray)))) r_14 x_47.2 x_47.1 k x) K _ rfl 10 [] (fun x_59=>[(1,cI rev_2),(2,.c (.h 0)),(3,.c (.val (.slice none 0 0))),(9,.c (.h 1)),(10,.c (.h 8)),(11,cI x_47.2),(26,.c (.imm (.slice kAt) l_1)),(27,cI (lnI l_1)),(28,cI x_47.2),(38,.c (.val (.slice none 0 0))),(39,cI (lnI ([]:(List (Int×(Int×ByteArray)))))),(40,cI x_59)]) (fun x_59=>[(0,.row (.int .i64) undone_3),(1,.row (.int .i64) r_14),(8,.row (.int .i64) x_47.1)]) (fun _=>rfl) (round:=fun k x_59=>jy (AB.l1.eq_2 ..) ?_)
     refine jm 3 (hr:=?_)
     refine jc (h1:=fun b_61=>?_) (h2:=fun b_61=>?_)
     ·refine ji 6 (hr:=fun c_62=>?_)
      refine ja (Y:=Bool) 11 (fun y_80=>[(1,cI rev_2),(2,.c (.h 0)),(3,.c (.val (.slice none 0 0))),(9,.c (.h 1)),(10,.c (.h 8)),(11,cI x_47.2),(26,.c (.imm (.slice kAt) l_1)),(27,cI (lnI l_1)),(28,cI x_47.2),(38,.c (.val (.slice none 0 0))),(39,cI (lnI ([]:(List (Int×(Int×ByteArray)))))),(40,cI x_59),(59,cB y_80)]) (fun y_80=>[(0,.row (.int .i64) undone_3),(1,.row (.int .i64) r_14),(8,.row (.int .i64) x_47.1)]) (h1:=?_) (h2:=fun y_80=>?_)
      ·refine js (fun b_63=>?_) fun b_63=>?_
       ·refine jp fun c_64=>?_
        refine jw [] [(51,true)] [0≤x_47.2,x_47.2<(lnI r_14),(decide ((List.getD r_14 (Int.toNat x_47.2) (0:Int))≥(List.getD ([]:(List (Int×(Int×ByteArray)))) (Int.toNat x_59) zE).1))=true,0≤x_47.2,x_47.2<(lnI r_14)] (ap2 c_51.1 (ap2 c_64 (ap2 b_63 (ap2 c_51.1 (ap1 c_64))))) (hr:=?_)
        exact jo []
       ·refine jp fun c_65=>?_
        refine jw [] [(51,false)] [0≤x_47.2,x_47.2<(lnI r_14),(decide ((List.getD r_14 (Int.toNat x_47.2) (0:Int))≥(List.getD ([]:(List (Int×(Int×ByteArray)))) (Int.toNat x_59) zE).1))=false] (ap2 c_51.1 (ap2 c_65 (ap1 b_63))) (hr:=?_)
        exact jo []
      ·refine jc (h1:=fun b_67=>?_) (h2:=fun b_67=>?_)
       ·refine ji 2 (hr:=fun c_68=>?_)
        refine jq 1 (ql (qh ?_))
        exact jo [(13,12)]
       ·refine jm 3 (hr:=?_)
        exact jx _ rfl []
     ·refine jq 2 (ql (qh ?_))
      refine jm 1 (hr:=?_)
      exact jo [(13,8)]
   ·refine jm 1 (hr:=?_)
    exact jx (y_79,(w6 (x_47.2+(1:Int)))) rfl [(8,13)]
  ·refine jq 0 (ql (qh ?_))
   refine jm 2 (hr:=?_)
   exact jt (rr [(1,8)])
theorem PX {K}:FS Tryz.prog 58 0 [.c (.zc)] [] (CX K) (fun r=>.c (.h 0)) fun r=>[(0,.aown r)]:=by
 refine jfn (fn:=Tryz.f58) Tryz.func58 (jy (CX.eq_1 ..) ?_)
 refine jn 10 [(0:Int)≤(0:Int),(0:Int)≤(0:Int),(0:Int)≤(140737488355328:Int),(0:Int)≤(9223372036854775807:Int)] (ap2 (by decide) (ap2 (by decide) (ap2 (by decide) (ap1 (by decide))))) (hr:=?_)
 refine jg0 (.ar0 0) (hr:=?_)
 refine jl (X:=(Nat×(List AtT)×Int)) (fun k x=>CX.l0 K k x.1 x.2.1 x.2.2) K ((0:Nat),(putAt (List.replicate 0 zAt) (List.take (List.length (List.replicate 0 zAt)) ([]:List AtT)) 0),(0:Int)) rfl 5 [(4,1)] (fun x_16=>[(3,.c (.h 4)),(12,cI (lnI (putAt (List.replicate 0 zAt) (List.take (List.length (List.replicate 0 zAt)) ([]:List AtT)) 0))),(13,cI x_16.2.2)]) (fun x_16=>[(4,.arow x_16.1 x_16.2.1)]) (fun _=>rfl) (round:=fun k x_16=>jy (CX.l0.eq_2 ..) ?_)
 refine jm 3 (hr:=?_)
 refine jc (h1:=fun b_18=>?_) (h2:=fun b_18=>?_)
 ·refine jm 5 (hr:=?_)
  refine jb fun r_20 h_21=>?_
  refine jp fun c_22=>?_
  refine jr [cp 7 (IA _ h_21) [(0,5)] 6] [] [0≤x_16.2.2,x_16.2.2<(lnI x_16.2.1),x_16.1≤(Int.toNat x_16.2.2),0≤x_16.2.2,x_16.2.2<(lnI x_16.2.1),(Int.toNat x_16.2.2)=x_16.1] (ap2 c_22.1 (ap2 c_22.2.1 (ap2 c_22.2.2.1 (ap2 c_22.1 (ap2 c_22.2.1 (ap1 c_22.2.2.2)))))) (hr:=?_)
  refine jm 2 (hr:=?_)
  exact jx ((x_16.1+1),(setCut x_16.2.1 x_16.1 r_20),(w6 (x_16.2.2+(1:Int)))) rfl [(4,6)]
 ·refine jq 0 (ql (qh ?_))
  refine jm 2 (hr:=?_)
  refine jgi (.ao 4) (hr:=fun _=>?_)
  exact jt (rr [(0,4)])
theorem PW {K}:FS Tryz.prog 58 0 [.c (.zc)] [] (CY K) (fun r=>.c (.h 0)) fun r=>[(0,.row kAt r)]:=by
 refine jfn (fn:=Tryz.f58) Tryz.func58 (jy (CY.eq_1 ..) ?_)
 refine jn 10 [(0:Int)≤(0:Int),(0:Int)≤(0:Int),(0:Int)≤(140737488355328:Int),(0:Int)≤(9223372036854775807:Int)] (ap2 (by decide) (ap2 (by decide) (ap2 (by decide) (ap1 (by decide))))) (hr:=?_)
 refine jg0 (.ar0 0) (hr:=?_)
 refine jl (X:=(Nat×(List AtT)×Int)) (fun k x=>CY.l0 K k x.1 x.2.1 x.2.2) K ((0:Nat),(putAt (List.replicate 0 zAt) (List.take (List.length (List.replicate 0 zAt)) ([]:List AtT)) 0),(0:Int)) rfl 5 [(4,1)] (fun x_16=>[(3,.c (.h 4)),(12,cI (lnI (putAt (List.replicate 0 zAt) (List.take (List.length (List.replicate 0 zAt)) ([]:List AtT)) 0))),(13,cI x_16.2.2)]) (fun x_16=>[(4,.arow x_16.1 x_16.2.1)]) (fun _=>rfl) (round:=fun k x_16=>jy (CY.l0.eq_2 ..) ?_)
 refine jm 3 (hr:=?_)
 refine jc (h1:=fun b_18=>?_) (h2:=fun b_18=>?_)
 ·refine jm 5 (hr:=?_)
  refine jb fun r_20 h_21=>?_
  refine jp fun c_22=>?_
  refine jr [cp 7 (IA _ h_21) [(0,5)] 6] [] [0≤x_16.2.2,x_16.2.2<(lnI x_16.2.1),x_16.1≤(Int.toNat x_16.2.2),0≤x_16.2.2,x_16.2.2<(lnI x_16.2.1),(Int.toNat x_16.2.2)=x_16.1] (ap2 c_22.1 (ap2 c_22.2.1 (ap2 c_22.2.2.1 (ap2 c_22.1 (ap2 c_22.2.1 (ap1 c_22.2.2.2)))))) (hr:=?_)
  refine jm 2 (hr:=?_)
  exact jx ((x_16.1+1),(setCut x_16.2.1 x_16.1 r_20),(w6 (x_16.2.2+(1:Int)))) rfl [(4,6)]
 ·refine jq 0 (ql (qh ?_))
  refine jm 2 (hr:=?_)
  refine jgi (.ao 4) (hr:=fun _=>?_)
  refine jg0 (.un 4) (hr:=?_)
  exact jt (rr [(0,5)])
theorem LO {K at_2 text_3 rev_4 group_5 rank_6}:FS Tryz.prog 96 0 [.c (.val (.slice none 0 0)),cI at_2,cS text_3,cI rev_4,cI group_5,cI rank_6] [] (BT K ([]:(List AtT)) at_2 text_3 rev_4 group_5 rank_6) (fun r=>.c (.h 0)) fun r=>[(0,.row kAt r)]:=by
 refine jfn (fn:=Tryz.f96) Tryz.func96 (jy (BT.eq_1 ..) ?_)
 refine jm 5 (hr:=?_)
 refine jb fun r_8 h_9=>?_
 refine jri [cp 3 (PX _ h_9) [(0,0)] 1] [] (hr:=fun c_10=>?_)
 refine jm 2 (hr:=?_)
 refine jb fun r_12 h_13=>?_
 refine jr0 [cp 1 (L0 _ h_13) [] 1] (hr:=?_)
 refine ja (Y:=(List AtT)) 6 (fun y_40=>[(0,.c (.val (.slice none 0 0))),(1,cI (mn2 (mx2 at_2 (0:Int)) (lnI ([]:(List AtT))))),(13,.c (.h 5))]) (fun y_40=>[(5,.row kAt y_40)]) (h1:=?_) (h2:=fun y_40=>?_)
 ·refine jm 1 (hr:=?_)
  refine jg0 (.un 0) (hr:=?_)
  refine jl (X:=((List AtT)×Nat)) (fun k x=>BT.l0 K r_12 rev_4 group_5 rank_6 k x.1 x.2) K (r_8,(0:Nat)) rfl 6 [(5,2)] (fun x_25=>[(0,.c (.val (.slice none 0 0))),(1,cI (mn2 (mx2 at_2 (0:Int)) (lnI ([]:(List AtT))))),(3,cI rev_4),(4,cI group_5),(5,cI rank_6),(13,.c (.h 5)),(27,.c (.h 1))]) (fun x_25=>[(1,.it r_12 x_25.2 none),(5,.row kAt x_25.1)]) (fun _=>rfl) (round:=fun k x_25=>jy (BT.l0.eq_2 ..) ?_)
  refine jm 1 (hr:=?_)
  refine js (fun b_27=>jit 1 b_27 (hr:=?_)) fun b_27=>jit 1 b_27 (hr:=?_)
  ·refine ji 8 (hr:=fun c_28=>?_)
   refine jm 1 (hr:=?_)
   exact jx ((x_25.1++([((Utf8.encode (((Utf8.decode r_12 x_25.2).1:Nat):Int)),(rev_4,(group_5,(rank_6,([]:List (Int×Int))))))]:List AtT)),(x_25.2+(Utf8.decode r_12 x_25.2).2)) rfl [(5,7)]
  ·refine jm 3 (hr:=?_)
   refine jq 0 (ql (qh ?_))
   exact jo []
 ·refine jm 1 (hr:=?_)
  refine jb fun r_35 h_36=>?_
  refine jp fun c_37=>?_
  refine jr [cp 4 (PW _ h_36) [(0,6)] 7] [] [(0:Int)≤(mn2 (mx2 at_2 (0:Int)) (lnI ([]:(List AtT)))),(mn2 (mx2 at_2 (0:Int)) (lnI ([]:(List AtT))))≤(lnI ([]:(List AtT))),(List.length y_40+List.length r_35) * 64≤140737488355328] (ap2 c_10.1 (ap2 c_10.2 (ap1 c_37))) (hr:=?_)
  exact jt (rr [(0,7)])
theorem RM {K l_1 rev_2 undone_3 now_5 group_6 rank_7}:FS Tryz.prog 54 1 [.c (.imm (.slice kAt) l_1),cI rev_2,.c (.h 0),.c (.val (.slice none 0 0)),cI now_5,cI group_6,cI rank_7] [(0,.row (.int .i64) undone_3)] (A6 K l_1 rev_2 undone_3 ([]:(List (Int×(Int×ByteArray)))) now_5 group_6 rank_7) (fun r=>.c (.h 1)) fun r=>[(0,.row (.int .i64) undone_3),(1,.row kAt r)]:=by
 refine jfn (fn:=Tryz.f54) Tryz.func54 (jy (A6.eq_1 ..) ?_)
 refine jm 3 (hr:=?_)
 refine jb fun r_9 h_10=>?_
 refine jr0 [cp 5 (RK _ h_10) [(0,0),(1,1)] 2] (hr:=?_)
 refine jm 2 (hr:=?_)
 refine jb fun r_13 h_14=>?_
 refine jb fun r_15 h_16=>?_
 refine jr0 [cp 3 (E1 _ h_14) [(0,0)] 2,cp 5 (HJ _ h_16) [] 2] (hr:=?_)
 refine jc (h1:=fun b_18=>?_) (h2:=fun b_18=>?_)
 ·refine jm 1 (hr:=?_)
  refine jb fun r_20 h_21=>?_
  refine jr0 [cp 1 (EJ _ h_21) [(0,2)] 3] (hr:=?_)
  refine jg0 (.un 2) (hr:=?_)
  exact jt (rr [(1,3)])
 ·refine jp fun c_23=>?_
  refine jn 7 [(0:Int)≤(0:Int),(0:Int)≤(lnI l_1),(lnI l_1) * 64≤(140737488355328:Int),(lnI l_1)≤(9223372036854775807:Int),(0:Int)≤(lnI l_1),(lnI l_1)≤(lnI l_1),(lnI l_1) * 1≤(140737488355328:Int),(lnI l_1)≤(9223372036854775807:Int)] (ap2 (by decide) (ap2 c_23.1 (ap2 c_23.2.1 (ap2 c_23.2.2.1 (ap2 c_23.1 (ap2 c_23.2.2.2.1 (ap2 c_23.2.2.2.2 (ap1 c_23.2.2.1)))))))) (hr:=?_)
  refine jb fun r_24 h_25=>?_
  refine jr0 [cp 4 (RI _ h_25) [(0,0),(1,4)] 5] (hr:=?_)
  refine ja (Y:=(List Bool)) 5 (fun y_93=>[(0,.c (.imm (.slice kAt) l_1)),(3,.c (.val (.slice none 0 0))),(4,cI now_5),(5,cI group_6),(6,cI rank_7),(15,.c (.h 1)),(16,.c (.h 2)),(17,.c (.h 3))]) (fun y_93=>[(0,.row (.int .i64) undone_3),(1,.row (.int .i64) r_9),(2,.row kAt (List.replicate 0 zAt)),(3,.row .bool y_93)]) (h1:=?_) (h2:=fun y_93=>?_)
  ·refine jm 1 (hr:=?_)
   refine jl (X:=((List Bool)×Int)) (fun k x=>A6.l0 K r_24 k x.1 x.2) K ((List.replicate (Int.toNat (lnI l_1)) false),(0:Int)) rfl 5 [] (fun x_35=>[(0,.c (.imm (.slice kAt) l_1)),(3,.c (.val (.slice none 0 0))),(4,cI now_5),(5,cI group_6),(6,cI rank_7),(15,.c (.h 1)),(16,.c (.h 2)),(17,.c (.h 3)),(50,.c (.h 4)),(51,cI (lnI r_24)),(52,cI x_35.2)]) (fun x_35=>[(0,.row (.int .i64) undone_3),(1,.row (.int .i64) r_9),(2,.row kAt (List.replicate 0 zAt)),(3,.row .bool x_35.1),(4,.row (.int .i64) r_24)]) (fun _=>rfl) (round:=fun k x_35=>jy (A6.l0.eq_2 ..) ?_)
   refine jm 3 (hr:=?_)
   refine jc (h1:=fun b_37=>?_) (h2:=fun b_37=>?_)
   ·refine ji 6 (hr:=fun c_38=>?_)
    refine jm 2 (hr:=?_)
    exact jx ((List.set x_35.1 (Int.toNat (List.getD r_24 (Int.toNat x_35.2) (0:Int))) true),(w6 (x_35.2+(1:Int)))) rfl []
   ·refine jq 0 (ql (qh ?_))
    exact jo []
  ·refine jn 3 [(0:Int)≤(lnI l_1),(lnI l_1)≤(lnI l_1),(lnI l_1) * 64≤(140737488355328:Int),(lnI l_1)≤(9223372036854775807:Int)] (ap2 c_23.1 (ap2 c_23.2.2.2.1 (ap2 c_23.2.1 (ap1 c_23.2.2.1)))) (hr:=?_)
   refine jb fun r_42 h_43=>?_
   refine jri [cp 2 (EJ _ h_43) [(0,6)] 7] [] (hr:=fun c_44=>?_)
   refine jm 3 (hr:=?_)
   refine ja (Y:=(List AtT)) 11 (fun y_94=>[(3,.c (.val (.slice none 0 0))),(4,cI now_5),(5,cI group_6),(6,cI rank_7),(15,.c (.h 1)),(16,.c (.h 2)),(20,.c (.h 10))]) (fun y_94=>[(0,.row (.int .i64) undone_3),(1,.row (.int .i64) r_9),(2,.row kAt (List.replicate 0 zAt)),(10,.aown y_94)]) (h1:=?_) (h2:=fun y_94=>?_)
   ·refine jm 1 (hr:=?_)
    refine jl (X:=((List AtT)×Int)) (fun k x=>A6.l1 K r_42 y_93 now_5 group_6 k x.1 x.2) K (r_42,(0:Int)) rfl 11 [(10,7)] (fun x_57=>[(3,.c (.val (.slice none 0 0))),(4,cI now_5),(5,cI group_6),(6,cI rank_7),(15,.c (.h 1)),(16,.c (.h 2)),(17,.c (.h 3)),(20,.c (.h 10)),(68,cI (lnI r_42)),(69,cI x_57.2)]) (fun x_57=>[(0,.row (.int .i64) undone_3),(1,.row (.int .i64) r_9),(2,.row kAt (List.replicate 0 zAt)),(3,.row .bool y_93),(10,.aown x_57.1)]) (fun _=>rfl) (round:=fun k x_57=>jy (A6.l1.eq_2 ..) ?_)
    refine jm 3 (hr:=?_)
    refine jc (h1:=fun b_59=>?_) (h2:=fun b_59=>?_)
    ·refine ji 7 (hr:=fun c_60=>?_)
     refine jc (h1:=fun b_61=>?_) (h2:=fun b_61=>?_)
     ·refine jp fun c_62=>?_
      refine jn 1 [0≤x_57.2,x_57.2<(lnI x_57.1),(Int.toNat x_57.2)<(List.length x_57.1),(List.length (List.getD x_57.1 (Int.toNat x_57.2) zAt).2.2.2.2+List.length ([(now_5,group_6)]:List (Int×Int))) * 16≤140737488355328,0≤x_57.2,x_57.2<(lnI x_57.1),(Int.toNat x_57.2)=(Int.toNat x_57.2),(Int.toNat x_57.2)=(Int.toNat x_57.2)] (ap2 c_60.1 (ap2 c_62.1 (ap2 c_62.2.1 (ap2 c_62.2.2.1 (ap2 c_60.1 (ap2 c_62.1 (ap2 c_62.2.2.2 (ap1 c_62.2.2.2)))))))) (hr:=?_)
      refine jm 2 (hr:=?_)
      exact jx ((setCut x_57.1 (Int.toNat x_57.2) ((List.getD x_57.1 (Int.toNat x_57.2) zAt).2.2.2.2++([(now_5,group_6)]:List (Int×Int)))),(w6 (x_57.2+(1:Int)))) rfl [(10,12)]
     ·refine jm 3 (hr:=?_)
      exact jx (x_57.1,(w6 (x_57.2+(1:Int)))) rfl []
    ·refine jq 2 (ql (qh ?_))
     exact jo []
   ·refine jm 6 (hr:=?_)
    refine jg0 (.un 10) (hr:=?_)
    refine jl (X:=((List AtT)×Int×Int)) (fun k x=>A6.l2 K ([]:(List (Int×(Int×ByteArray)))) r_9 y_94 now_5 group_6 rank_7 k x.1 x.2.1 x.2.2) K ((List.replicate 0 zAt),(0:Int),(0:Int)) rfl 18 [(16,2),(17,11)] (fun x_81=>[(4,cI now_5),(5,cI group_6),(6,cI rank_7),(15,.c (.h 1)),(16,.c (.h 16)),(20,.c (.h 17)),(22,cI x_81.2.1),(91,.c (.val (.slice none 0 0))),(92,cI (lnI ([]:(List (Int×(Int×ByteArray)))))),(93,cI x_81.2.2)]) (fun x_81=>[(0,.row (.int .i64) undone_3),(1,.row (.int .i64) r_9),(16,.row kAt x_81.1),(17,.row kAt y_94)]) (fun _=>rfl) (round:=fun k x_81=>jy (A6.l2.eq_2 ..) ?_)
    refine jm 3 (hr:=?_)
    refine jc (h1:=fun b_83=>?_) (h2:=fun b_83=>?_)
    ·refine jp fun c_84=>?_
     refine jn 8 [0≤x_81.2.2,x_81.2.2<(lnI ([]:(List (Int×(Int×ByteArray))))),0≤x_81.2.2,x_81.2.2<(lnI r_9),(0:Int)≤x_81.2.1,x_81.2.1≤(List.getD r_9 (Int.toNat x_81.2.2) (0:Int)),(List.getD r_9 (Int.toNat x_81.2.2) (0:Int))≤(lnI y_94),(List.length x_81.1+List.length (List.take ((Int.toNat (List.getD r_9 (Int.toNat x_81.2.2) (0:Int))) - (Int.toNat x_81.2.1)) (List.drop (Int.toNat x_81.2.1) y_94))) * 64≤140737488355328] (ap2 c_84.1 (ap2 c_84.2.1 (ap2 c_84.1 (ap2 c_84.2.2.1 (ap2 c_84.2.2.2.1 (ap2 c_84.2.2.2.2.1 (ap2 c_84.2.2.2.2.2.1 (ap1 c_84.2.2.2.2.2.2)))))))) (hr:=?_)
     refine jb fun r_85 h_86=>?_
     refine jri [cp 6 (LO _ h_86) [(0,20)] 21] [] (hr:=fun c_87=>?_)
     refine jn 3 [0≤x_81.2.2,x_81.2.2<(lnI r_9)] (ap2 c_84.1 (ap1 c_84.2.2.1)) (hr:=?_)
     exact jx (((x_81.1++(List.take ((Int.toNat (List.getD r_9 (Int.toNat x_81.2.2) (0:Int))) - (Int.toNat x_81.2.1)) (List.drop (Int.toNat x_81.2.1) y_94)))++r_85),(List.getD r_9 (Int.toNat x_81.2.2) (0:Int)),(w6 (x_81.2.2+(1:Int)))) rfl [(16,21)]
    ·refine jq 4 (ql (qh ?_))
     refine ji 2 (hr:=fun c_89=>?_)
     exact jt (rr [(1,18)])
theorem JE {K e_1 e_2 e_3 e_4 e_5}:FS Tryz.prog 56 5 [.c (.h 0)] [(0,.box [.imm (.slice kAt) e_1,.h 1]),(1,.box [.h 2,.val (.int .i64 e_3),.h 3,.h 4]),(2,.sets e_2 none),(3,.map e_4),(4,.map e_5)] (EQ K e_1 e_2 e_3 e_4 e_5) (fun r=>cB r) fun r=>[(0,.box [.imm (.slice kAt) e_1,.h 1]),(1,.box [.h 2,.val (.int .i64 e_3),.h 3,.h 4]),(2,.sets e_2 none),(3,.map e_4),(4,.map e_5)]:=by
 refine jfn (fn:=Tryz.f56) Tryz.func56 (jy (EQ.eq_1 ..) ?_)
 refine jm 3 (hr:=?_)
 refine jb fun r_7 h_8=>?_
 refine jb fun r_9 h_10=>?_
 refine jr0 [cp 2 (HO _ h_8) [(0,0),(1,1),(2,2),(3,3),(4,4)] 5,cp 3 (EP _ h_10) [(0,0),(1,1),(2,2),(3,3),(4,4)] 5] (hr:=?_)
 refine jm 2 (hr:=?_)
 exact jt (rr [])
theorem MD {K e_1 e_2 e_3 e_4 e_5 base_6 group_7 rank_8}:FS Tryz.prog 17 5 [.c (.h 0),cI base_6,cI group_7,cI rank_8,.c (.val (.slice none 0 0))] [(0,.box [.imm (.slice kAt) e_1,.h 1]),(1,.box [.h 2,.val (.int .i64 e_3),.h 3,.h 4]),(2,.sets e_2 none),(3,.map e_4),(4,.map e_5)] (BJ K e_1 e_2 e_3 e_4 e_5 base_6 group_7 rank_8 ([]:(List (Int×(Int×ByteArray))))) (fun r=>.tup [(false,[.val (.int .i64 r.1)]),(false,[.val (.int .i64 r.2.1)])]) fun r=>[(0,.box [.imm (.slice kAt) r.2.2.1,.h 5]),(5,.box [.h 6,.val (.int .i64 e_3),.h 7,.h 8]),(6,.sets r.2.2.2.1 none),(7,.map r.2.2.2.2.1),(8,.map r.2.2.2.2.2)]:=by
 refine jfn (fn:=Tryz.f17) Tryz.func17 (jy (BJ.eq_1 ..) ?_)
 refine jm 3 (hr:=?_)
 refine jb fun r_11 h_12=>?_
 refine jr0 [cp 2 (EP _ h_12) [(0,0),(1,1),(2,2),(3,3),(4,4)] 5] (hr:=?_)
 refine jm 3 (hr:=?_)
 refine jc (h1:=fun b_15=>?_) (h2:=fun b_15=>?_)
 ·refine jm 2 (hr:=?_)
  exact jt (rr [(5,1),(6,2),(7,3),(8,4)])
 ·refine jm 3 (hr:=?_)
  refine jb fun r_18 h_19=>?_
  refine jr0 [cp 2 (HJ _ h_19) [] 5] (hr:=?_)
  refine jm 2 (hr:=?_)
  refine jc (h1:=fun b_22=>?_) (h2:=fun b_22=>?_)
  ·refine jm 2 (hr:=?_)
   exact jt (rr [(5,1),(6,2),(7,3),(8,4)])
  ·refine jm 2 (hr:=?_)
   refine jb fun r_25 h_26=>?_
   refine jr0 [cp 1 (HN _ h_26) [(0,0),(1,1),(2,2),(3,3),(4,4),(5,5),(6,6),(7,7),(8,8),(9,9)] 10] (hr:=?_)
   refine jm 1 (hr:=?_)
   refine jb fun r_29 h_30=>?_
   refine jr0 [cp 5 (NU _ h_30) [(0,6),(1,7),(2,8),(3,9),(4,10)] 11] (hr:=?_)
   refine jm 4 (hr:=?_)
   refine jc (h1:=fun b_33=>?_) (h2:=fun b_33=>?_)
   ·refine jm 2 (hr:=?_)
    exact jt (rr [(5,1),(6,2),(7,3),(8,4)])
   ·refine jm 1 (hr:=?_)
    refine ja (Y:=Bool) 11 (fun y_65=>[(0,.c (.h 0)),(1,cI base_6),(2,cI group_7),(3,cI rank_8),(4,.c (.val (.slice none 0 0))),(15,.c (.h 5)),(16,cI r_29.1),(47,cB y_65)]) (fun y_65=>[(0,.box [.imm (.slice kAt) e_1,.h 1]),(1,.box [.h 2,.val (.int .i64 e_3),.h 3,.h 4]),(2,.sets e_2 none),(3,.map e_4),(4,.map e_5),(5,.box [.imm (.slice kAt) r_25.1,.h 6]),(6,.box [.h 10,.val (.int .i64 e_3),.h 8,.h 9]),(8,.map r_29.2.2.2),(9,.map r_25.2.2.2),(10,.sets r_29.2.2.1 none)]) (h1:=?_) (h2:=fun y_65=>?_)
    ·refine js (fun b_36=>?_) fun b_36=>?_
     ·refine jr [] [(50,true)] [(decide (rank_8<(0:Int)))=true] (ap1 b_36) (hr:=?_)
      exact jo []
     ·refine jr [] [(50,false)] [(decide (rank_8<(0:Int)))=false] (ap1 b_36) (hr:=?_)
      exact jo []
    ·refine jc (h1:=fun b_40=>?_) (h2:=fun b_40=>?_)
     ·refine jm 2 (hr:=?_)
      exact jt (rr [(5,1),(6,2),(7,3),(8,4)])
     ·refine jm 3 (hr:=?_)
      refine jb fun r_43 h_44=>?_
      refine jb fun r_45 h_46=>?_
      refine jw0 [cp 8 (G9 _ h_44) [(0,0),(1,1),(2,2),(3,3),(4,4),(5,11)] 12,cp 13 (RM _ h_46) [(0,11),(1,12)] 13] (hr:=?_)
      refine jm 4 (hr:=?_)
      refine jc (h1:=fun b_49=>?_) (h2:=fun b_49=>?_)
      ·refine jm 2 (hr:=?_)
       exact jt (rr [(5,1),(6,2),(7,3),(8,4)])
      ·refine jm 1 (hr:=?_)
       refine jg [.shut 12] ?_
       refine jb fun r_52 h_53=>?_
       refine jr0 [cp 1 (JE _ h_53) [(0,5),(1,6),(2,10),(3,8),(4,9)] 13] (hr:=?_)
       refine jc (h1:=fun b_55=>?_) (h2:=fun b_55=>?_)
       ·refine jm 2 (hr:=?_)
        exact jt (rr [(5,1),(6,2),(7,3),(8,4)])
       ·refine jm 6 (hr:=?_)
        exact jt (rr [(5,6),(6,10),(7,8),(8,9)])
theorem NX {K r_1 r_2 r_3 r_4 group_5}:FS Tryz.prog 97 4 [.c (.h 0),cI group_5] [(0,.box [.h 1,.val (.int .i64 r_2),.h 2,.h 3]),(1,.sets r_1 none),(2,.map r_3),(3,.map r_4)] (I9 K r_1 r_2 r_3 r_4 group_5) (fun r=>cB r) fun r=>[(0,.box [.h 1,.val (.int .i64 r_2),.h 2,.h 3]),(1,.sets r_1 none),(2,.map r_3),(3,.map r_4)]:=by
 refine jfn (fn:=Tryz.f97) Tryz.func97 (jy (I9.eq_1 ..) ?_)
 refine jm 6 (hr:=?_)
 exact jt (rr [])
theorem UV {K r_1 r_2 r_3 r_4 group_5}:FS Tryz.prog 57 4 [.c (.h 0),cI group_5] [(0,.box [.h 1,.val (.int .i64 r_2),.h 2,.h 3]),(1,.sets r_1 none),(2,.map r_3),(3,.map r_4)] (KA K r_1 r_2 r_3 r_4 group_5) (fun r=>.tup [(false,[.val (.int .i64 r.1)]),(false,[.val (.int .i64 r.2.1)])]) fun r=>[(0,.box [.h 4,.val (.int .i64 r_2),.h 2,.h 3]),(2,.map r_3),(3,.map r_4),(4,.sets r.2.2 none)]:=by
 refine jfn (fn:=Tryz.f57) Tryz.func57 (jy (KA.eq_1 ..) ?_)
 refine jm 4 (hr:=?_)
 refine jb fun r_7 h_8=>?_
 refine jr0 [cp 2 (NX _ h_8) [(0,0),(1,1),(2,2),(3,3)] 4] (hr:=?_)
 refine jc (h1:=fun b_10=>?_) (h2:=fun b_10=>?_)
 ·refine jm 2 (hr:=?_)
  exact jt (rr [(4,1)])
 ·refine jm 2 (hr:=?_)
  refine js (fun b_15=>?_) fun b_15=>?_
  ·refine jb fun r_16 h_17=>?_
   refine jr0 [cp 1 (NY _ h_17) [(0,0),(1,1),(2,2),(3,3)] 4] (hr:=?_)
   refine jm 6 (hr:=?_)
   exact jt (rr [(4,1)])
  ·refine jb fun r_20 h_21=>?_
   refine jr0 [cp 1 (NZ _ h_21) [(0,0),(1,1),(2,2),(3,3),(4,4),(5,5)] 6] (hr:=?_)
   refine jm 10 (hr:=?_)
   refine ja (Y:=(List (List Int))) 8 (fun y_36=>[(0,.c (.h 0))]) (fun y_36=>[(0,.box [.h 7,.val (.int .i64 r_2),.h 2,.h 3]),(2,.map r_3),(3,.map r_4),(7,.sets y_36 none)]) (h1:=?_) (h2:=fun y_36=>?_)
   ·refine jc (h1:=fun b_24=>?_) (h2:=fun b_24=>?_)
    ·refine jm 1 (hr:=?_)
     refine jg0 (.absorb 5) (hr:=?_)
     exact jo []
    ·refine ji 1 (hr:=fun c_26=>?_)
     refine jg0 (.absorb 5) (hr:=?_)
     exact jo []
   ·refine jm 1 (hr:=?_)
    refine jb fun r_29 h_30=>?_
    refine jr0 [cp 1 (F4 _ h_30) [(0,0),(1,7),(2,2),(3,3)] 8] (hr:=?_)
    exact jt (rr [(4,7)])
theorem JC {K e_1 e_2 e_3 e_4 e_5 group_6}:FS Tryz.prog 19 5 [.c (.h 0),cI group_6] [(0,.box [.imm (.slice kAt) e_1,.h 1]),(1,.box [.h 2,.val (.int .i64 e_3),.h 3,.h 4]),(2,.sets e_2 none),(3,.map e_4),(4,.map e_5)] (G8 K e_1 e_2 e_3 e_4 e_5 group_6) (fun r=>.tup [(false,[.val (.int .i64 r.1)]),(false,[.val (.int .i64 r.2.1)])]) fun r=>[(0,.box [.imm (.slice kAt) r.2.2.1,.h 5]),(5,.box [.h 6,.val (.int .i64 e_3),.h 7,.h 8]),(6,.sets r.2.2.2.1 none),(7,.map r.2.2.2.2.1),(8,.map r.2.2.2.2.2)]:=by
 refine jfn (fn:=Tryz.f19) Tryz.func19 (jy (G8.eq_1 ..) ?_)
 refine jm 3 (hr:=?_)
 refine jb fun r_8 h_9=>?_
 refine jr0 [cp 1 (HN _ h_9) [(0,0),(1,1),(2,2),(3,3),(4,4),(5,5),(6,6),(7,7),(8,8),(9,9)] 10] (hr:=?_)
 refine jm 1 (hr:=?_)
 refine jb fun r_12 h_13=>?_
 refine jr0 [cp 5 (UV _ h_13) [(0,6),(1,7),(2,8),(3,9),(4,10)] 11] (hr:=?_)
 refine jm 4 (hr:=?_)
 refine jc (h1:=fun b_16=>?_) (h2:=fun b_16=>?_)
 ·refine jm 2 (hr:=?_)
  exact jt (rr [(5,1),(6,2),(7,3),(8,4)])
 ·refine jm 1 (hr:=?_)
  refine jb fun r_19 h_20=>?_
  refine jr0 [cp 1 (JE _ h_20) [(0,5),(1,6),(2,10),(3,8),(4,9)] 11] (hr:=?_)
  refine jc (h1:=fun b_22=>?_) (h2:=fun b_22=>?_)
  ·refine jm 2 (hr:=?_)
   exact jt (rr [(5,1),(6,2),(7,3),(8,4)])
  ·refine jm 6 (hr:=?_)
   exact jt (rr [(5,6),(6,10),(7,8),(8,9)])
theorem C3 {K v_1 v_2 v_3 v_4 v_5 v_6 v_7 v_8 v_9}:FS Tryz.prog 42 6 [.c (.h 0)] [(0,.box [.h 1,.imm (.opt (.opt .node)) v_6,.imm (.slice kP) v_7,.imm (.slice kS) v_8,.imm (.slice (.int .i64)) v_9]),(1,.box [.imm (.slice kAt) v_1,.h 2]),(2,.box [.h 3,.val (.int .i64 v_3),.h 4,.h 5]),(3,.sets v_2 none),(4,.map v_4),(5,.map v_5)] (B9 K v_1 v_2 v_3 v_4 v_5 v_6 v_7 v_8 v_9) (fun r=>cI r) fun r=>[(0,.box [.h 1,.imm (.opt (.opt .node)) v_6,.imm (.slice kP) v_7,.imm (.slice kS) v_8,.imm (.slice (.int .i64)) v_9]),(1,.box [.imm (.slice kAt) v_1,.h 2]),(2,.box [.h 3,.val (.int .i64 v_3),.h 4,.h 5]),(3,.sets v_2 none),(4,.map v_4),(5,.map v_5)]:=by
 refine jfn (fn:=Tryz.f42) Tryz.func42 (jy (B9.eq_1 ..) ?_)
 refine jm 3 (hr:=?_)
 refine jb fun r_11 h_12=>?_
 refine jr0 [cp 4 (HO _ h_12) [(0,1),(1,2),(2,3),(3,4),(4,5)] 6] (hr:=?_)
 exact jt (rr [])
theorem C5 {K r_1 r_2}:FS Tryz.prog 146 0 [.agg [.val (.int .i64 r_1),.val (.int .i64 r_2)]] [] (BD K r_1 r_2) (fun r=>.agg [.val (.int .i64 r.1),.val (.int .i64 r.2)]) fun r=>[]:=by
 refine jfn (fn:=Tryz.f146) Tryz.func146 (jy (BD.eq_1 ..) ?_)
 refine jm 4 (hr:=?_)
 exact jt (rr [(0,1)])
theorem IZ {K l_1 text_2}:FS Tryz.prog 103 0 [.c (.imm (.slice kP) l_1),cS text_2] [] (BN K l_1 text_2) (fun r=>.c (.h 0)) fun r=>[(0,.row kE r)]:=by
 refine jfn (fn:=Tryz.f103) Tryz.func103 (jy (BN.eq_1 ..) ?_)
 refine jm 8 (hr:=?_)
 refine jg [.nilSlot 5 kE] ?_
 refine jl (X:=((List (Int×(Int×ByteArray)))×Int)) (fun k x=>BN.l0 K l_1 text_2 k x.1 x.2) K (([]:List (Int×(Int×ByteArray))),(0:Int)) rfl 6 [(5,0)] (fun x_16=>[(1,cS text_2),(5,.c (.h 5)),(9,.c (.imm (.slice kP) l_1)),(10,cI (lnI l_1)),(11,cI x_16.2)]) (fun x_16=>[(5,.row kE x_16.1)]) (fun _=>rfl) (round:=fun k x_16=>jy (BN.l0.eq_2 ..) ?_)
 refine jm 3 (hr:=?_)
 refine jc (h1:=fun b_18=>?_) (h2:=fun b_18=>?_)
 ·refine ji 6 (hr:=fun c_19=>?_)
  refine jb fun r_20 h_21=>?_
  refine jr0 [cp 1 (C5 _ h_21) [] 7] (hr:=?_)
  refine ji 1 (hr:=fun c_23=>?_)
  refine jm 2 (hr:=?_)
  exact jx ((x_16.1++([(r_20.1,(r_20.2,text_2))]:List (Int×(Int×ByteArray)))),(w6 (x_16.2+(1:Int)))) rfl [(5,9)]
 ·refine jq 0 (ql (qh ?_))
  refine jm 2 (hr:=?_)
  exact jt (rr [(0,5)])
theorem RR {K l_1 e_2 wrong_3}:FS Tryz.prog 87 2 [.c (.h 0),cI e_2,.c (.clo 88 [1])] [(0,.row kE l_1),(1,.box [.val (.string wrong_3)])] (B2 K l_1 e_2 wrong_3) (fun r=>cI r) fun r=>[(0,.row kE l_1),(1,.box [.val (.string wrong_3)])]:=by
 refine jfn (fn:=Tryz.f87) Tryz.func87 (jy (B2.eq_1 ..) ?_)
 refine jm 6 (hr:=?_)
 refine jl (X:=Int) (fun k x=>B2.l0 K l_1 wrong_3 e_2 k x) K _ rfl 2 [] (fun x_6=>[(1,cI e_2),(2,.c (.clo 88 [1])),(9,.c (.h 0)),(10,cI (lnI l_1)),(11,cI x_6)]) (fun x_6=>[(0,.row kE l_1),(1,.box [.val (.string wrong_3)])]) (fun _=>rfl) (round:=fun k x_6=>jy (B2.l0.eq_2 ..) ?_)
 refine jm 3 (hr:=?_)
 refine jc (h1:=fun b_8=>?_) (h2:=fun b_8=>?_)
 ·refine ji 6 (hr:=fun c_9=>?_)
  refine jb fun r_10 h_11=>?_
  refine jr0 [cp 2 (M4 _ h_11) [(0,1)] 3] (hr:=?_)
  refine jc (h1:=fun b_13=>?_) (h2:=fun b_13=>?_)
  ·refine jm 2 (hr:=?_)
   exact jt (rl (rr []))
  ·refine jm 3 (hr:=?_)
   exact jx _ rfl []
 ·refine jq 0 (ql (qh ?_))
  refine jm 2 (hr:=?_)
  exact jt (rr [])
theorem RT {K l_1 e_2 wrong_3}:FS Tryz.prog 87 3 [.c (.h 0),cI e_2,.c (.clo 89 [1])] [(0,.row kE l_1),(1,.box [.clo 85 [2]]),(2,.box [.val (.string wrong_3)])] (B3 K l_1 e_2 wrong_3) (fun r=>cI r) fun r=>[(0,.row kE l_1),(1,.box [.clo 85 [2]]),(2,.box [.val (.string wrong_3)])]:=by
 refine jfn (fn:=Tryz.f87) Tryz.func87 (jy (B3.eq_1 ..) ?_)
 refine jm 6 (hr:=?_)
 refine jl (X:=Int) (fun k x=>B3.l0 K l_1 wrong_3 e_2 k x) K _ rfl 3 [] (fun x_6=>[(1,cI e_2),(2,.c (.clo 89 [1])),(9,.c (.h 0)),(10,cI (lnI l_1)),(11,cI x_6)]) (fun x_6=>[(0,.row kE l_1),(1,.box [.clo 85 [2]]),(2,.box [.val (.string wrong_3)])]) (fun _=>rfl) (round:=fun k x_6=>jy (B3.l0.eq_2 ..) ?_)
 refine jm 3 (hr:=?_)
 refine jc (h1:=fun b_8=>?_) (h2:=fun b_8=>?_)
 ·refine ji 6 (hr:=fun c_9=>?_)
  refine jb fun r_10 h_11=>?_
  refine jr0 [cp 2 (M5 _ h_11) [(0,1),(1,2)] 4] (hr:=?_)
  refine jc (h1:=fun b_13=>?_) (h2:=fun b_13=>?_)
  ·refine jm 2 (hr:=?_)
   exact jt (rl (rr []))
  ·refine jm 3 (hr:=?_)
   exact jx _ rfl []
 ·refine jq 0 (ql (qh ?_))
  refine jm 2 (hr:=?_)
  exact jt (rr [])
theorem RZ {K l_1}:FS Tryz.prog 90 1 [.c (.h 0)] [(0,.row kE l_1)] (AV K l_1) (fun r=>cI r) fun r=>[(0,.row kE l_1)]:=by
 refine jfn (fn:=Tryz.f90) Tryz.func90 (jy (AV.eq_1 ..) ?_)
 refine jm 6 (hr:=?_)
 refine jl (X:=Int) (fun k x=>AV.l0 K l_1 k x) K _ rfl 1 [] (fun x_4=>[(0,.c (.h 0)),(3,cI x_4)]) (fun x_4=>[(0,.row kE l_1)]) (fun _=>rfl) (round:=fun k x_4=>jy (AV.l0.eq_2 ..) ?_)
 refine jm 3 (hr:=?_)
 refine jc (h1:=fun b_6=>?_) (h2:=fun b_6=>?_)
 ·refine jm 4 (hr:=?_)
  refine jp fun c_8=>?_
  refine jw [] [] [0≤(w6 (x_4 - (1:Int))),(w6 (x_4 - (1:Int)))<(lnI l_1),0≤(w6 (x_4 - (1:Int))),(w6 (x_4 - (1:Int)))<(lnI l_1),0≤(w6 (x_4 - (1:Int))),(w6 (x_4 - (1:Int)))<(lnI l_1),0≤(w6 (x_4 - (1:Int))),(w6 (x_4 - (1:Int)))<(lnI l_1),0≤x_4,x_4<(lnI l_1),0≤x_4,x_4<(lnI l_1),0≤x_4,x_4<(lnI l_1),0≤x_4,x_4<(lnI l_1),0≤x_4,x_4<(lnI l_1)] (ap2 c_8.1 (ap2 c_8.2.1 (ap2 c_8.1 (ap2 c_8.2.1 (ap2 c_8.1 (ap2 c_8.2.1 (ap2 c_8.1 (ap2 c_8.2.1 (ap2 c_8.2.2.1 (ap2 c_8.2.2.2 (ap2 c_8.2.2.1 (ap2 c_8.2.2.2 (ap2 c_8.2.2.1 (ap2 c_8.2.2.2 (ap2 c_8.2.2.1 (ap2 c_8.2.2.2 (ap2 c_8.2.2.1 (ap1 c_8.2.2.2)))))))))))))))))) (hr:=?_)
  refine jm 1 (hr:=?_)
  refine ja (Y:=Bool) 3 (fun y_23=>[(0,.c (.h 0)),(3,cI x_4),(39,cB y_23)]) (fun y_23=>[(0,.row kE l_1)]) (h1:=?_) (h2:=fun y_23=>?_)
  ·refine js (fun b_10=>?_) fun b_10=>?_
   ·refine jr [] [(26,true)] [(decide ((List.getD l_1 (Int.toNat x_4) zE).1<(List.getD l_1 (Int.toNat (w6 (x_4 - (1:Int)))) zE).2.1))=true] (ap1 b_10) (hr:=?_)
    exact jo []
   ·refine js (fun b_12=>?_) fun b_12=>?_
    ·refine jr [] [(26,false),(32,true)] [(decide ((List.getD l_1 (Int.toNat x_4) zE).1<(List.getD l_1 (Int.toNat (w6 (x_4 - (1:Int)))) zE).2.1))=false,((List.getD l_1 (Int.toNat (w6 (x_4 - (1:Int)))) zE).1==(List.getD l_1 (Int.toNat x_4) zE).1)=true] (ap2 b_10 (ap1 b_12)) (hr:=?_)
     exact jo []
    ·refine jr [] [(26,false),(32,false)] [(decide ((List.getD l_1 (Int.toNat x_4) zE).1<(List.getD l_1 (Int.toNat (w6 (x_4 - (1:Int)))) zE).2.1))=false,((List.getD l_1 (Int.toNat (w6 (x_4 - (1:Int)))) zE).1==(List.getD l_1 (Int.toNat x_4) zE).1)=false] (ap2 b_10 (ap1 b_12)) (hr:=?_)
     exact jo []
  ·refine jc (h1:=fun b_16=>?_) (h2:=fun b_16=>?_)
   ·refine jm 2 (hr:=?_)
    exact jt (rl (rr []))
   ·refine jm 3 (hr:=?_)
    exact jx _ rfl []
 ·refine jq 0 (ql (qh ?_))
  refine jm 2 (hr:=?_)
  exact jt (rr [])
theorem RU {K l_1 e_2}:FS Tryz.prog 87 1 [.c (.h 0),cI e_2,.c (.clo 91 [])] [(0,.row kE l_1)] (B4 K l_1 e_2) (fun r=>cI r) fun r=>[(0,.row kE l_1)]:=by
 refine jfn (fn:=Tryz.f87) Tryz.func87 (jy (B4.eq_1 ..) ?_)
 refine jm 6 (hr:=?_)
 refine jl (X:=Int) (fun k x=>B4.l0 K l_1 e_2 k x) K _ rfl 1 [] (fun x_5=>[(1,cI e_2),(2,.c (.clo 91 [])),(9,.c (.h 0)),(10,cI (lnI l_1)),(11,cI x_5)]) (fun x_5=>[(0,.row kE l_1)]) (fun _=>rfl) (round:=fun k x_5=>jy (B4.l0.eq_2 ..) ?_)
 refine jm 3 (hr:=?_)
 refine jc (h1:=fun b_7=>?_) (h2:=fun b_7=>?_)
 ·refine ji 6 (hr:=fun c_8=>?_)
  refine jb fun r_9 h_10=>?_
  refine jr0 [cp 2 (M6 _ h_10) [] 2] (hr:=?_)
  refine jc (h1:=fun b_12=>?_) (h2:=fun b_12=>?_)
  ·refine jm 2 (hr:=?_)
   exact jt (rl (rr []))
  ·refine jm 3 (hr:=?_)
   exact jx _ rfl []
 ·refine jq 0 (ql (qh ?_))
  refine jm 2 (hr:=?_)
  exact jt (rr [])
theorem RX {K s_1 l_2}:FS Tryz.prog 92 1 [cS s_1,.c (.h 0)] [(0,.row kE l_2)] (AC K s_1 l_2) (fun r=>cI r) fun r=>[(0,.row kE l_2)]:=by
 refine jfn (fn:=Tryz.f92) Tryz.func92 (jy (AC.eq_1 ..) ?_)
 refine jm 7 (hr:=?_)
 refine ja (Y:=Int) 1 (fun y_33=>[(1,.c (.h 0)),(5,cI y_33)]) (fun y_33=>[(0,.row kE l_2)]) (h1:=?_) (h2:=fun y_33=>?_)
 ·refine jm 1 (hr:=?_)
  refine jl (X:=(Int×Int)) (fun k x=>AC.l0 K l_2 s_1 k x.1 x.2) K ((w6 ((20000:Int) - (((ByteArray.size s_1):Nat):Int))),(0:Int)) rfl 1 [] (fun x_7=>[(0,cS s_1),(1,.c (.h 0)),(5,cI x_7.1),(13,.c (.h 0)),(14,cI (lnI l_2)),(15,cI x_7.2)]) (fun x_7=>[(0,.row kE l_2)]) (fun _=>rfl) (round:=fun k x_7=>jy (AC.l0.eq_2 ..) ?_)
  refine jm 3 (hr:=?_)
  refine jc (h1:=fun b_9=>?_) (h2:=fun b_9=>?_)
  ·refine ji 6 (hr:=fun c_10=>?_)
   refine jm 2 (hr:=?_)
   exact jx ((w6 (x_7.1+(mn2 (mx2 (w6 ((List.getD l_2 (Int.toNat x_7.2) zE).2.1 - (List.getD l_2 (Int.toNat x_7.2) zE).1)) (0:Int)) (((ByteArray.size s_1):Nat):Int)))),(w6 (x_7.2+(1:Int)))) rfl []
  ·refine jq 0 (ql (qh ?_))
   exact jo []
 ·refine jm 3 (hr:=?_)
  refine ja2 (Y:=Int) 1 (fun y_34=>[(5,cI y_34)]) (fun y_34=>[(0,.row kE l_2)]) (h1:=?_) (h2:=fun y_34=>?_)
  ·refine jm 1 (hr:=?_)
   refine jl (X:=(Int×Int)) (fun k x=>AC.l1 K l_2 k x.1 x.2) K (y_33,(0:Int)) rfl 1 [] (fun x_17=>[(5,cI x_17.1),(31,.c (.h 0)),(32,cI (lnI l_2)),(33,cI x_17.2)]) (fun x_17=>[(0,.row kE l_2)]) (fun _=>rfl) (round:=fun k x_17=>jy (AC.l1.eq_2 ..) ?_)
   refine jm 3 (hr:=?_)
   refine jc (h1:=fun b_19=>?_) (h2:=fun b_19=>?_)
   ·refine ji 8 (hr:=fun c_20=>?_)
    refine jc (h1:=fun b_21=>?_) (h2:=fun b_21=>?_)
    ·refine jm 2 (hr:=?_)
     exact jt (rl (rc (rr [])))
    ·refine jm 4 (hr:=?_)
     exact jx ((w6 (x_17.1 - (((ByteArray.size (List.getD l_2 (Int.toNat x_17.2) zE).2.2):Nat):Int))),(w6 (x_17.2+(1:Int)))) rfl []
   ·refine jq 2 (ql (qh ?_))
    exact jo []
  ·refine jm 3 (hr:=?_)
   refine jc (h1:=fun b_26=>?_) (h2:=fun b_26=>?_)
   ·refine jm 2 (hr:=?_)
    exact jt (rr [])
   ·refine jm 3 (hr:=?_)
    exact jt (rr [])
theorem HK {K s_1 l_2}:FS Tryz.prog 52 1 [cS s_1,.c (.h 0)] [(0,.row kE l_2)] (AN K s_1 l_2) (fun r=>cI r) fun r=>[(0,.row kE l_2)]:=by
 refine jfn (fn:=Tryz.f52) Tryz.func52 (jy (AN.eq_1 ..) ?_)
 refine jm 5 (hr:=?_)
 refine jb fun r_4 h_5=>?_
 refine jr0 [cp 1 (DY _ h_5) [] 2] (hr:=?_)
 refine jc (h1:=fun b_7=>?_) (h2:=fun b_7=>?_)
 ·refine jm 2 (hr:=?_)
  exact jt (rr [])
 ·refine jm 2 (hr:=?_)
  refine jc (h1:=fun b_10=>?_) (h2:=fun b_10=>?_)
  ·refine jm 2 (hr:=?_)
   exact jt (rr [])
  ·refine jm 6 (hr:=?_)
   refine jb fun r_13 h_14=>?_
   refine jb fun r_15 h_16=>?_
   refine jb fun r_17 h_18=>?_
   refine jb fun r_19 h_20=>?_
   refine jb fun r_21 h_22=>?_
   refine jw0 [cp 2 (RR _ h_14) [(0,0),(1,1)] 3,cp 5 (RT _ h_16) [(0,0),(1,2),(2,1)] 3,cp 7 (RZ _ h_18) [(0,0)] 3,cp 9 (RU _ h_20) [(0,0)] 3,cp 12 (RX _ h_22) [(0,0)] 3] (hr:=?_)
   refine jm 1 (hr:=?_)
   refine jl (X:=Int) (fun k x=>AN.l0 K r_13 r_15 r_17 r_19 r_21 k x) K _ rfl 4 [] (fun x_26=>[(30,.c (.h 3)),(31,cI (lnI ([r_13,r_15,r_17,r_19,r_21]:List Int))),(32,cI x_26)]) (fun x_26=>[(0,.row kE l_2),(3,.row (.int .i64) ([r_13,r_15,r_17,r_19,r_21]:List Int))]) (fun _=>rfl) (round:=fun k x_26=>jy (AN.l0.eq_2 ..) ?_)
   refine jm 3 (hr:=?_)
   refine jc (h1:=fun b_28=>?_) (h2:=fun b_28=>?_)
   ·refine ji 7 (hr:=fun c_29=>?_)
    refine jc (h1:=fun b_30=>?_) (h2:=fun b_30=>?_)
    ·refine jm 2 (hr:=?_)
     exact jt (rl (rr []))
    ·refine jm 3 (hr:=?_)
     exact jx _ rfl []
   ·refine jq 1 (ql (qh ?_))
    refine jm 2 (hr:=?_)
    exact jt (rr [])
theorem RL {K l_1 rev_2 undone_3 c_4 rank_5}:FS Tryz.prog 94 2 [.c (.imm (.slice kAt) l_1),cI rev_2,.c (.h 0),.c (.h 1),cI rank_5] [(0,.row (.int .i64) undone_3),(1,.row kE c_4)] (B1 K l_1 rev_2 undone_3 c_4 rank_5) (fun r=>.c (.h 2)) fun r=>[(0,.row (.int .i64) undone_3),(1,.row kE c_4),(2,.row (.int .i64) r)]:=by
 refine jfn (fn:=Tryz.f94) Tryz.func94 (jy (B1.eq_1 ..) ?_)
 refine jm 4 (hr:=?_)
 refine jb fun r_7 h_8=>?_
 refine jb fun r_9 h_10=>?_
 refine jr0 [cp 3 (E1 _ h_8) [(0,0)] 2,cp 5 (HK _ h_10) [(0,1)] 2] (hr:=?_)
 refine jc (h1:=fun b_12=>?_) (h2:=fun b_12=>?_)
 ·refine jm 2 (hr:=?_)
  refine jg [.nilSlot 10 (.int .i64)] ?_
  exact jt (rr [])
 ·refine jm 2 (hr:=?_)
  refine jb fun r_15 h_16=>?_
  refine jr0 [cp 3 (H6 _ h_16) [(0,0),(1,2)] 3] (hr:=?_)
  refine jm 6 (hr:=?_)
  refine jg [.nilSlot 12 (.int .i64)] ?_
  refine jl (X:=((List Int)×Int)) (fun k x=>B1.l0 K c_4 l_1 r_15 rev_2 undone_3 rank_5 k x.1 x.2) K (([]:List Int),(0:Int)) rfl 8 [(7,3)] (fun x_30=>[(0,.c (.imm (.slice kAt) l_1)),(1,cI rev_2),(2,.c (.h 0)),(4,cI rank_5),(11,.c (.h 2)),(12,.c (.h 7)),(26,.c (.h 1)),(27,cI (lnI c_4)),(28,cI x_30.2)]) (fun x_30=>[(0,.row (.int .i64) undone_3),(1,.row kE c_4),(2,.row (.int .i64) r_15),(7,.row (.int .i64) x_30.1)]) (fun _=>rfl) (round:=fun k x_30=>jy (B1.l0.eq_2 ..) ?_)
  refine jm 3 (hr:=?_)
  refine jc (h1:=fun b_32=>?_) (h2:=fun b_32=>?_)
  ·refine ji 5 (hr:=fun c_33=>?_)
   refine jb fun r_34 h_35=>?_
   refine jri [cp 8 (M9 _ h_35) [(0,2),(1,0)] 9] [] (hr:=fun c_36=>?_)
   refine jm 2 (hr:=?_)
   exact jx ((x_30.1++([r_34]:List Int)),(w6 (x_30.2+(1:Int)))) rfl [(7,10)]
  ·refine jq 0 (ql (qh ?_))
   refine jm 2 (hr:=?_)
   exact jt (rr [(2,7)])
theorem RJ {K l_1 rev_2 undone_3 c_4}:FS Tryz.prog 95 2 [.c (.imm (.slice kAt) l_1),cI rev_2,.c (.h 0),.c (.h 1)] [(0,.row (.int .i64) undone_3),(1,.row kE c_4)] (AB K l_1 rev_2 undone_3 c_4) (fun r=>.c (.h 2)) fun r=>[(0,.row (.int .i64) undone_3),(1,.row kE c_4),(2,.row (.int .i64) r)]:=by
 refine jfn (fn:=Tryz.f95) Tryz.func95 (jy (AB.eq_1 ..) ?_)
 refine jm 5 (hr:=?_)
 refine jb fun r_6 h_7=>?_
 refine jb fun r_8 h_9=>?_
 refine jr0 [cp 3 (E1 _ h_7) [(0,0)] 2,cp 5 (HK _ h_9) [(0,1)] 2] (hr:=?_)
 refine jc (h1:=fun b_11=>?_) (h2:=fun b_11=>?_)
 ·refine jm 2 (hr:=?_)
  refine jg [.nilSlot 8 (.int .i64)] ?_
  exact jt (rr [])
 ·refine jm 2 (hr:=?_)
  refine jb fun r_14 h_15=>?_
  refine jr0 [cp 3 (H6 _ h_15) [(0,0),(1,2)] 3] (hr:=?_)
  refine jm 8 (hr:=?_)
  refine jg [.nilSlot 10 (.int .i64)] ?_
  refine jl (X:=((List Int)×Int)) (fun k x=>AB.l0 K l_1 rev_2 undone_3 c_4 r_14 k x.1 x.2) K (([]:List Int),(0:Int)) rfl 10 [(9,3)] (fun x_47=>[(1,cI rev_2),(2,.c (.h 0)),(3,.c (.h 1)),(9,.c (.h 2)),(10,.c (.h 9)),(26,.c (.imm (.slice kAt) l_1)),(27,cI (lnI l_1)),(28,cI x_47.2)]) (fun x_47=>[(0,.row (.int .i64) undone_3),(1,.row kE c_4),(2,.row (.int .i64) r_14),(9,.row (.int .i64) x_47.1)]) (fun _=>rfl) (round:=fun k x_47=>jy (AB.l0.eq_2 ..) ?_)
  refine jm 3 (hr:=?_)
  refine jc (h1:=fun b_49=>?_) (h2:=fun b_49=>?_)
  ·refine jm 2 (hr:=?_)
   refine ja (Y:=(List Int)) 15 (fun y_79=>[(1,cI rev_2),(2,.c (.h 0)),(3,.c (.h 1)),(9,.c (.h 2)),(10,.c (.h 14)),(26,.c (.imm (.slice kAt) l_1)),(27,cI (lnI l_1)),(28,cI x_47.2)]) (fun y_79=>[(0,.row (.int .i64) undone_3),(1,.row kE c_4),(2,.row (.int .i64) r_14),(14,.row (.int .i64) y_79)]) (h1:=?_) (h2:=fun y_79=>?_)
   ·refine ji 5 (hr:=fun c_51=>?_)
    refine jb fun r_52 h_53=>?_
    refine jr0 [cp 3 (E2 _ h_53) [(0,0)] 11] (hr:=?_)
    refine jc (h1:=fun b_55=>?_) (h2:=fun b_55=>?_)
    ·refine jm 1 (hr:=?_)
     exact jo [(14,9)]
    ·refine jm 4 (hr:=?_)
     refine jl (X:=Int) (fun k x=>AB.l1 K c_4 r_14 x_47.2 x_47.1 k x) K _ rfl 11 [] (fun x_59=>[(1,cI rev_2),(2,.c (.h 0)),(3,.c (.h 1)),(9,.c (.h 2)),(10,.c (.h 9)),(11,cI x_47.2),(26,.c (.imm (.slice kAt) l_1)),(27,cI (lnI l_1)),(28,cI x_47.2),(38,.c (.h 1)),(39,cI (lnI c_4)),(40,cI x_59)]) (fun x_59=>[(0,.row (.int .i64) undone_3),(1,.row kE c_4),(2,.row (.int .i64) r_14),(9,.row (.int .i64) x_47.1)]) (fun _=>rfl) (round:=fun k x_59=>jy (AB.l1.eq_2 ..) ?_)
     refine jm 3 (hr:=?_)
     refine jc (h1:=fun b_61=>?_) (h2:=fun b_61=>?_)
     ·refine ji 6 (hr:=fun c_62=>?_)
      refine ja (Y:=Bool) 12 (fun y_80=>[(1,cI rev_2),(2,.c (.h 0)),(3,.c (.h 1)),(9,.c (.h 2)),(10,.c (.h 9)),(11,cI x_47.2),(26,.c (.imm (.slice kAt) l_1)),(27,cI (lnI l_1)),(28,cI x_47.2),(38,.c (.h 1)),(39,cI (lnI c_4)),(40,cI x_59),(59,cB y_80)]) (fun y_80=>[(0,.row (.int .i64) undone_3),(1,.row kE c_4),(2,.row (.int .i64) r_14),(9,.row (.int .i64) x_47.1)]) (h1:=?_) (h2:=fun y_80=>?_)
      ·refine js (fun b_63=>?_) fun b_63=>?_
       ·refine jp fun c_64=>?_
        refine jw [] [(51,true)] [0≤x_47.2,x_47.2<(lnI r_14),(decide ((List.getD r_14 (Int.toNat x_47.2) (0:Int))≥(List.getD c_4 (Int.toNat x_59) zE).1))=true,0≤x_47.2,x_47.2<(lnI r_14)] (ap2 c_51.1 (ap2 c_64 (ap2 b_63 (ap2 c_51.1 (ap1 c_64))))) (hr:=?_)
        exact jo []
       ·refine jp fun c_65=>?_
        refine jw [] [(51,false)] [0≤x_47.2,x_47.2<(lnI r_14),(decide ((List.getD r_14 (Int.toNat x_47.2) (0:Int))≥(List.getD c_4 (Int.toNat x_59) zE).1))=false] (ap2 c_51.1 (ap2 c_65 (ap1 b_63))) (hr:=?_)
        exact jo []
      ·refine jc (h1:=fun b_67=>?_) (h2:=fun b_67=>?_)
       ·refine ji 2 (hr:=fun c_68=>?_)
        refine jq 1 (ql (qh ?_))
        exact jo [(14,13)]
       ·refine jm 3 (hr:=?_)
        exact jx _ rfl []
     ·refine jq 2 (ql (qh ?_))
      refine jm 1 (hr:=?_)
      exact jo [(14,9)]
   ·refine jm 1 (hr:=?_)
    exact jx (y_79,(w6 (x_47.2+(1:Int)))) rfl [(9,14)]
  ·refine jq 0 (ql (qh ?_))
   refine jm 2 (hr:=?_)
   exact jt (rr [(2,9)])
theorem RN {K l_1 rev_2 undone_3 c_4 now_5 group_6 rank_7}:FS Tryz.prog 54 2 [.c (.imm (.slice kAt) l_1),cI rev_2,.c (.h 0),.c (.h 1),cI now_5,cI group_6,cI rank_7] [(0,.row (.int .i64) undone_3),(1,.row kE c_4)] (A6 K l_1 rev_2 undone_3 c_4 now_5 group_6 rank_7) (fun r=>.c (.h 2)) fun r=>[(0,.row (.int .i64) undone_3),(1,.row kE c_4),(2,.row kAt r)]:=by
 refine jfn (fn:=Tryz.f54) Tryz.func54 (jy (A6.eq_1 ..) ?_)
 refine jm 3 (hr:=?_)
 refine jb fun r_9 h_10=>?_
 refine jr0 [cp 5 (RL _ h_10) [(0,0),(1,1),(2,2)] 3] (hr:=?_)
 refine jm 2 (hr:=?_)
 refine jb fun r_13 h_14=>?_
 refine jb fun r_15 h_16=>?_
 refine jr0 [cp 3 (E1 _ h_14) [(0,0)] 3,cp 5 (HK _ h_16) [(0,1)] 3] (hr:=?_)
 refine jc (h1:=fun b_18=>?_) (h2:=fun b_18=>?_)
 ·refine jm 1 (hr:=?_)
  refine jb fun r_20 h_21=>?_
  refine jr0 [cp 1 (EJ _ h_21) [(0,3)] 4] (hr:=?_)
  refine jg0 (.un 3) (hr:=?_)
  exact jt (rr [(2,4)])
 ·refine jp fun c_23=>?_
  refine jn 7 [(0:Int)≤(0:Int),(0:Int)≤(lnI l_1),(lnI l_1) * 64≤(140737488355328:Int),(lnI l_1)≤(9223372036854775807:Int),(0:Int)≤(lnI l_1),(lnI l_1)≤(lnI l_1),(lnI l_1) * 1≤(140737488355328:Int),(lnI l_1)≤(9223372036854775807:Int)] (ap2 (by decide) (ap2 c_23.1 (ap2 c_23.2.1 (ap2 c_23.2.2.1 (ap2 c_23.1 (ap2 c_23.2.2.2.1 (ap2 c_23.2.2.2.2 (ap1 c_23.2.2.1)))))))) (hr:=?_)
  refine jb fun r_24 h_25=>?_
  refine jr0 [cp 4 (RJ _ h_25) [(0,0),(1,1),(2,5)] 6] (hr:=?_)
  refine ja (Y:=(List Bool)) 6 (fun y_93=>[(0,.c (.imm (.slice kAt) l_1)),(3,.c (.h 1)),(4,cI now_5),(5,cI group_6),(6,cI rank_7),(15,.c (.h 2)),(16,.c (.h 3)),(17,.c (.h 4))]) (fun y_93=>[(0,.row (.int .i64) undone_3),(1,.row kE c_4),(2,.row (.int .i64) r_9),(3,.row kAt (List.replicate 0 zAt)),(4,.row .bool y_93)]) (h1:=?_) (h2:=fun y_93=>?_)
  ·refine jm 1 (hr:=?_)
   refine jl (X:=((List Bool)×Int)) (fun k x=>A6.l0 K r_24 k x.1 x.2) K ((List.replicate (Int.toNat (lnI l_1)) false),(0:Int)) rfl 6 [] (fun x_35=>[(0,.c (.imm (.slice kAt) l_1)),(3,.c (.h 1)),(4,cI now_5),(5,cI group_6),(6,cI rank_7),(15,.c (.h 2)),(16,.c (.h 3)),(17,.c (.h 4)),(50,.c (.h 5)),(51,cI (lnI r_24)),(52,cI x_35.2)]) (fun x_35=>[(0,.row (.int .i64) undone_3),(1,.row kE c_4),(2,.row (.int .i64) r_9),(3,.row kAt (List.replicate 0 zAt)),(4,.row .bool x_35.1),(5,.row (.int .i64) r_24)]) (fun _=>rfl) (round:=fun k x_35=>jy (A6.l0.eq_2 ..) ?_)
   refine jm 3 (hr:=?_)
   refine jc (h1:=fun b_37=>?_) (h2:=fun b_37=>?_)
   ·refine ji 6 (hr:=fun c_38=>?_)
    refine jm 2 (hr:=?_)
    exact jx ((List.set x_35.1 (Int.toNat (List.getD r_24 (Int.toNat x_35.2) (0:Int))) true),(w6 (x_35.2+(1:Int)))) rfl []
   ·refine jq 0 (ql (qh ?_))
    exact jo []
  ·refine jn 3 [(0:Int)≤(lnI l_1),(lnI l_1)≤(lnI l_1),(lnI l_1) * 64≤(140737488355328:Int),(lnI l_1)≤(9223372036854775807:Int)] (ap2 c_23.1 (ap2 c_23.2.2.2.1 (ap2 c_23.2.1 (ap1 c_23.2.2.1)))) (hr:=?_)
   refine jb fun r_42 h_43=>?_
   refine jri [cp 2 (EJ _ h_43) [(0,7)] 8] [] (hr:=fun c_44=>?_)
   refine jm 3 (hr:=?_)
   refine ja (Y:=(List AtT)) 12 (fun y_94=>[(3,.c (.h 1)),(4,cI now_5),(5,cI group_6),(6,cI rank_7),(15,.c (.h 2)),(16,.c (.h 3)),(20,.c (.h 11))]) (fun y_94=>[(0,.row (.int .i64) undone_3),(1,.row kE c_4),(2,.row (.int .i64) r_9),(3,.row kAt (List.replicate 0 zAt)),(11,.aown y_94)]) (h1:=?_) (h2:=fun y_94=>?_)
   ·refine jm 1 (hr:=?_)
    refine jl (X:=((List AtT)×Int)) (fun k x=>A6.l1 K r_42 y_93 now_5 group_6 k x.1 x.2) K (r_42,(0:Int)) rfl 12 [(11,8)] (fun x_57=>[(3,.c (.h 1)),(4,cI now_5),(5,cI group_6),(6,cI rank_7),(15,.c (.h 2)),(16,.c (.h 3)),(17,.c (.h 4)),(20,.c (.h 11)),(68,cI (lnI r_42)),(69,cI x_57.2)]) (fun x_57=>[(0,.row (.int .i64) undone_3),(1,.row kE c_4),(2,.row (.int .i64) r_9),(3,.row kAt (List.replicate 0 zAt)),(4,.row .bool y_93),(11,.aown x_57.1)]) (fun _=>rfl) (round:=fun k x_57=>jy (A6.l1.eq_2 ..) ?_)
    refine jm 3 (hr:=?_)
    refine jc (h1:=fun b_59=>?_) (h2:=fun b_59=>?_)
    ·refine ji 7 (hr:=fun c_60=>?_)
     refine jc (h1:=fun b_61=>?_) (h2:=fun b_61=>?_)
     ·refine jp fun c_62=>?_
      refine jn 1 [0≤x_57.2,x_57.2<(lnI x_57.1),(Int.toNat x_57.2)<(List.length x_57.1),(List.length (List.getD x_57.1 (Int.toNat x_57.2) zAt).2.2.2.2+List.length ([(now_5,group_6)]:List (Int×Int))) * 16≤140737488355328,0≤x_57.2,x_57.2<(lnI x_57.1),(Int.toNat x_57.2)=(Int.toNat x_57.2),(Int.toNat x_57.2)=(Int.toNat x_57.2)] (ap2 c_60.1 (ap2 c_62.1 (ap2 c_62.2.1 (ap2 c_62.2.2.1 (ap2 c_60.1 (ap2 c_62.1 (ap2 c_62.2.2.2 (ap1 c_62.2.2.2)))))))) (hr:=?_)
      refine jm 2 (hr:=?_)
      exact jx ((setCut x_57.1 (Int.toNat x_57.2) ((List.getD x_57.1 (Int.toNat x_57.2) zAt).2.2.2.2++([(now_5,group_6)]:List (Int×Int)))),(w6 (x_57.2+(1:Int)))) rfl [(11,13)]
     ·refine jm 3 (hr:=?_)
      exact jx (x_57.1,(w6 (x_57.2+(1:Int)))) rfl []
    ·refine jq 2 (ql (qh ?_))
     exact jo []
   ·refine jm 6 (hr:=?_)
    refine jg0 (.un 11) (hr:=?_)
    refine jl (X:=((List AtT)×Int×Int)) (fun k x=>A6.l2 K c_4 r_9 y_94 now_5 group_6 rank_7 k x.1 x.2.1 x.2.2) K ((List.replicate 0 zAt),(0:Int),(0:Int)) rfl 19 [(17,3),(18,12)] (fun x_81=>[(4,cI now_5),(5,cI group_6),(6,cI rank_7),(15,.c (.h 2)),(16,.c (.h 17)),(20,.c (.h 18)),(22,cI x_81.2.1),(91,.c (.h 1)),(92,cI (lnI c_4)),(93,cI x_81.2.2)]) (fun x_81=>[(0,.row (.int .i64) undone_3),(1,.row kE c_4),(2,.row (.int .i64) r_9),(17,.row kAt x_81.1),(18,.row kAt y_94)]) (fun _=>rfl) (round:=fun k x_81=>jy (A6.l2.eq_2 ..) ?_)
    refine jm 3 (hr:=?_)
    refine jc (h1:=fun b_83=>?_) (h2:=fun b_83=>?_)
    ·refine jp fun c_84=>?_
     refine jn 8 [0≤x_81.2.2,x_81.2.2<(lnI c_4),0≤x_81.2.2,x_81.2.2<(lnI r_9),(0:Int)≤x_81.2.1,x_81.2.1≤(List.getD r_9 (Int.toNat x_81.2.2) (0:Int)),(List.getD r_9 (Int.toNat x_81.2.2) (0:Int))≤(lnI y_94),(List.length x_81.1+List.length (List.take ((Int.toNat (List.getD r_9 (Int.toNat x_81.2.2) (0:Int))) - (Int.toNat x_81.2.1)) (List.drop (Int.toNat x_81.2.1) y_94))) * 64≤140737488355328] (ap2 c_84.1 (ap2 c_84.2.1 (ap2 c_84.1 (ap2 c_84.2.2.1 (ap2 c_84.2.2.2.1 (ap2 c_84.2.2.2.2.1 (ap2 c_84.2.2.2.2.2.1 (ap1 c_84.2.2.2.2.2.2)))))))) (hr:=?_)
     refine jb fun r_85 h_86=>?_
     refine jri [cp 6 (LO _ h_86) [(0,21)] 22] [] (hr:=fun c_87=>?_)
     refine jn 3 [0≤x_81.2.2,x_81.2.2<(lnI r_9)] (ap2 c_84.1 (ap1 c_84.2.2.1)) (hr:=?_)
     exact jx (((x_81.1++(List.take ((Int.toNat (List.getD r_9 (Int.toNat x_81.2.2) (0:Int))) - (Int.toNat x_81.2.1)) (List.drop (Int.toNat x_81.2.1) y_94)))++r_85),(List.getD r_9 (Int.toNat x_81.2.2) (0:Int)),(w6 (x_81.2.2+(1:Int)))) rfl [(17,22)]
    ·refine jq 4 (ql (qh ?_))
     refine ji 2 (hr:=fun c_89=>?_)
     exact jt (rr [(2,19)])
theorem E8 {K e_1 e_2 e_3 e_4 e_5 base_6 group_7 rank_8 c_9}:FS Tryz.prog 17 6 [.c (.h 0),cI base_6,cI group_7,cI rank_8,.c (.h 5)] [(0,.box [.imm (.slice kAt) e_1,.h 1]),(1,.box [.h 2,.val (.int .i64 e_3),.h 3,.h 4]),(2,.sets e_2 none),(3,.map e_4),(4,.map e_5),(5,.row kE c_9)] (BJ K e_1 e_2 e_3 e_4 e_5 base_6 group_7 rank_8 c_9) (fun r=>.tup [(false,[.val (.int .i64 r.1)]),(false,[.val (.int .i64 r.2.1)])]) fun r=>[(0,.box [.imm (.slice kAt) r.2.2.1,.h 6]),(5,.row kE c_9),(6,.box [.h 7,.val (.int .i64 e_3),.h 8,.h 9]),(7,.sets r.2.2.2.1 none),(8,.map r.2.2.2.2.1),(9,.map r.2.2.2.2.2)]:=by
 refine jfn (fn:=Tryz.f17) Tryz.func17 (jy (BJ.eq_1 ..) ?_)
 refine jm 3 (hr:=?_)
 refine jb fun r_11 h_12=>?_
 refine jr0 [cp 2 (EP _ h_12) [(0,0),(1,1),(2,2),(3,3),(4,4)] 6] (hr:=?_)
 refine jm 3 (hr:=?_)
 refine jc (h1:=fun b_15=>?_) (h2:=fun b_15=>?_)
 ·refine jm 2 (hr:=?_)
  exact jt (rr [(6,1),(7,2),(8,3),(9,4)])
 ·refine jm 3 (hr:=?_)
  refine jb fun r_18 h_19=>?_
  refine jr0 [cp 2 (HK _ h_19) [(0,5)] 6] (hr:=?_)
  refine jm 2 (hr:=?_)
  refine jc (h1:=fun b_22=>?_) (h2:=fun b_22=>?_)
  ·refine jm 2 (hr:=?_)
   exact jt (rr [(6,1),(7,2),(8,3),(9,4)])
  ·refine jm 2 (hr:=?_)
   refine jb fun r_25 h_26=>?_
   refine jr0 [cp 1 (HN _ h_26) [(0,0),(1,1),(2,2),(3,3),(4,4),(5,6),(6,7),(7,8),(8,9),(9,10)] 11] (hr:=?_)
   refine jm 1 (hr:=?_)
   refine jb fun r_29 h_30=>?_
   refine jr0 [cp 5 (NU _ h_30) [(0,7),(1,8),(2,9),(3,10),(4,11)] 12] (hr:=?_)
   refine jm 4 (hr:=?_)
   refine jc (h1:=fun b_33=>?_) (h2:=fun b_33=>?_)
   ·refine jm 2 (hr:=?_)
    exact jt (rr [(6,1),(7,2),(8,3),(9,4)])
   ·refine jm 1 (hr:=?_)
    refine ja (Y:=Bool) 12 (fun y_65=>[(0,.c (.h 0)),(1,cI base_6),(2,cI group_7),(3,cI rank_8),(4,.c (.h 5)),(15,.c (.h 6)),(16,cI r_29.1),(47,cB y_65)]) (fun y_65=>[(0,.box [.imm (.slice kAt) e_1,.h 1]),(1,.box [.h 2,.val (.int .i64 e_3),.h 3,.h 4]),(2,.sets e_2 none),(3,.map e_4),(4,.map e_5),(5,.row kE c_9),(6,.box [.imm (.slice kAt) r_25.1,.h 7]),(7,.box [.h 11,.val (.int .i64 e_3),.h 9,.h 10]),(9,.map r_29.2.2.2),(10,.map r_25.2.2.2),(11,.sets r_29.2.2.1 none)]) (h1:=?_) (h2:=fun y_65=>?_)
    ·refine js (fun b_36=>?_) fun b_36=>?_
     ·refine jr [] [(50,true)] [(decide (rank_8<(0:Int)))=true] (ap1 b_36) (hr:=?_)
      exact jo []
     ·refine jr [] [(50,false)] [(decide (rank_8<(0:Int)))=false] (ap1 b_36) (hr:=?_)
      exact jo []
    ·refine jc (h1:=fun b_40=>?_) (h2:=fun b_40=>?_)
     ·refine jm 2 (hr:=?_)
      exact jt (rr [(6,1),(7,2),(8,3),(9,4)])
     ·refine jm 3 (hr:=?_)
      refine jb fun r_43 h_44=>?_
      refine jb fun r_45 h_46=>?_
      refine jw0 [cp 8 (G9 _ h_44) [(0,0),(1,1),(2,2),(3,3),(4,4),(5,12)] 13,cp 13 (RN _ h_46) [(0,12),(1,5),(2,13)] 14] (hr:=?_)
      refine jm 4 (hr:=?_)
      refine jc (h1:=fun b_49=>?_) (h2:=fun b_49=>?_)
      ·refine jm 2 (hr:=?_)
       exact jt (rr [(6,1),(7,2),(8,3),(9,4)])
      ·refine jm 1 (hr:=?_)
       refine jg [.shut 13] ?_
       refine jb fun r_52 h_53=>?_
       refine jr0 [cp 1 (JE _ h_53) [(0,6),(1,7),(2,11),(3,9),(4,10)] 14] (hr:=?_)
       refine jc (h1:=fun b_55=>?_) (h2:=fun b_55=>?_)
       ·refine jm 2 (hr:=?_)
        exact jt (rr [(6,1),(7,2),(8,3),(9,4)])
       ·refine jm 6 (hr:=?_)
        exact jt (rr [(6,7),(7,11),(8,9),(9,10)])
theorem WP {K q_1}:FS Tryz.prog 173 0 [.agg [.imm (.opt .node) q_1]] [] (II K q_1) (fun r=>cI r) fun r=>[]:=by
 refine jfn (fn:=Tryz.f173) Tryz.func173 (jy (II.eq_1 ..) ?_)
 refine jm 5 (hr:=?_)
 refine jc (h1:=fun b_3=>?_) (h2:=fun b_3=>?_)
 ·refine jm 2 (hr:=?_)
  exact jt (rr [])
 ·refine ji 3 (hr:=fun c_5=>?_)
  exact jt (rr [])
theorem tree_node_all_gr_rec {K:Nat}:∀ (k_rec:Nat) {x_1:(Option Tree)} {out_2:(List ByteArray)},FS Tryz.prog 174 1 [.c (.imm (.opt .node) x_1),.c (.h 0)] [(0,.row .str out_2)] (AM.f K k_rec x_1 out_2) (fun r=>.c (.h 1)) fun r=>[(1,.row .str r)]:=by
 intro k_rec
 induction k_rec with
 | zero => intro x_1 out_2 r H; exact (no_none H).elim
 | succ k_rec ih =>
 intro x_1 out_2
 refine jfn (fn:=Tryz.f174) Tryz.func174 (jy (AM.f.eq_2 ..) ?_)
 refine jp fun c_3=>?_
 refine jn 7 [Option.isSome x_1=true,(List.length out_2+List.length (Tree.items (Option.getD x_1 (Tree.mk [] [] 0 0 0 0 0 0)))) * 16≤140737488355328,Option.isSome x_1=true] (ap2 c_3.1 (ap2 c_3.2 (ap1 c_3.1))) (hr:=?_)
 refine jm 1 (hr:=?_)
 refine jl (X:=((List ByteArray)×Int)) (fun k x=>AM.l0 K (AM.f K k_rec) x_1 k x.1 x.2) K ((out_2++(Tree.items (Option.getD x_1 (Tree.mk [] [] 0 0 0 0 0 0)))),(0:Int)) rfl 4 [(3,1)] (fun x_16=>[(1,.c (.h 3)),(16,.c (.imm (.slice (.opt .node)) (Tree.kids (Option.getD x_1 (Tree.mk [] [] 0 0 0 0 0 0))))),(17,cI (lnI (Tree.kids (Option.getD x_1 (Tree.mk [] [] 0 0 0 0 0 0))))),(18,cI x_16.2)]) (fun x_16=>[(3,.row .str x_16.1)]) (fun _=>rfl) (round:=fun k x_16=>jy (AM.l0.eq_2 ..) ?_)
 refine jm 3 (hr:=?_)
 refine jc (h1:=fun b_18=>?_) (h2:=fun b_18=>?_)
 ·refine ji 5 (hr:=fun c_19=>?_)
  refine jb fun r_20 h_21=>?_
  refine jr0 [cp 2 (ih _ h_21) [(0,3),(1,4)] 5] (hr:=?_)
  refine jm 2 (hr:=?_)
  exact jx (r_20,(w6 (x_16.2+(1:Int)))) rfl [(3,4)]
 ·refine jq 0 (ql (qh ?_))
  refine jm 2 (hr:=?_)
  exact jt (rr [(1,3)])
theorem WS {K x_1 out_2}:FS Tryz.prog 174 1 [.c (.imm (.opt .node) x_1),.c (.h 0)] [(0,.row .str out_2)] (AM K x_1 out_2) (fun r=>.c (.h 1)) fun r=>[(1,.row .str r)]:=tree_node_all_gr_rec K
theorem WO {K q_1}:FS Tryz.prog 112 0 [.agg [.imm (.opt .node) q_1]] [] (GT K q_1) (fun r=>.c (.h 0)) fun r=>[(0,.row .str r)]:=by
 refine jfn (fn:=Tryz.f112) Tryz.func112 (jy (GT.eq_1 ..) ?_)
 refine jm 3 (hr:=?_)
 refine jb fun r_3 h_4=>?_
 refine jp fun c_5=>?_
 refine jr [cp 1 (WP _ h_4) [] 1] [] [(0:Int)≤(0:Int),(0:Int)≤r_3,r_3 * 16≤(140737488355328:Int),r_3≤(9223372036854775807:Int)] (ap2 (by decide) (ap2 c_5.1 (ap2 c_5.2.1 (ap1 c_5.2.2)))) (hr:=?_)
 refine jm 3 (hr:=?_)
 refine jc (h1:=fun b_7=>?_) (h2:=fun b_7=>?_)
 ·refine jb fun r_8 h_9=>?_
  refine jr0 [cp 3 (WS _ h_9) [(0,1),(1,2)] 3] (hr:=?_)
  refine jm 2 (hr:=?_)
  exact jt (rr [(0,2)])
 ·refine jm 3 (hr:=?_)
  exact jt (rr [(0,1)])
theorem UX {K r_1}:FS Tryz.prog 69 0 [.c (.imm (.opt (.opt .node)) r_1)] [] (BP K r_1) (fun r=>cS r) fun r=>[]:=by
 refine jfn (fn:=Tryz.f69) Tryz.func69 (jy (BP.eq_1 ..) ?_)
 refine jm 4 (hr:=?_)
 refine jg0 (.nilB 0 1 5) (hr:=?_)
 refine jm 2 (hr:=?_)
 refine jb fun r_4 h_5=>?_
 refine jri [cp 4 (WO _ h_5) [(0,2)] 3] [] (hr:=fun c_6=>?_)
 refine ja (Y:=(List Int)) 5 (fun y_33=>[(3,.c (.h 0))]) (fun y_33=>[(0,.box [.slf 0 167,.h 4]),(4,.brow 5 y_33)]) (h1:=?_) (h2:=fun y_33=>?_)
 ·refine jm 1 (hr:=?_)
  refine jl (X:=((List Int)×Int)) (fun k x=>BP.l0 K r_4 k x.1 x.2) K (([]:List Int),(0:Int)) rfl 5 [(4,1)] (fun x_18=>[(3,.c (.h 0)),(10,.c (.h 2)),(11,cI (lnI r_4)),(12,cI x_18.2)]) (fun x_18=>[(0,.box [.slf 0 167,.h 4]),(2,.row .str r_4),(4,.brow 5 x_18.1)]) (fun _=>rfl) (round:=fun k x_18=>jy (BP.l0.eq_2 ..) ?_)
  refine jm 3 (hr:=?_)
  refine jc (h1:=fun b_20=>?_) (h2:=fun b_20=>?_)
  ·refine ji 5 (hr:=fun c_21=>?_)
   refine jb fun r_22 h_23=>?_
   refine jr0 [cp 1 (OO _ h_23) [(0,0),(1,4),(2,5)] 6] (hr:=?_)
   refine jm 2 (hr:=?_)
   exact jx (r_22.2,(w6 (x_18.2+(1:Int)))) rfl [(4,5)]
  ·refine jq 0 (ql (qh ?_))
   exact jo []
 ·refine jm 1 (hr:=?_)
  refine jb fun r_28 h_29=>?_
  refine jr0 [cp 0 (KT _ h_29) [(0,0),(1,4)] 5] (hr:=?_)
  exact jt (rr [])
theorem DG {K v_1 v_2 v_3 v_4 v_5 v_6 v_7 v_8 v_9}:FS Tryz.prog 29 6 [.c (.h 0)] [(0,.box [.h 1,.imm (.opt (.opt .node)) v_6,.imm (.slice kP) v_7,.imm (.slice kS) v_8,.imm (.slice (.int .i64)) v_9]),(1,.box [.imm (.slice kAt) v_1,.h 2]),(2,.box [.h 3,.val (.int .i64 v_3),.h 4,.h 5]),(3,.sets v_2 none),(4,.map v_4),(5,.map v_5)] (CF K v_1 v_2 v_3 v_4 v_5 v_6 v_7 v_8 v_9) (fun r=>cS r) fun r=>[(0,.box [.h 1,.imm (.opt (.opt .node)) v_6,.imm (.slice kP) v_7,.imm (.slice kS) v_8,.imm (.slice (.int .i64)) v_9]),(1,.box [.imm (.slice kAt) v_1,.h 2]),(2,.box [.h 3,.val (.int .i64 v_3),.h 4,.h 5]),(3,.sets v_2 none),(4,.map v_4),(5,.map v_5)]:=by
 refine jfn (fn:=Tryz.f29) Tryz.func29 (jy (CF.eq_1 ..) ?_)
 refine jm 3 (hr:=?_)
 refine jb fun r_11 h_12=>?_
 refine jr0 [cp 4 (UX _ h_12) [] 6] (hr:=?_)
 exact jt (rr [])
theorem I7 {K s_1}:FS Tryz.prog 168 0 [cS s_1] [] (F3 K s_1) (fun r=>.c (.clo 227 [0])) fun r=>[(0,.box [.val (.string s_1)])]:=by
 refine jfn (fn:=Tryz.f168) Tryz.func168 (jy (F3.eq_1 ..) ?_)
 refine jm 4 (hr:=?_)
 exact jt (rr [])
theorem MT {K i_1 i_2 n_3}:FS Tryz.prog 158 0 [.agg [.val (.int .i64 i_1),.val (.int .i64 i_2)],cI n_3] [] (ER K i_1 i_2 n_3) (fun r=>cB r) fun r=>[]:=by
 refine jfn (fn:=Tryz.f158) Tryz.func158 (jy (ER.eq_1 ..) ?_)
 refine jm 3 (hr:=?_)
 refine js (fun b_5=>?_) fun b_5=>?_
 ·refine js (fun b_6=>?_) fun b_6=>?_
  ·refine jr [] [(8,true),(15,true)] [(decide (i_1≥(0:Int)))=true,(decide (i_1≤i_2))=true] (ap2 b_5 (ap1 b_6)) (hr:=?_)
   exact jt (rr [])
  ·refine jr [] [(8,true),(15,false)] [(decide (i_1≥(0:Int)))=true,(decide (i_1≤i_2))=false] (ap2 b_5 (ap1 b_6)) (hr:=?_)
   exact jt (rr [])
 ·refine jr [] [(8,false)] [(decide (i_1≥(0:Int)))=false] (ap1 b_5) (hr:=?_)
  exact jt (rr [])
theorem UP {K r_1 r_2 p_3}:FS Tryz.prog 227 1 [.agg [.val (.int .i64 r_1),.val (.int .i64 r_2)],.c (.h 0)] [(0,.box [.val (.string p_3)])] (I6 K r_1 r_2 p_3) (fun r=>cB r) fun r=>[(0,.box [.val (.string p_3)])]:=by
 refine jfn (fn:=Tryz.f227) Tryz.func227 (jy (I6.eq_1 ..) ?_)
 refine jm 3 (hr:=?_)
 refine jb fun r_5 h_6=>?_
 refine jb fun r_7 h_8=>?_
 refine jw0 [cp 1 (C5 _ h_6) [] 2,cp 4 (MT _ h_8) [] 2] (hr:=?_)
 exact jt (rr [])
theorem NR {K x_1 x_2 p_3}:FS Tryz.prog 215 2 [.agg [.val (.int .i64 x_1),.val (.int .i64 x_2)],.c (.h 0)] [(0,.box [.clo 227 [1]]),(1,.box [.val (.string p_3)])] (GJ K x_1 x_2 p_3) (fun r=>cB r) fun r=>[(0,.box [.clo 227 [1]]),(1,.box [.val (.string p_3)])]:=by
 refine jfn (fn:=Tryz.f215) Tryz.func215 (jy (GJ.eq_1 ..) ?_)
 refine jm 3 (hr:=?_)
 refine jb fun r_5 h_6=>?_
 refine jr0 [cp 2 (UP _ h_6) [(0,1)] 3] (hr:=?_)
 exact jt (rr [])
theorem VS {K s_1 f_2}:FS Tryz.prog 253 2 [.c (.imm (.slice kP) s_1),.c (.clo 215 [0])] [(0,.box [.clo 227 [1]]),(1,.box [.val (.string f_2)])] (BF K s_1 f_2) (fun r=>cI r) fun r=>[(0,.box [.clo 227 [1]]),(1,.box [.val (.string f_2)])]:=by
 refine jfn (fn:=Tryz.f253) Tryz.func253 (jy (BF.eq_1 ..) ?_)
 refine jm 6 (hr:=?_)
 refine jl (X:=Int) (fun k x=>BF.l0 K s_1 f_2 k x) K _ rfl 2 [] (fun x_5=>[(0,.c (.imm (.slice kP) s_1)),(1,.c (.clo 215 [0])),(7,cI (lnI s_1)),(8,cI x_5)]) (fun x_5=>[(0,.box [.clo 227 [1]]),(1,.box [.val (.string f_2)])]) (fun _=>rfl) (round:=fun k x_5=>jy (BF.l0.eq_2 ..) ?_)
 refine jm 3 (hr:=?_)
 refine jc (h1:=fun b_7=>?_) (h2:=fun b_7=>?_)
 ·refine jm 6 (hr:=?_)
  refine jb fun r_9 h_10=>?_
  refine jri [cp 5 (NR _ h_10) [(0,0),(1,1)] 2] [] (hr:=fun c_11=>?_)
  refine jc (h1:=fun b_12=>?_) (h2:=fun b_12=>?_)
  ·refine jm 2 (hr:=?_)
   exact jt (rl (rr []))
  ·refine jm 3 (hr:=?_)
   exact jx _ rfl []
 ·refine jq 0 (ql (qh ?_))
  refine jm 2 (hr:=?_)
  exact jt (rr [])
theorem VI {K s_1 f_2}:FS Tryz.prog 214 2 [.c (.imm (.slice kP) s_1),.c (.clo 215 [0])] [(0,.box [.clo 227 [1]]),(1,.box [.val (.string f_2)])] (FE K s_1 f_2) (fun r=>cB r) fun r=>[(0,.box [.clo 227 [1]]),(1,.box [.val (.string f_2)])]:=by
 refine jfn (fn:=Tryz.f214) Tryz.func214 (jy (FE.eq_1 ..) ?_)
 refine jm 3 (hr:=?_)
 refine jb fun r_4 h_5=>?_
 refine jr0 [cp 2 (VS _ h_5) [(0,0),(1,1)] 2] (hr:=?_)
 exact jt (rr [])
theorem K7 {K l_1 is_2}:FS Tryz.prog 156 1 [.c (.imm (.slice kP) l_1),.c (.clo 227 [0])] [(0,.box [.val (.string is_2)])] (D7 K l_1 is_2) (fun r=>cB r) fun r=>[(0,.box [.val (.string is_2)])]:=by
 refine jfn (fn:=Tryz.f156) Tryz.func156 (jy (D7.eq_1 ..) ?_)
 refine jm 3 (hr:=?_)
 refine jb fun r_4 h_5=>?_
 refine jr0 [cp 2 (VI _ h_5) [(0,1),(1,0)] 2] (hr:=?_)
 exact jt (rr [])
theorem K6 {K s_1}:FS Tryz.prog 169 0 [cS s_1] [] (F2 K s_1) (fun r=>.c (.clo 228 [0])) fun r=>[(0,.box [.val (.string s_1)])]:=by
 refine jfn (fn:=Tryz.f169) Tryz.func169 (jy (F2.eq_1 ..) ?_)
 refine jm 4 (hr:=?_)
 exact jt (rr [])
theorem UK {K r_1 r_2 p_3}:FS Tryz.prog 228 1 [.agg [.val (.int .i64 r_1),.val (.int .i64 r_2)],.c (.h 0)] [(0,.box [.val (.string p_3)])] (I5 K r_1 r_2 p_3) (fun r=>cB r) fun r=>[(0,.box [.val (.string p_3)])]:=by
 refine jfn (fn:=Tryz.f228) Tryz.func228 (jy (I5.eq_1 ..) ?_)
 refine jm 3 (hr:=?_)
 refine jb fun r_5 h_6=>?_
 refine js (fun b_7=>?_) fun b_7=>?_
 ·refine jb fun r_8 h_9=>?_
  refine jr [cp 3 (B8 _ h_6) [] 2,cp 8 (B8 _ h_9) [] 2] [(8,true)] [r_5=true] (ap1 b_7) (hr:=?_)
  exact jt (rr [])
 ·refine jr [cp 3 (B8 _ h_6) [] 2] [(8,false)] [r_5=false] (ap1 b_7) (hr:=?_)
  exact jt (rr [])
theorem NS {K x_1 x_2 p_3}:FS Tryz.prog 215 2 [.agg [.val (.int .i64 x_1),.val (.int .i64 x_2)],.c (.h 0)] [(0,.box [.clo 228 [1]]),(1,.box [.val (.string p_3)])] (GK K x_1 x_2 p_3) (fun r=>cB r) fun r=>[(0,.box [.clo 228 [1]]),(1,.box [.val (.string p_3)])]:=by
 refine jfn (fn:=Tryz.f215) Tryz.func215 (jy (GK.eq_1 ..) ?_)
 refine jm 3 (hr:=?_)
 refine jb fun r_5 h_6=>?_
 refine jr0 [cp 2 (UK _ h_6) [(0,1)] 3] (hr:=?_)
 exact jt (rr [])
theorem VR {K s_1 f_2}:FS Tryz.prog 253 2 [.c (.imm (.slice kP) s_1),.c (.clo 215 [0])] [(0,.box [.clo 228 [1]]),(1,.box [.val (.string f_2)])] (BE K s_1 f_2) (fun r=>cI r) fun r=>[(0,.box [.clo 228 [1]]),(1,.box [.val (.string f_2)])]:=by
 refine jfn (fn:=Tryz.f253) Tryz.func253 (jy (BE.eq_1 ..) ?_)
 refine jm 6 (hr:=?_)
 refine jl (X:=Int) (fun k x=>BE.l0 K s_1 f_2 k x) K _ rfl 2 [] (fun x_5=>[(0,.c (.imm (.slice kP) s_1)),(1,.c (.clo 215 [0])),(7,cI (lnI s_1)),(8,cI x_5)]) (fun x_5=>[(0,.box [.clo 228 [1]]),(1,.box [.val (.string f_2)])]) (fun _=>rfl) (round:=fun k x_5=>jy (BE.l0.eq_2 ..) ?_)
 refine jm 3 (hr:=?_)
 refine jc (h1:=fun b_7=>?_) (h2:=fun b_7=>?_)
 ·refine jm 6 (hr:=?_)
  refine jb fun r_9 h_10=>?_
  refine jri [cp 5 (NS _ h_10) [(0,0),(1,1)] 2] [] (hr:=fun c_11=>?_)
  refine jc (h1:=fun b_12=>?_) (h2:=fun b_12=>?_)
  ·refine jm 2 (hr:=?_)
   exact jt (rl (rr []))
  ·refine jm 3 (hr:=?_)
   exact jx _ rfl []
 ·refine jq 0 (ql (qh ?_))
  refine jm 2 (hr:=?_)
  exact jt (rr [])
theorem VH {K s_1 f_2}:FS Tryz.prog 214 2 [.c (.imm (.slice kP) s_1),.c (.clo 215 [0])] [(0,.box [.clo 228 [1]]),(1,.box [.val (.string f_2)])] (FD K s_1 f_2) (fun r=>cB r) fun r=>[(0,.box [.clo 228 [1]]),(1,.box [.val (.string f_2)])]:=by
 refine jfn (fn:=Tryz.f214) Tryz.func214 (jy (FD.eq_1 ..) ?_)
 refine jm 3 (hr:=?_)
 refine jb fun r_4 h_5=>?_
 refine jr0 [cp 2 (VR _ h_5) [(0,0),(1,1)] 2] (hr:=?_)
 exact jt (rr [])
theorem NT {K l_1 is_2}:FS Tryz.prog 156 1 [.c (.imm (.slice kP) l_1),.c (.clo 228 [0])] [(0,.box [.val (.string is_2)])] (D6 K l_1 is_2) (fun r=>cB r) fun r=>[(0,.box [.val (.string is_2)])]:=by
 refine jfn (fn:=Tryz.f156) Tryz.func156 (jy (D6.eq_1 ..) ?_)
 refine jm 3 (hr:=?_)
 refine jb fun r_4 h_5=>?_
 refine jr0 [cp 2 (VH _ h_5) [(0,1),(1,0)] 2] (hr:=?_)
 exact jt (rr [])
theorem UE {K l_1 s_2}:FS Tryz.prog 147 0 [.c (.imm (.slice kP) l_1),cS s_2] [] (DN K l_1 s_2) (fun r=>cB r) fun r=>[]:=by
 refine jfn (fn:=Tryz.f147) Tryz.func147 (jy (DN.eq_1 ..) ?_)
 refine jm 4 (hr:=?_)
 refine ja (Y:=Bool) 2 (fun y_39=>[(0,.c (.imm (.slice kP) l_1)),(27,cB y_39)]) (fun y_39=>[]) (h1:=?_) (h2:=fun y_39=>?_)
 ·refine js (fun b_4=>?_) fun b_4=>?_
  ·refine jr [] [(9,true)] [(decide ((lnI l_1)<(1:Int)))=true] (ap1 b_4) (hr:=?_)
   exact jo []
  ·refine js (fun b_6=>?_) fun b_6=>?_
   ·refine jr [] [(9,false),(14,true)] [(decide ((lnI l_1)<(1:Int)))=false,(decide ((lnI l_1) > (8:Int)))=true] (ap2 b_4 (ap1 b_6)) (hr:=?_)
    exact jo []
   ·refine jb fun r_8 h_9=>?_
    refine jb fun r_10 h_11=>?_
    refine js (fun b_12=>?_) fun b_12=>?_
    ·refine jr [cp 11 (I7 _ h_9) [(0,0)] 1,cp 12 (K7 _ h_11) [(0,0)] 1] [(9,false),(14,false),(21,true)] [(decide ((lnI l_1)<(1:Int)))=false,(decide ((lnI l_1) > (8:Int)))=false,(!r_10)=true] (ap2 b_4 (ap2 b_6 (ap1 b_12))) (hr:=?_)
     exact jo []
    ·refine jb fun r_14 h_15=>?_
     refine jb fun r_16 h_17=>?_
     refine jr [cp 11 (I7 _ h_9) [(0,0)] 1,cp 12 (K7 _ h_11) [(0,0)] 1,cp 18 (K6 _ h_15) [(0,1)] 2,cp 19 (NT _ h_17) [(0,1)] 2] [(9,false),(14,false),(21,false)] [(decide ((lnI l_1)<(1:Int)))=false,(decide ((lnI l_1) > (8:Int)))=false,(!r_10)=false] (ap2 b_4 (ap2 b_6 (ap1 b_12))) (hr:=?_)
     exact jo []
 ·refine jc (h1:=fun b_20=>?_) (h2:=fun b_20=>?_)
  ·refine jm 2 (hr:=?_)
   exact jt (rr [])
  ·refine jm 5 (hr:=?_)
   refine jl (X:=Int) (fun k x=>DN.l0 K l_1 k x) K _ rfl 2 [] (fun x_24=>[(0,.c (.imm (.slice kP) l_1)),(5,cI x_24)]) (fun x_24=>[]) (fun _=>rfl) (round:=fun k x_24=>jy (DN.l0.eq_2 ..) ?_)
   refine jm 3 (hr:=?_)
   refine jc (h1:=fun b_26=>?_) (h2:=fun b_26=>?_)
   ·refine jm 4 (hr:=?_)
    refine jb fun r_28 h_29=>?_
    refine jb fun r_30 h_31=>?_
    refine jwi [cp 4 (C5 _ h_29) [] 2,cp 11 (C5 _ h_31) [] 2] [] (hr:=fun c_32=>?_)
    refine jc (h1:=fun b_33=>?_) (h2:=fun b_33=>?_)
    ·refine jm 2 (hr:=?_)
     exact jt (rl (rr []))
    ·refine jm 3 (hr:=?_)
     exact jx _ rfl []
   ·refine jq 0 (ql (qh ?_))
    refine jm 2 (hr:=?_)
    exact jt (rr [])
theorem X9 {K s_1 at_2}:FS Tryz.prog 148 0 [cS s_1,cI at_2] [] (DW K s_1 at_2) (fun r=>cI r) fun r=>[]:=by
 refine jfn (fn:=Tryz.f148) Tryz.func148 (jy (DW.eq_1 ..) ?_)
 refine jm 4 (hr:=?_)
 refine ja (Y:=Bool) 0 (fun y_21=>[(0,cS s_1),(1,cI at_2),(12,cB y_21)]) (fun y_21=>[]) (h1:=?_) (h2:=fun y_21=>?_)
 ·refine js (fun b_4=>?_) fun b_4=>?_
  ·refine jr [] [(7,true)] [(decide (at_2<(1:Int)))=true] (ap1 b_4) (hr:=?_)
   exact jo []
  ·refine jb fun r_6 h_7=>?_
   refine jr [cp 5 (B8 _ h_7) [] 0] [(7,false)] [(decide (at_2<(1:Int)))=false] (ap1 b_4) (hr:=?_)
   exact jo []
 ·refine jc (h1:=fun b_10=>?_) (h2:=fun b_10=>?_)
  ·refine jm 2 (hr:=?_)
   exact jt (rr [])
  ·refine jm 5 (hr:=?_)
   refine jl (X:=Int) (fun k x=>DW.l0 K s_1 k x) K _ rfl 0 [] (fun x_14=>[(0,cS s_1),(1,cI x_14)]) (fun x_14=>[]) (fun _=>rfl) (round:=fun k x_14=>jy (DW.l0.eq_2 ..) ?_)
   refine ji 3 (hr:=fun c_15=>?_)
   refine jc (h1:=fun b_16=>?_) (h2:=fun b_16=>?_)
   ·refine jm 6 (hr:=?_)
    exact jx _ rfl []
   ·refine jq 0 (ql (qh ?_))
    refine jm 2 (hr:=?_)
    exact jt (rr [])
theorem IY {K l_1 s_2}:FS Tryz.prog 104 0 [.c (.imm (.slice kP) l_1),cS s_2] [] (CG K l_1 s_2) (fun r=>.c (.h 0)) fun r=>[(0,.row kE r)]:=by
 refine jfn (fn:=Tryz.f104) Tryz.func104 (jy (CG.eq_1 ..) ?_)
 refine jm 5 (hr:=?_)
 refine jb fun r_4 h_5=>?_
 refine jr0 [cp 2 (UE _ h_5) [] 0] (hr:=?_)
 refine jc (h1:=fun b_7=>?_) (h2:=fun b_7=>?_)
 ·refine jm 2 (hr:=?_)
  refine jg [.nilSlot 4 kE] ?_
  exact jt (rr [])
 ·refine jm 11 (hr:=?_)
  refine jg [.nilSlot 5 kE] ?_
  refine jl (X:=((List (Int×(Int×ByteArray)))×Int×Int)) (fun k x=>CG.l0 K l_1 s_2 k x.1 x.2.1 x.2.2) K (([]:List (Int×(Int×ByteArray))),(0:Int),(0:Int)) rfl 6 [(5,0)] (fun x_33=>[(1,cS s_2),(5,.c (.h 5)),(6,cI x_33.2.1),(14,.c (.imm (.slice kP) l_1)),(15,cI (lnI l_1)),(16,cI x_33.2.2)]) (fun x_33=>[(5,.row kE x_33.1)]) (fun _=>rfl) (round:=fun k x_33=>jy (CG.l0.eq_2 ..) ?_)
  refine jm 3 (hr:=?_)
  refine jc (h1:=fun b_35=>?_) (h2:=fun b_35=>?_)
  ·refine ji 6 (hr:=fun c_36=>?_)
   refine jb fun r_37 h_38=>?_
   refine jr0 [cp 1 (C5 _ h_38) [] 7] (hr:=?_)
   refine jm 3 (hr:=?_)
   refine ja (Y:=Int) 8 (fun y_56=>[(1,cS s_2),(5,.c (.h 5)),(6,cI x_33.2.1),(9,.c (.h 7)),(14,.c (.imm (.slice kP) l_1)),(15,cI (lnI l_1)),(16,cI x_33.2.2)]) (fun y_56=>[(5,.row kE x_33.1),(7,.box [.val (.int .i64 y_56),.val (.int .i64 r_37.2)])]) (h1:=?_) (h2:=fun y_56=>?_)
   ·refine jc (h1:=fun b_41=>?_) (h2:=fun b_41=>?_)
    ·refine jb fun r_42 h_43=>?_
     refine jr0 [cp 3 (X9 _ h_43) [] 8] (hr:=?_)
     exact jo []
    ·refine jm 1 (hr:=?_)
     exact jo []
   ·refine jm 5 (hr:=?_)
    refine jc (h1:=fun b_48=>?_) (h2:=fun b_48=>?_)
    ·refine jm 2 (hr:=?_)
     exact jx (x_33.1,x_33.2.1,(w6 (x_33.2.2+(1:Int)))) rfl []
    ·refine ji 4 (hr:=fun c_50=>?_)
     refine jm 2 (hr:=?_)
     exact jx ((x_33.1++([((mx2 y_56 x_33.2.1),(r_37.2,ByteArray.empty))]:List (Int×(Int×ByteArray)))),r_37.2,(w6 (x_33.2.2+(1:Int)))) rfl [(5,9)]
  ·refine jq 0 (ql (qh ?_))
   refine jm 2 (hr:=?_)
   exact jt (rr [(0,5)])
theorem XT {K v_1 v_2 v_3 v_4 v_5 v_6 v_7 v_8 v_9 a_10 a_11 a_12 a_13 a_14 a_15 a_16 a_17}:FS Tryz.prog 64 6 [.c (.h 0),.agg [.val (.int .i64 a_10),.val (.int .i64 a_11),.val (.int .i64 a_12),.val (.int .i64 a_13),.val (.slice none 0 0),.val (.slice none 0 0),.val (.slice none 0 0),.val (.string a_14),.val (.int .i64 a_15),.val (.int .i64 a_16),.val (.int .i64 a_17)]] [(0,.box [.h 1,.imm (.opt (.opt .node)) v_6,.imm (.slice kP) v_7,.imm (.slice kS) v_8,.imm (.slice (.int .i64)) v_9]),(1,.box [.imm (.slice kAt) v_1,.h 2]),(2,.box [.h 3,.val (.int .i64 v_3),.h 4,.h 5]),(3,.sets v_2 none),(4,.map v_4),(5,.map v_5)] (H3 K v_1 v_2 v_3 v_4 v_5 v_6 v_7 v_8 v_9 a_10 a_11 a_12 a_13 a_14 a_15 a_16 a_17) (fun r=>cI r.1) fun r=>[(0,.box [.h 1,.imm (.opt (.opt .node)) v_6,.imm (.slice kP) v_7,.imm (.slice kS) v_8,.imm (.slice (.int .i64)) v_9]),(1,.box [.imm (.slice kAt) r.2.1,.h 6]),(6,.box [.h 7,.val (.int .i64 v_3),.h 8,.h 9]),(7,.sets r.2.2.1 none),(8,.map r.2.2.2.1),(9,.map r.2.2.2.2)]:=by
 refine jfn (fn:=Tryz.f64) Tryz.func64 (jy (H3.eq_1 ..) ?_)
 refine jm 10 (hr:=?_)
 refine jc (h1:=fun b_19=>?_) (h2:=fun b_19=>?_)
 ·refine jb fun r_20 h_21=>?_
  refine jw0 [cp 12 (MD _ h_21) [(0,1),(1,2),(2,3),(3,4),(4,5),(5,7),(6,8),(7,9),(8,10)] 11] (hr:=?_)
  refine jm 3 (hr:=?_)
  exact jt (rr [(6,7),(7,8),(8,9),(9,10)])
 ·refine jm 2 (hr:=?_)
  refine jc (h1:=fun b_25=>?_) (h2:=fun b_25=>?_)
  ·refine jb fun r_26 h_27=>?_
   refine jw0 [cp 6 (JC _ h_27) [(0,1),(1,2),(2,3),(3,4),(4,5),(5,7),(6,8),(7,9),(8,10)] 11] (hr:=?_)
   refine jm 3 (hr:=?_)
   exact jt (rr [(6,7),(7,8),(8,9),(9,10)])
  ·refine jm 2 (hr:=?_)
   refine jc (h1:=fun b_31=>?_) (h2:=fun b_31=>?_)
   ·refine jb fun r_32 h_33=>?_
    refine jb fun r_34 h_35=>?_
    refine jb fun r_36 h_37=>?_
    refine jw0 [cp 5 (C3 _ h_33) [(0,0),(1,1),(2,2),(3,3),(4,4),(5,5)] 7,cp 14 (IZ _ h_35) [(0,7)] 8,cp 15 (E8 _ h_37) [(0,1),(1,2),(2,3),(3,4),(4,5),(5,7),(6,8),(7,9),(8,10),(9,11)] 12] (hr:=?_)
    refine jm 3 (hr:=?_)
    exact jt (rr [(6,8),(7,9),(8,10),(9,11)])
   ·refine jm 1 (hr:=?_)
    refine jb fun r_41 h_42=>?_
    refine jb fun r_43 h_44=>?_
    refine jw0 [cp 5 (DG _ h_42) [(0,0),(1,1),(2,2),(3,3),(4,4),(5,5)] 7,cp 6 (IY _ h_44) [(0,7)] 8] (hr:=?_)
    refine jm 2 (hr:=?_)
    refine jc (h1:=fun b_47=>?_) (h2:=fun b_47=>?_)
    ·refine jb fun r_48 h_49=>?_
     refine jb fun r_50 h_51=>?_
     refine jw0 [cp 5 (C3 _ h_49) [(0,0),(1,1),(2,2),(3,3),(4,4),(5,5)] 8,cp 9 (E8 _ h_51) [(0,1),(1,2),(2,3),(3,4),(4,5),(5,7),(6,8),(7,9),(8,10),(9,11)] 12] (hr:=?_)
     refine jm 3 (hr:=?_)
     exact jt (rr [(6,8),(7,9),(8,10),(9,11)])
    ·refine jm 4 (hr:=?_)
     exact jt (rr [(6,2),(7,3),(8,4),(9,5)])
theorem R5 {K base_1}:FS Tryz.prog 149 0 [cI base_1] [] (HH K base_1) (fun r=>.c (.h 0)) fun r=>[(0,.box [.val (.int .i64 base_1),.val (.slice none 0 0)])]:=by
 refine jfn (fn:=Tryz.f149) Tryz.func149 (jy (HH.eq_1 ..) ?_)
 refine jm 4 (hr:=?_)
 exact jt (rr [])
theorem S5 {K e_1 e_2 e_3 e_4 e_5}:FS Tryz.prog 40 5 [.c (.h 0)] [(0,.box [.imm (.slice kAt) e_1,.h 1]),(1,.box [.h 2,.val (.int .i64 e_3),.h 3,.h 4]),(2,.sets e_2 none),(3,.map e_4),(4,.map e_5)] (HM K e_1 e_2 e_3 e_4 e_5) (fun r=>.c (.h 5)) fun r=>[(0,.box [.imm (.slice kAt) e_1,.h 1]),(1,.box [.h 2,.val (.int .i64 e_3),.h 3,.h 4]),(2,.sets e_2 none),(3,.map e_4),(4,.map e_5),(5,.aown r)]:=by
 refine jfn (fn:=Tryz.f40) Tryz.func40 (jy (HM.eq_1 ..) ?_)
 refine jm 3 (hr:=?_)
 refine jb fun r_7 h_8=>?_
 refine jr0 [cp 4 (EJ _ h_8) [(0,5)] 6] (hr:=?_)
 exact jt (rr [])
theorem E6 {K x_1 x_2 x_3}:FS Tryz.prog 212 0 [.agg [.val (.int .i64 x_1),.val (.int .i64 x_2),.val (.string x_3)]] [] (CI K x_1 x_2 x_3) (fun r=>cB r) fun r=>[]:=by
 refine jfn (fn:=Tryz.f212) Tryz.func212 (jy (CI.eq_1 ..) ?_)
 refine jm 4 (hr:=?_)
 exact jt (rr [])
theorem QY {K m_1 m_2 from_3 to_4}:FS Tryz.prog 152 2 [.c (.h 0),cI from_3,cI to_4] [(0,.box [.val (.int .i64 m_1),.h 1]),(1,.row kE m_2)] (FW K m_1 m_2 from_3 to_4) (fun r=>.tup []) fun r=>[(0,.box [.val (.int .i64 m_1),.h 2]),(2,.row kE r)]:=by
 refine jfn (fn:=Tryz.f152) Tryz.func152 (jy (FW.eq_1 ..) ?_)
 refine jm 3 (hr:=?_)
 refine jc (h1:=fun b_6=>?_) (h2:=fun b_6=>?_)
 ·exact jt (rr [(2,1)])
 ·refine jm 4 (hr:=?_)
  refine ja (Y:=Bool) 2 (fun y_21=>[(0,.c (.h 0)),(1,cI from_3),(2,cI to_4),(6,cI (w6 ((lnI m_2) - (1:Int)))),(42,cB y_21)]) (fun y_21=>[(0,.box [.val (.int .i64 m_1),.h 1]),(1,.row kE m_2)]) (h1:=?_) (h2:=fun y_21=>?_)
  ·refine js (fun b_8=>?_) fun b_8=>?_
   ·refine jb fun r_9 h_10=>?_
    refine js (fun b_11=>?_) fun b_11=>?_
    ·refine jp fun c_12=>?_
     refine jr [cp 11 (E6 _ h_10) [] 2] [(19,true),(30,true)] [(decide ((w6 ((lnI m_2) - (1:Int)))≥(0:Int)))=true,0≤(w6 ((lnI m_2) - (1:Int))),(w6 ((lnI m_2) - (1:Int)))<(lnI m_2),r_9=true,0≤(w6 ((lnI m_2) - (1:Int))),(w6 ((lnI m_2) - (1:Int)))<(lnI m_2)] (ap2 b_8 (ap2 c_12.1 (ap2 c_12.2 (ap2 b_11 (ap2 c_12.1 (ap1 c_12.2)))))) (hr:=?_)
     exact jo []
    ·refine jp fun c_13=>?_
     refine jr [cp 11 (E6 _ h_10) [] 2] [(19,true),(30,false)] [(decide ((w6 ((lnI m_2) - (1:Int)))≥(0:Int)))=true,0≤(w6 ((lnI m_2) - (1:Int))),(w6 ((lnI m_2) - (1:Int)))<(lnI m_2),r_9=false] (ap2 b_8 (ap2 c_13.1 (ap2 c_13.2 (ap1 b_11)))) (hr:=?_)
     exact jo []
   ·refine jr [] [(19,false)] [(decide ((w6 ((lnI m_2) - (1:Int)))≥(0:Int)))=false] (ap1 b_8) (hr:=?_)
    exact jo []
  ·refine jc (h1:=fun b_16=>?_) (h2:=fun b_16=>?_)
   ·refine ji 1 (hr:=fun c_17=>?_)
    exact je (rn' [(2,1)])
   ·refine ji 1 (hr:=fun c_18=>?_)
    exact je (rn' [(2,3)])
theorem R4 {K m_1 m_2 s_3}:FS Tryz.prog 153 2 [.c (.h 0),cS s_3] [(0,.box [.val (.int .i64 m_1),.h 1]),(1,.row kE m_2)] (FX K m_1 m_2 s_3) (fun r=>.tup []) fun r=>[(0,.box [.val (.int .i64 m_1),.h 2]),(2,.row kE r)]:=by
 refine jfn (fn:=Tryz.f153) Tryz.func153 (jy (FX.eq_1 ..) ?_)
 refine jm 3 (hr:=?_)
 refine jc (h1:=fun b_5=>?_) (h2:=fun b_5=>?_)
 ·exact jt (rr [(2,1)])
 ·refine jm 4 (hr:=?_)
  refine ja (Y:=Bool) 2 (fun y_18=>[(0,.c (.h 0)),(1,cS s_3),(4,cI (w6 ((lnI m_2) - (1:Int)))),(27,cB y_18)]) (fun y_18=>[(0,.box [.val (.int .i64 m_1),.h 1]),(1,.row kE m_2)]) (h1:=?_) (h2:=fun y_18=>?_)
  ·refine js (fun b_7=>?_) fun b_7=>?_
   ·refine jb fun r_8 h_9=>?_
    refine jp fun c_10=>?_
    refine jr [cp 11 (E6 _ h_9) [] 2] [(16,true)] [(decide ((w6 ((lnI m_2) - (1:Int)))≥(0:Int)))=true,0≤(w6 ((lnI m_2) - (1:Int))),(w6 ((lnI m_2) - (1:Int)))<(lnI m_2)] (ap2 b_7 (ap2 c_10.1 (ap1 c_10.2))) (hr:=?_)
    exact jo []
   ·refine jr [] [(16,false)] [(decide ((w6 ((lnI m_2) - (1:Int)))≥(0:Int)))=false] (ap1 b_7) (hr:=?_)
    exact jo []
  ·refine jc (h1:=fun b_13=>?_) (h2:=fun b_13=>?_)
   ·refine jp fun c_14=>?_
    refine jn 1 [0≤(w6 ((lnI m_2) - (1:Int))),(w6 ((lnI m_2) - (1:Int)))<(lnI m_2),ByteArray.size (List.getD m_2 (Int.toNat (w6 ((lnI m_2) - (1:Int)))) zE).2.2+ByteArray.size s_3≤9223372036854775807,0≤(w6 ((lnI m_2) - (1:Int))),(w6 ((lnI m_2) - (1:Int)))<(lnI m_2)] (ap2 c_14.1 (ap2 c_14.2.1 (ap2 c_14.2.2 (ap2 c_14.1 (ap1 c_14.2.1))))) (hr:=?_)
    exact je (rn' [(2,1)])
   ·refine ji 1 (hr:=fun c_15=>?_)
    exact je (rn' [(2,3)])
theorem R9 {K s_1 was_2 is_3 p_4 p_5 p_6}:FS Tryz.prog 151 4 [cS s_1,cB was_2,cB is_3,.c (.h 0),.c (.h 3)] [(0,.box [.h 1]),(1,.box [.val (.int .i64 p_4),.h 2]),(2,.row kE p_5),(3,.box [.val (.int .i64 p_6)])] (G0 K s_1 was_2 is_3 p_4 p_5 p_6) (fun r=>.tup []) fun r=>[(0,.box [.h 1]),(1,.box [.val (.int .i64 p_4),.h 4]),(3,.box [.val (.int .i64 r.2)]),(4,.row kE r.1)]:=by
 refine jfn (fn:=Tryz.f151) Tryz.func151 (jy (G0.eq_1 ..) ?_)
 refine jm 3 (hr:=?_)
 refine ja (Y:=Bool) 4 (fun y_31=>[(0,cS s_1),(1,cB was_2),(2,cB is_3),(3,.c (.h 0)),(4,.c (.h 3)),(8,cB y_31)]) (fun y_31=>[(0,.box [.h 1]),(1,.box [.val (.int .i64 p_4),.h 2]),(2,.row kE p_5),(3,.box [.val (.int .i64 p_6)])]) (h1:=?_) (h2:=fun y_31=>?_)
 ·refine js (fun b_8=>?_) fun b_8=>?_
  ·refine jr [] [(10,true)] [was_2=true] (ap1 b_8) (hr:=?_)
   exact jo []
  ·refine jr [] [(10,false)] [was_2=false] (ap1 b_8) (hr:=?_)
   exact jo []
 ·refine ja (Y:=(List (Int×(Int×ByteArray)))) 6 (fun y_32=>[(0,cS s_1),(1,cB was_2),(4,.c (.h 3))]) (fun y_32=>[(0,.box [.h 1]),(1,.box [.val (.int .i64 p_4),.h 5]),(3,.box [.val (.int .i64 p_6)]),(5,.row kE y_32)]) (h1:=?_) (h2:=fun y_32=>?_)
  ·refine jc (h1:=fun b_12=>?_) (h2:=fun b_12=>?_)
   ·refine jb fun r_13 h_14=>?_
    refine jr0 [cp 6 (QY _ h_14) [(0,1),(1,2),(2,4)] 5] (hr:=?_)
    exact jo [(5,4)]
   ·refine jm 2 (hr:=?_)
    refine jc (h1:=fun b_17=>?_) (h2:=fun b_17=>?_)
    ·refine jb fun r_18 h_19=>?_
     refine jr0 [cp 2 (R4 _ h_19) [(0,1),(1,2),(2,4)] 5] (hr:=?_)
     exact jo [(5,4)]
    ·refine jm 1 (hr:=?_)
     exact jo [(5,2)]
  ·refine jm 3 (hr:=?_)
   refine jc (h1:=fun b_24=>?_) (h2:=fun b_24=>?_)
   ·refine jm 1 (hr:=?_)
    exact je (rn' [(4,5)])
   ·refine jm 1 (hr:=?_)
    exact je (rn' [(4,5)])
theorem RB {K e_1 e_2 e_3 e_4 e_5 from_6 to_7 does_8 does_9}:FS Tryz.prog 150 8 [.c (.h 0),cI from_6,cI to_7,.c (.clo 151 [5,7])] [(0,.box [.imm (.slice kAt) e_1,.h 1]),(1,.box [.h 2,.val (.int .i64 e_3),.h 3,.h 4]),(2,.sets e_2 none),(3,.map e_4),(4,.map e_5),(5,.box [.h 6]),(6,.box [.val (.int .i64 does_8),.val (.slice none 0 0)]),(7,.box [.val (.int .i64 does_9)])] (BI K e_1 e_2 e_3 e_4 e_5 from_6 to_7 does_8 does_9) (fun r=>cI r.1) fun r=>[(0,.box [.imm (.slice kAt) e_1,.h 1]),(1,.box [.h 2,.val (.int .i64 e_3),.h 3,.h 4]),(2,.sets e_2 none),(3,.map e_4),(4,.map e_5),(5,.box [.h 6]),(6,.box [.val (.int .i64 does_8),.h 8]),(7,.box [.val (.int .i64 r.2.2)]),(8,.row kE r.2.1)]:=by
 refine jfn (fn:=Tryz.f150) Tryz.func150 (jy (BI.eq_1 ..) ?_)
 refine jm 5 (hr:=?_)
 refine ja (Y:=Bool) 8 (fun y_86=>[(0,.c (.h 0)),(1,cI from_6),(2,cI to_7),(3,.c (.clo 151 [5,7])),(24,cB y_86)]) (fun y_86=>[(0,.box [.imm (.slice kAt) e_1,.h 1]),(1,.box [.h 2,.val (.int .i64 e_3),.h 3,.h 4]),(2,.sets e_2 none),(3,.map e_4),(4,.map e_5),(5,.box [.h 6]),(6,.box [.val (.int .i64 does_8),.val (.slice none 0 0)]),(7,.box [.val (.int .i64 does_9)])]) (h1:=?_) (h2:=fun y_86=>?_)
 ·refine jb fun r_11 h_12=>?_
  refine js (fun b_13=>?_) fun b_13=>?_
  ·refine jr [cp 2 (HP _ h_12) [(0,0),(1,1),(2,2),(3,3),(4,4)] 8] [(19,true)] [(!r_11)=true] (ap1 b_13) (hr:=?_)
   exact jo []
  ·refine jb fun r_15 h_16=>?_
   refine jr [cp 2 (HP _ h_12) [(0,0),(1,1),(2,2),(3,3),(4,4)] 8,cp 7 (HP _ h_16) [(0,0),(1,1),(2,2),(3,3),(4,4)] 8] [(19,false)] [(!r_11)=false] (ap1 b_13) (hr:=?_)
   exact jo []
 ·refine jc (h1:=fun b_19=>?_) (h2:=fun b_19=>?_)
  ·refine jm 2 (hr:=?_)
   refine jg [.nilCell 6 1 kE] ?_
   exact jt (rr [])
  ·refine jm 2 (hr:=?_)
   refine jb fun r_22 h_23=>?_
   refine jb fun r_24 h_25=>?_
   refine jr0 [cp 2 (G9 _ h_23) [(0,0),(1,1),(2,2),(3,3),(4,4),(5,8)] 9,cp 5 (G9 _ h_25) [(0,0),(1,1),(2,2),(3,3),(4,4),(5,9)] 10] (hr:=?_)
   refine jm 4 (hr:=?_)
   refine jb fun r_28 h_29=>?_
   refine jr0 [cp 1 (S5 _ h_29) [(0,0),(1,1),(2,2),(3,3),(4,4),(5,10)] 11] (hr:=?_)
   refine jm 1 (hr:=?_)
   refine jg [.nilCell 6 1 kE] ?_
   refine jg0 (.un 10) (hr:=?_)
   refine jl (X:=((List (Int×(Int×ByteArray)))×Int×Int)) (fun k x=>BI.l0 K r_28 from_6 r_22 to_7 r_24 does_8 k x.1 x.2.1 x.2.2) K (([]:List (Int×(Int×ByteArray))),does_9,(0:Int)) rfl 16 [(14,11),(15,12)] (fun x_58=>[(1,cI from_6),(2,cI to_7),(3,.c (.clo 151 [5,7])),(9,.c (.h 8)),(10,.c (.h 9)),(32,.c (.h 15)),(33,cI (lnI r_28)),(34,cI x_58.2.2)]) (fun x_58=>[(0,.box [.imm (.slice kAt) e_1,.h 1]),(1,.box [.h 2,.val (.int .i64 e_3),.h 3,.h 4]),(2,.sets e_2 none),(3,.map e_4),(4,.map e_5),(5,.box [.h 6]),(6,.box [.val (.int .i64 does_8),.h 14]),(7,.box [.val (.int .i64 x_58.2.1)]),(8,.row (.int .i64) r_22),(9,.row (.int .i64) r_24),(14,.row kE x_58.1),(15,.row kAt r_28)]) (fun _=>rfl) (round:=fun k x_58=>jy (BI.l0.eq_2 ..) ?_)
   refine jm 3 (hr:=?_)
   refine jc (h1:=fun b_60=>?_) (h2:=fun b_60=>?_)
   ·refine ji 6 (hr:=fun c_61=>?_)
    refine jb fun r_62 h_63=>?_
    refine jb fun r_64 h_65=>?_
    refine jw0 [cp 3 (E2 _ h_63) [(0,8)] 17,cp 7 (E2 _ h_65) [(0,9)] 17] (hr:=?_)
    refine jm 2 (hr:=?_)
    refine ja (Y:=Bool) 17 (fun y_87=>[(1,cI from_6),(2,cI to_7),(3,.c (.clo 151 [5,7])),(9,.c (.h 8)),(10,.c (.h 9)),(12,.c (.h 16)),(13,cB r_62),(14,cB r_64),(32,.c (.h 15)),(33,cI (lnI r_28)),(34,cI x_58.2.2),(51,cB y_87)]) (fun y_87=>[(0,.box [.imm (.slice kAt) e_1,.h 1]),(1,.box [.h 2,.val (.int .i64 e_3),.h 3,.h 4]),(2,.sets e_2 none),(3,.map e_4),(4,.map e_5),(5,.box [.h 6]),(6,.box [.val (.int .i64 does_8),.h 14]),(7,.box [.val (.int .i64 x_58.2.1)]),(8,.row (.int .i64) r_22),(9,.row (.int .i64) r_24),(14,.row kE x_58.1),(15,.row kAt r_28),(16,.box [.val (.string (List.getD r_28 (Int.toNat x_58.2.2) zAt).1),.val (.int .i64 (List.getD r_28 (Int.toNat x_58.2.2) zAt).2.1),.val (.int .i64 (List.getD r_28 (Int.toNat x_58.2.2) zAt).2.2.1),.val (.int .i64 (List.getD r_28 (Int.toNat x_58.2.2) zAt).2.2.2.1),.imm (.slice kP) (List.getD r_28 (Int.toNat x_58.2.2) zAt).2.2.2.2])]) (h1:=?_) (h2:=fun y_87=>?_)
    ·refine js (fun b_68=>?_) fun b_68=>?_
     ·refine jr [] [(48,true)] [(!r_62)=true] (ap1 b_68) (hr:=?_)
      exact jo []
     ·refine jr [] [(48,false)] [(!r_62)=false] (ap1 b_68) (hr:=?_)
      exact jo []
    ·refine jc (h1:=fun b_72=>?_) (h2:=fun b_72=>?_)
     ·refine jm 2 (hr:=?_)
      exact jx (x_58.1,x_58.2.1,(w6 (x_58.2.2+(1:Int)))) rfl []
     ·refine jm 1 (hr:=?_)
      refine jb fun r_75 h_76=>?_
      refine jr0 [cp 5 (R9 _ h_76) [(0,5),(1,6),(2,14),(3,7),(4,17)] 18] (hr:=?_)
      refine jm 2 (hr:=?_)
      exact jx (r_75.1,r_75.2,(w6 (x_58.2.2+(1:Int)))) rfl [(14,17)]
   ·refine jq 0 (ql (qh ?_))
    refine jm 2 (hr:=?_)
    exact jt (rr [(8,14)])
theorem QZ {K m_1 m_2}:FS Tryz.prog 154 1 [.c (.h 0)] [(0,.box [.val (.int .i64 m_1),.imm (.slice kE) m_2])] (HG K m_1 m_2) (fun r=>.tup [(true,[.val (.int .i64 r.1),.imm (.slice kE) r.2.1]),(false,[.val (.int .i64 r.2.2)])]) fun r=>[(0,.box [.val (.int .i64 m_1),.imm (.slice kE) m_2])]:=by
 refine jfn (fn:=Tryz.f154) Tryz.func154 (jy (HG.eq_1 ..) ?_)
 refine jm 5 (hr:=?_)
 refine jc (h1:=fun b_4=>?_) (h2:=fun b_4=>?_)
 ·refine jm 2 (hr:=?_)
  refine jg [.readCell 1 1 (.slice kE)] ?_
  exact jt (rr [])
 ·refine jm 3 (hr:=?_)
  exact jt (rr [])
theorem RA {K e_1 e_2 e_3 e_4 e_5 from_6 to_7}:FS Tryz.prog 105 5 [.c (.h 0),cI from_6,cI to_7] [(0,.box [.imm (.slice kAt) e_1,.h 1]),(1,.box [.h 2,.val (.int .i64 e_3),.h 3,.h 4]),(2,.sets e_2 none),(3,.map e_4),(4,.map e_5)] (G1 K e_1 e_2 e_3 e_4 e_5 from_6 to_7) (fun r=>.tup [(true,[.val (.int .i64 r.1),.imm (.slice kE) r.2.1]),(false,[.val (.int .i64 r.2.2)])]) fun r=>[(0,.box [.imm (.slice kAt) e_1,.h 1]),(1,.box [.h 2,.val (.int .i64 e_3),.h 3,.h 4]),(2,.sets e_2 none),(3,.map e_4),(4,.map e_5)]:=by
 refine jfn (fn:=Tryz.f105) Tryz.func105 (jy (G1.eq_1 ..) ?_)
 refine jm 3 (hr:=?_)
 refine jb fun r_9 h_10=>?_
 refine jr0 [cp 2 (EP _ h_10) [(0,0),(1,1),(2,2),(3,3),(4,4)] 6] (hr:=?_)
 refine jm 1 (hr:=?_)
 refine jb fun r_13 h_14=>?_
 refine jr0 [cp 2 (R5 _ h_14) [(0,6)] 7] (hr:=?_)
 refine jm 3 (hr:=?_)
 refine jb fun r_17 h_18=>?_
 refine jr0 [cp 4 (RB _ h_18) [(0,0),(1,1),(2,2),(3,3),(4,4),(5,7),(6,6),(7,8),(8,9)] 10] (hr:=?_)
 refine jm 3 (hr:=?_)
 refine jc (h1:=fun b_21=>?_) (h2:=fun b_21=>?_)
 ·refine jm 2 (hr:=?_)
  refine jg [.readCell 5 1 (.slice kE)] ?_
  exact jt (rr [])
 ·refine jm 2 (hr:=?_)
  refine jg [.shut 9] ?_
  refine jb fun r_24 h_25=>?_
  refine jr0 [cp 1 (QZ _ h_25) [(0,6)] 10] (hr:=?_)
  exact jt (rr [])
theorem R7 {K x_1 x_2 x_3 base_4 to_5 ahead_6 copied_7}:FS Tryz.prog 213 0 [.agg [.val (.int .i64 x_1),.val (.int .i64 x_2),.val (.string x_3)],cI base_4,cI to_5,cB ahead_6,cB copied_7] [] (FZ K x_1 x_2 x_3 base_4 to_5 ahead_6 copied_7) (fun r=>cB r) fun r=>[]:=by
 refine jfn (fn:=Tryz.f213) Tryz.func213 (jy (FZ.eq_1 ..) ?_)
 refine jm 4 (hr:=?_)
 refine jb fun r_9 h_10=>?_
 refine jr0 [cp 1 (E6 _ h_10) [] 1] (hr:=?_)
 refine jc (h1:=fun b_12=>?_) (h2:=fun b_12=>?_)
 ·refine jm 1 (hr:=?_)
  refine js (fun b_14=>?_) fun b_14=>?_
  ·refine js (fun b_15=>?_) fun b_15=>?_
   ·refine js (fun b_16=>?_) fun b_16=>?_
    ·refine jr [] [(18,true),(23,true),(35,true)] [(decide (x_1≥to_5))=true,(decide (x_1 > to_5))=true,(decide (x_1<x_2))=true] (ap2 b_14 (ap2 b_15 (ap1 b_16))) (hr:=?_)
     exact jt (rr [])
    ·refine jr [] [(18,true),(23,true),(35,false)] [(decide (x_1≥to_5))=true,(decide (x_1 > to_5))=true,(decide (x_1<x_2))=false] (ap2 b_14 (ap2 b_15 (ap1 b_16))) (hr:=?_)
     exact jt (rr [])
   ·refine js (fun b_19=>?_) fun b_19=>?_
    ·refine js (fun b_20=>?_) fun b_20=>?_
     ·refine jr [] [(18,true),(23,false),(28,true),(35,true)] [(decide (x_1≥to_5))=true,(decide (x_1 > to_5))=false,(!copied_7)=true,(decide (x_1<x_2))=true] (ap2 b_14 (ap2 b_15 (ap2 b_19 (ap1 b_20)))) (hr:=?_)
      exact jt (rr [])
     ·refine jr [] [(18,true),(23,false),(28,true),(35,false)] [(decide (x_1≥to_5))=true,(decide (x_1 > to_5))=false,(!copied_7)=true,(decide (x_1<x_2))=false] (ap2 b_14 (ap2 b_15 (ap2 b_19 (ap1 b_20)))) (hr:=?_)
      exact jt (rr [])
    ·refine jr [] [(18,true),(23,false),(28,false)] [(decide (x_1≥to_5))=true,(decide (x_1 > to_5))=false,(!copied_7)=false] (ap2 b_14 (ap2 b_15 (ap1 b_19))) (hr:=?_)
     exact jt (rr [])
  ·refine jr [] [(18,false)] [(decide (x_1≥to_5))=false] (ap1 b_14) (hr:=?_)
   exact jt (rr [])
 ·refine jm 4 (hr:=?_)
  refine js (fun b_26=>?_) fun b_26=>?_
  ·refine js (fun b_27=>?_) fun b_27=>?_
   ·refine js (fun b_28=>?_) fun b_28=>?_
    ·refine jb fun r_29 h_30=>?_
     refine jr [cp 19 (DY _ h_30) [] 2] [(47,true),(50,true),(60,true)] [((x_1==(0:Int))&&((x_2==(0:Int))&&(ByteArray.toList x_3==ByteArray.toList x_3)))=true,(!ahead_6)=true,(decide ((((ByteArray.size x_3):Nat):Int)≤(20000:Int)))=true] (ap2 b_26 (ap2 b_27 (ap1 b_28))) (hr:=?_)
     exact jt (rr [])
    ·refine jr [] [(47,true),(50,true),(60,false)] [((x_1==(0:Int))&&((x_2==(0:Int))&&(ByteArray.toList x_3==ByteArray.toList x_3)))=true,(!ahead_6)=true,(decide ((((ByteArray.size x_3):Nat):Int)≤(20000:Int)))=false] (ap2 b_26 (ap2 b_27 (ap1 b_28))) (hr:=?_)
     exact jt (rr [])
   ·refine js (fun b_33=>?_) fun b_33=>?_
    ·refine js (fun b_34=>?_) fun b_34=>?_
     ·refine jb fun r_35 h_36=>?_
      refine jr [cp 19 (DY _ h_36) [] 2] [(47,true),(50,false),(54,true),(60,true)] [((x_1==(0:Int))&&((x_2==(0:Int))&&(ByteArray.toList x_3==ByteArray.toList x_3)))=true,(!ahead_6)=false,copied_7=true,(decide ((((ByteArray.size x_3):Nat):Int)≤(20000:Int)))=true] (ap2 b_26 (ap2 b_27 (ap2 b_33 (ap1 b_34)))) (hr:=?_)
      exact jt (rr [])
     ·refine jr [] [(47,true),(50,false),(54,true),(60,false)] [((x_1==(0:Int))&&((x_2==(0:Int))&&(ByteArray.toList x_3==ByteArray.toList x_3)))=true,(!ahead_6)=false,copied_7=true,(decide ((((ByteArray.size x_3):Nat):Int)≤(20000:Int)))=false] (ap2 b_26 (ap2 b_27 (ap2 b_33 (ap1 b_34)))) (hr:=?_)
      exact jt (rr [])
    ·refine jr [] [(47,true),(50,false),(54,false)] [((x_1==(0:Int))&&((x_2==(0:Int))&&(ByteArray.toList x_3==ByteArray.toList x_3)))=true,(!ahead_6)=false,copied_7=false] (ap2 b_26 (ap2 b_27 (ap1 b_33))) (hr:=?_)
     exact jt (rr [])
  ·refine jr [] [(47,false)] [((x_1==(0:Int))&&((x_2==(0:Int))&&(ByteArray.toList x_3==ByteArray.toList x_3)))=false] (ap1 b_26) (hr:=?_)
   exact jt (rr [])
theorem D1 {K d_1 d_2}:FS Tryz.prog 155 0 [.agg [.val (.int .i64 d_1),.imm (.slice kE) d_2]] [] (B0 K d_1 d_2) (fun r=>cB r) fun r=>[]:=by
 refine jfn (fn:=Tryz.f155) Tryz.func155 (jy (B0.eq_1 ..) ?_)
 refine jm 4 (hr:=?_)
 refine ja (Y:=Bool) 1 (fun y_51=>[(1,.c (.h 0)),(21,cB y_51)]) (fun y_51=>[(0,.box [.val (.int .i64 d_1),.imm (.slice kE) d_2])]) (h1:=?_) (h2:=fun y_51=>?_)
 ·refine js (fun b_4=>?_) fun b_4=>?_
  ·refine jr [] [(11,true)] [(decide (d_1<(0:Int)))=true] (ap1 b_4) (hr:=?_)
   exact jo []
  ·refine js (fun b_6=>?_) fun b_6=>?_
   ·refine jr [] [(11,false),(16,true)] [(decide (d_1<(0:Int)))=false,(decide (d_1 > (20000:Int)))=true] (ap2 b_4 (ap1 b_6)) (hr:=?_)
    exact jo []
   ·refine jr [] [(11,false),(16,false)] [(decide (d_1<(0:Int)))=false,(decide (d_1 > (20000:Int)))=false] (ap2 b_4 (ap1 b_6)) (hr:=?_)
    exact jo []
 ·refine jc (h1:=fun b_10=>?_) (h2:=fun b_10=>?_)
  ·refine jm 2 (hr:=?_)
   exact jt (rr [])
  ·refine jm 7 (hr:=?_)
   refine jl (X:=(Int×Int×Int)) (fun k x=>B0.l0 K d_2 d_1 k x.1 x.2.1 x.2.2) K ((0:Int),(0:Int),(0:Int)) rfl 1 [] (fun x_16=>[(1,.c (.h 0)),(3,cI x_16.1),(4,cI x_16.2.1),(23,.c (.imm (.slice kE) d_2)),(24,cI (lnI d_2)),(25,cI x_16.2.2)]) (fun x_16=>[(0,.box [.val (.int .i64 d_1),.imm (.slice kE) d_2])]) (fun _=>rfl) (round:=fun k x_16=>jy (B0.l0.eq_2 ..) ?_)
   refine jm 3 (hr:=?_)
   refine jc (h1:=fun b_18=>?_) (h2:=fun b_18=>?_)
   ·refine ji 6 (hr:=fun c_19=>?_)
    refine ja (Y:=Bool) 2 (fun y_52=>[(1,.c (.h 0)),(3,cI x_16.1),(4,cI x_16.2.1),(5,cI x_16.2.2),(6,.c (.h 1)),(7,cB y_52),(23,.c (.imm (.slice kE) d_2)),(24,cI (lnI d_2)),(25,cI x_16.2.2)]) (fun y_52=>[(0,.box [.val (.int .i64 d_1),.imm (.slice kE) d_2]),(1,.box [.val (.int .i64 (List.getD d_2 (Int.toNat x_16.2.2) zE).1),.val (.int .i64 (List.getD d_2 (Int.toNat x_16.2.2) zE).2.1),.val (.string (List.getD d_2 (Int.toNat x_16.2.2) zE).2.2)])]) (h1:=?_) (h2:=fun y_52=>?_)
    ·refine js (fun b_20=>?_) fun b_20=>?_
     ·refine jb fun r_21 h_22=>?_
      refine jp fun c_23=>?_
      refine jr [cp 9 (E6 _ h_22) [] 2] [(32,true)] [(decide (x_16.2.2 > (0:Int)))=true,0≤(w6 (x_16.2.2 - (1:Int))),(w6 (x_16.2.2 - (1:Int)))<(lnI d_2)] (ap2 b_20 (ap2 c_23.1 (ap1 c_23.2))) (hr:=?_)
      exact jo []
     ·refine jr [] [(32,false)] [(decide (x_16.2.2 > (0:Int)))=false] (ap1 b_20) (hr:=?_)
      exact jo []
    ·refine jm 2 (hr:=?_)
     refine jb fun r_27 h_28=>?_
     refine jr0 [cp 7 (R7 _ h_28) [] 2] (hr:=?_)
     refine jc (h1:=fun b_30=>?_) (h2:=fun b_30=>?_)
     ·refine jm 2 (hr:=?_)
      exact jt (rl (rr []))
     ·refine jm 3 (hr:=?_)
      refine jb fun r_33 h_34=>?_
      refine jr0 [cp 1 (E6 _ h_34) [] 2] (hr:=?_)
      refine ja (Y:=Int) 2 (fun y_53=>[(1,.c (.h 0)),(3,cI x_16.1),(4,cI y_53),(6,.c (.h 1)),(23,.c (.imm (.slice kE) d_2)),(24,cI (lnI d_2)),(25,cI x_16.2.2)]) (fun y_53=>[(0,.box [.val (.int .i64 d_1),.imm (.slice kE) d_2]),(1,.box [.val (.int .i64 (List.getD d_2 (Int.toNat x_16.2.2) zE).1),.val (.int .i64 (List.getD d_2 (Int.toNat x_16.2.2) zE).2.1),.val (.string (List.getD d_2 (Int.toNat x_16.2.2) zE).2.2)])]) (h1:=?_) (h2:=fun y_53=>?_)
      ·refine jc (h1:=fun b_36=>?_) (h2:=fun b_36=>?_)
       ·refine jm 1 (hr:=?_)
        exact jo []
       ·refine jm 1 (hr:=?_)
        exact jo []
      ·refine jm 4 (hr:=?_)
       refine jc (h1:=fun b_41=>?_) (h2:=fun b_41=>?_)
       ·refine jm 2 (hr:=?_)
        exact jt (rl (rr []))
       ·refine jm 3 (hr:=?_)
        exact jx ((w6 (x_16.1+(w6 ((w6 ((List.getD d_2 (Int.toNat x_16.2.2) zE).2.1 - (List.getD d_2 (Int.toNat x_16.2.2) zE).1))+(((ByteArray.size (List.getD d_2 (Int.toNat x_16.2.2) zE).2.2):Nat):Int))))),y_53,(w6 (x_16.2.2+(1:Int)))) rfl []
   ·refine jq 0 (ql (qh ?_))
    refine jm 2 (hr:=?_)
    exact jt (rr [])
theorem UG {K r_1 r_2 p_3 p_4}:FS Tryz.prog 157 1 [.agg [.val (.int .i64 r_1),.val (.int .i64 r_2)],.c (.h 0)] [(0,.box [.val (.int .i64 p_3),.imm (.slice kE) p_4])] (I3 K r_1 r_2 p_3 p_4) (fun r=>cB r) fun r=>[(0,.box [.val (.int .i64 p_3),.imm (.slice kE) p_4])]:=by
 refine jfn (fn:=Tryz.f157) Tryz.func157 (jy (I3.eq_1 ..) ?_)
 refine jm 3 (hr:=?_)
 refine jb fun r_6 h_7=>?_
 refine jb fun r_8 h_9=>?_
 refine jw0 [cp 1 (C5 _ h_7) [] 2,cp 4 (MT _ h_9) [] 2] (hr:=?_)
 exact jt (rr [])
theorem UL {K x_1 x_2 p_3 p_4}:FS Tryz.prog 215 2 [.agg [.val (.int .i64 x_1),.val (.int .i64 x_2)],.c (.h 0)] [(0,.box [.clo 157 [1]]),(1,.box [.val (.int .i64 p_3),.imm (.slice kE) p_4])] (GI K x_1 x_2 p_3 p_4) (fun r=>cB r) fun r=>[(0,.box [.clo 157 [1]]),(1,.box [.val (.int .i64 p_3),.imm (.slice kE) p_4])]:=by
 refine jfn (fn:=Tryz.f215) Tryz.func215 (jy (GI.eq_1 ..) ?_)
 refine jm 3 (hr:=?_)
 refine jb fun r_6 h_7=>?_
 refine jr0 [cp 2 (UG _ h_7) [(0,1)] 3] (hr:=?_)
 exact jt (rr [])
theorem VT {K s_1 f_2 f_3}:FS Tryz.prog 253 2 [.c (.imm (.slice kP) s_1),.c (.clo 215 [0])] [(0,.box [.clo 157 [1]]),(1,.box [.val (.int .i64 f_2),.imm (.slice kE) f_3])] (C8 K s_1 f_2 f_3) (fun r=>cI r) fun r=>[(0,.box [.clo 157 [1]]),(1,.box [.val (.int .i64 f_2),.imm (.slice kE) f_3])]:=by
 refine jfn (fn:=Tryz.f253) Tryz.func253 (jy (C8.eq_1 ..) ?_)
 refine jm 6 (hr:=?_)
 refine jl (X:=Int) (fun k x=>C8.l0 K s_1 f_2 f_3 k x) K _ rfl 2 [] (fun x_6=>[(0,.c (.imm (.slice kP) s_1)),(1,.c (.clo 215 [0])),(7,cI (lnI s_1)),(8,cI x_6)]) (fun x_6=>[(0,.box [.clo 157 [1]]),(1,.box [.val (.int .i64 f_2),.imm (.slice kE) f_3])]) (fun _=>rfl) (round:=fun k x_6=>jy (C8.l0.eq_2 ..) ?_)
 refine jm 3 (hr:=?_)
 refine jc (h1:=fun b_8=>?_) (h2:=fun b_8=>?_)
 ·refine jm 6 (hr:=?_)
  refine jb fun r_10 h_11=>?_
  refine jri [cp 5 (UL _ h_11) [(0,0),(1,1)] 2] [] (hr:=fun c_12=>?_)
  refine jc (h1:=fun b_13=>?_) (h2:=fun b_13=>?_)
  ·refine jm 2 (hr:=?_)
   exact jt (rl (rr []))
  ·refine jm 3 (hr:=?_)
   exact jx _ rfl []
 ·refine jq 0 (ql (qh ?_))
  refine jm 2 (hr:=?_)
  exact jt (rr [])
theorem VJ {K s_1 f_2 f_3}:FS Tryz.prog 214 2 [.c (.imm (.slice kP) s_1),.c (.clo 215 [0])] [(0,.box [.clo 157 [1]]),(1,.box [.val (.int .i64 f_2),.imm (.slice kE) f_3])] (IC K s_1 f_2 f_3) (fun r=>cB r) fun r=>[(0,.box [.clo 157 [1]]),(1,.box [.val (.int .i64 f_2),.imm (.slice kE) f_3])]:=by
 refine jfn (fn:=Tryz.f214) Tryz.func214 (jy (IC.eq_1 ..) ?_)
 refine jm 3 (hr:=?_)
 refine jb fun r_5 h_6=>?_
 refine jr0 [cp 2 (VT _ h_6) [(0,0),(1,1)] 2] (hr:=?_)
 exact jt (rr [])
theorem UM {K l_1 is_2 is_3}:FS Tryz.prog 156 1 [.c (.imm (.slice kP) l_1),.c (.clo 157 [0])] [(0,.box [.val (.int .i64 is_2),.imm (.slice kE) is_3])] (GL K l_1 is_2 is_3) (fun r=>cB r) fun r=>[(0,.box [.val (.int .i64 is_2),.imm (.slice kE) is_3])]:=by
 refine jfn (fn:=Tryz.f156) Tryz.func156 (jy (GL.eq_1 ..) ?_)
 refine jm 3 (hr:=?_)
 refine jb fun r_5 h_6=>?_
 refine jr0 [cp 2 (VJ _ h_6) [(0,1),(1,0)] 2] (hr:=?_)
 exact jt (rr [])
theorem NQ {K l_1}:FS Tryz.prog 159 0 [.c (.imm (.slice kP) l_1)] [] (D5 K l_1) (fun r=>cI r) fun r=>[]:=by
 refine jfn (fn:=Tryz.f159) Tryz.func159 (jy (D5.eq_1 ..) ?_)
 refine jm 6 (hr:=?_)
 refine jc (h1:=fun b_3=>?_) (h2:=fun b_3=>?_)
 ·refine jm 2 (hr:=?_)
  exact jt (rr [])
 ·refine jm 2 (hr:=?_)
  refine jc (h1:=fun b_6=>?_) (h2:=fun b_6=>?_)
  ·refine jm 2 (hr:=?_)
   exact jt (rr [])
  ·refine jm 4 (hr:=?_)
   exact jt (rr [])
theorem GG {K d_1 d_2 at_3 after_4}:FS Tryz.prog 160 0 [.agg [.val (.int .i64 d_1),.imm (.slice kE) d_2],cI at_3,cB after_4] [] (AW K d_1 d_2 at_3 after_4) (fun r=>cI r) fun r=>[]:=by
 refine jfn (fn:=Tryz.f160) Tryz.func160 (jy (AW.eq_1 ..) ?_)
 refine jm 5 (hr:=?_)
 refine jb fun r_6 h_7=>?_
 refine jr0 [cp 1 (D1 _ h_7) [] 1] (hr:=?_)
 refine jc (h1:=fun b_9=>?_) (h2:=fun b_9=>?_)
 ·refine jm 2 (hr:=?_)
  exact jt (rr [])
 ·refine jm 10 (hr:=?_)
  refine ja (Y:=(Int×Int)) 2 (fun y_39=>[(2,cB after_4),(7,cI y_39.1),(8,cI y_39.2)]) (fun y_39=>[]) (h1:=?_) (h2:=fun y_39=>?_)
  ·refine jm 1 (hr:=?_)
   refine jl (X:=(Int×Int×Int)) (fun k x=>AW.l0 K d_2 at_3 d_1 k x.1 x.2.1 x.2.2) K ((0:Int),(0:Int),(0:Int)) rfl 1 [] (fun x_16=>[(1,cI (mn2 (mx2 at_3 (0:Int)) d_1)),(2,cB after_4),(7,cI x_16.1),(8,cI x_16.2.1),(20,.c (.imm (.slice kE) d_2)),(21,cI (lnI d_2)),(22,cI x_16.2.2)]) (fun x_16=>[]) (fun _=>rfl) (round:=fun k x_16=>jy (AW.l0.eq_2 ..) ?_)
   refine jm 3 (hr:=?_)
   refine jc (h1:=fun b_18=>?_) (h2:=fun b_18=>?_)
   ·refine ji 5 (hr:=fun c_19=>?_)
    refine jm 2 (hr:=?_)
    refine jb fun r_21 h_22=>?_
    refine jr0 [cp 1 (E6 _ h_22) [] 2] (hr:=?_)
    refine jc (h1:=fun b_24=>?_) (h2:=fun b_24=>?_)
    ·refine jm 4 (hr:=?_)
     exact jx (x_16.1,(w6 (x_16.2.1+(((ByteArray.size (List.getD d_2 (Int.toNat x_16.2.2) zE).2.2):Nat):Int))),(w6 (x_16.2.2+(1:Int)))) rfl []
    ·refine jm 2 (hr:=?_)
     refine jc (h1:=fun b_27=>?_) (h2:=fun b_27=>?_)
     ·refine jq 0 (ql (qh ?_))
      exact jo []
     ·refine jm 6 (hr:=?_)
      refine jc (h1:=fun b_29=>?_) (h2:=fun b_29=>?_)
      ·refine jq 0 (ql (qh ?_))
       exact jo []
      ·refine jm 4 (hr:=?_)
       exact jx ((w6 (x_16.1+(w6 ((w6 (x_16.2.1+(mn2 (List.getD d_2 (Int.toNat x_16.2.2) zE).2.1 (mn2 (mx2 at_3 (0:Int)) d_1)))) - (List.getD d_2 (Int.toNat x_16.2.2) zE).1)))),(0:Int),(w6 (x_16.2.2+(1:Int)))) rfl []
   ·refine jq 0 (ql (qh ?_))
    exact jo []
  ·refine jm 3 (hr:=?_)
   refine jc (h1:=fun b_34=>?_) (h2:=fun b_34=>?_)
   ·refine jm 3 (hr:=?_)
    exact jt (rr [])
   ·refine jm 3 (hr:=?_)
    exact jt (rr [])
theorem VE {K s_1}:FS Tryz.prog 216 0 [.c (.imm (.slice kP) s_1)] [] (KE K s_1) (fun r=>.c (.h 0)) fun r=>[(0,.row kP r)]:=by
 refine jfn (fn:=Tryz.f216) Tryz.func216 (jy (KE.eq_1 ..) ?_)
 refine jm 4 (hr:=?_)
 refine jnil s_1 (k:=kP) (h1:=fun hx=>?_) (h2:=?_)
 ·subst hx; refine jy (y:=some ([]:List (Int×Int))) (by simp) ?_
  refine jm 3 (hr:=?_)
  refine jg [.nilSlot 2 kP] ?_
  exact jt (rr [])
 ·refine ji 4 (hr:=fun c_4=>?_)
  exact jt (rr [(0,1)])
theorem E4 {K x_1}:FS Tryz.prog 255 0 [cI x_1] [] (EM K x_1) (fun r=>cB r) fun r=>[]:=by
 refine jfn (fn:=Tryz.f255) Tryz.func255 (jy (EM.eq_1 ..) ?_)
 refine jm 4 (hr:=?_)
 exact jt (rr [])
theorem J2 {K x_1 y_2}:FS Tryz.prog 220 0 [cI x_1,cI y_2] [] (FT K x_1 y_2) (fun r=>cI r) fun r=>[]:=by
 refine jfn (fn:=Tryz.f220) Tryz.func220 (jy (FT.eq_1 ..) ?_)
 refine jm 3 (hr:=?_)
 refine jb fun r_4 h_5=>?_
 refine jr0 [cp 1 (E4 _ h_5) [] 0] (hr:=?_)
 refine jm 1 (hr:=?_)
 refine jb fun r_8 h_9=>?_
 refine jr0 [cp 1 (E4 _ h_9) [] 0] (hr:=?_)
 refine jm 3 (hr:=?_)
 refine jc (h1:=fun b_12=>?_) (h2:=fun b_12=>?_)
 ·refine jm 3 (hr:=?_)
  refine jc (h1:=fun b_14=>?_) (h2:=fun b_14=>?_)
  ·refine jm 2 (hr:=?_)
   exact jt (rr [])
  ·refine jm 3 (hr:=?_)
   exact jt (rr [])
 ·refine jm 4 (hr:=?_)
  refine jc (h1:=fun b_18=>?_) (h2:=fun b_18=>?_)
  ·refine jm 2 (hr:=?_)
   exact jt (rr [])
  ·refine jm 4 (hr:=?_)
   refine jc (h1:=fun b_21=>?_) (h2:=fun b_21=>?_)
   ·refine jm 2 (hr:=?_)
    exact jt (rr [])
   ·refine jm 4 (hr:=?_)
    refine jc (h1:=fun b_24=>?_) (h2:=fun b_24=>?_)
    ·refine jm 2 (hr:=?_)
     exact jt (rr [])
    ·refine jm 3 (hr:=?_)
     exact jt (rr [])
theorem QE {K vals_1}:FS Tryz.prog 219 1 [.c (.h 0)] [(0,.row (.int .i64) vals_1)] (DJ K vals_1) (fun r=>cI r) fun r=>[(0,.row (.int .i64) vals_1)]:=by
 refine jfn (fn:=Tryz.f219) Tryz.func219 (jy (DJ.eq_1 ..) ?_)
 refine jm 8 (hr:=?_)
 refine jl (X:=Int) (fun k x=>DJ.l0 K vals_1 k x) K _ rfl 1 [] (fun x_4=>[(3,cI (0:Int)),(6,.c (.h 0)),(7,cI (lnI vals_1)),(8,cI x_4)]) (fun x_4=>[(0,.row (.int .i64) vals_1)]) (fun _=>rfl) (round:=fun k x_4=>jy (DJ.l0.eq_2 ..) ?_)
 refine jm 3 (hr:=?_)
 refine jc (h1:=fun b_6=>?_) (h2:=fun b_6=>?_)
 ·refine ji 7 (hr:=fun c_7=>?_)
  refine jc (h1:=fun b_8=>?_) (h2:=fun b_8=>?_)
  ·refine jm 2 (hr:=?_)
   exact jt (rl (rr []))
  ·refine jm 3 (hr:=?_)
   exact jx _ rfl []
 ·refine jq 0 (ql (qh ?_))
  refine jm 2 (hr:=?_)
  exact jt (rr [])
theorem I4 {K a_1 a_2 b_3 b_4}:FS Tryz.prog 218 0 [.agg [.val (.int .i64 a_1),.val (.int .i64 a_2)],.agg [.val (.int .i64 b_3),.val (.int .i64 b_4)]] [] (F1 K a_1 a_2 b_3 b_4) (fun r=>cI r) fun r=>[]:=by
 refine jfn (fn:=Tryz.f218) Tryz.func218 (jy (F1.eq_1 ..) ?_)
 refine jm 3 (hr:=?_)
 refine jb fun r_6 h_7=>?_
 refine jb fun r_8 h_9=>?_
 refine jw0 [cp 1 (C5 _ h_7) [] 2,cp 3 (C5 _ h_9) [] 2] (hr:=?_)
 refine jm 1 (hr:=?_)
 refine jb fun r_12 h_13=>?_
 refine jb fun r_14 h_15=>?_
 refine jb fun r_16 h_17=>?_
 refine jw0 [cp 4 (J2 _ h_13) [] 4,cp 9 (J2 _ h_15) [] 4,cp 11 (QE _ h_17) [(0,4)] 5] (hr:=?_)
 exact jt (rr [])
theorem O8 {K data_1 a_2 b_3}:FS Tryz.prog 272 1 [.c (.h 0),cI a_2,cI b_3,.c (.clo 218 [])] [(0,.row kP data_1)] (BQ K data_1 a_2 b_3) (fun r=>.tup []) fun r=>[(0,.row kP r)]:=by
 refine jfn (fn:=Tryz.f272) Tryz.func272 (jy (BQ.eq_1 ..) ?_)
 refine jm 3 (hr:=?_)
 refine jl (X:=((List (Int×Int))×Int)) (fun k x=>BQ.l0 K b_3 a_2 k x.1 x.2) K (data_1,(w6 (a_2+(1:Int)))) rfl 1 [] (fun x_42=>[(0,.c (.h 0)),(1,cI a_2),(2,cI b_3),(3,.c (.clo 218 [])),(8,cI x_42.2)]) (fun x_42=>[(0,.row kP x_42.1)]) (fun _=>rfl) (round:=fun k x_42=>jy (BQ.l0.eq_2 ..) ?_)
 refine jm 3 (hr:=?_)
 refine jc (h1:=fun b_44=>?_) (h2:=fun b_44=>?_)
 ·refine jm 2 (hr:=?_)
  refine ja (Y:=(List (Int×Int))) 1 (fun y_82=>[(0,.c (.h 0)),(1,cI a_2),(2,cI b_3),(3,.c (.clo 218 [])),(8,cI x_42.2)]) (fun y_82=>[(0,.row kP y_82)]) (h1:=?_) (h2:=fun y_82=>?_)
  ·refine jm 4 (hr:=?_)
   refine jl (X:=((List (Int×Int))×Int)) (fun k x=>BQ.l1 K a_2 k x.1 x.2) K (x_42.1,x_42.2) rfl 1 [] (fun x_62=>[(0,.c (.h 0)),(1,cI a_2),(2,cI b_3),(3,.c (.clo 218 [])),(8,cI x_42.2),(9,cI x_62.2)]) (fun x_62=>[(0,.row kP x_62.1)]) (fun _=>rfl) (round:=fun k x_62=>jy (BQ.l1.eq_2 ..) ?_)
   refine jm 2 (hr:=?_)
   refine ja (Y:=Bool) 1 (fun y_83=>[(0,.c (.h 0)),(1,cI a_2),(2,cI b_3),(3,.c (.clo 218 [])),(8,cI x_42.2),(9,cI x_62.2),(34,cB y_83)]) (fun y_83=>[(0,.row kP x_62.1)]) (h1:=?_) (h2:=fun y_83=>?_)
   ·refine js (fun b_64=>?_) fun b_64=>?_
    ·refine jb fun r_65 h_66=>?_
     refine jp fun c_67=>?_
     refine jw [cp 14 (I4 _ h_66) [] 1] [(21,true)] [(decide (x_62.2 > a_2))=true,0≤x_62.2,x_62.2<(lnI x_62.1),0≤(w6 (x_62.2 - (1:Int))),(w6 (x_62.2 - (1:Int)))<(lnI x_62.1)] (ap2 b_64 (ap2 c_67.1 (ap2 c_67.2.1 (ap2 c_67.2.2.1 (ap1 c_67.2.2.2))))) (hr:=?_)
     exact jo []
    ·refine jw [] [(21,false)] [(decide (x_62.2 > a_2))=false] (ap1 b_64) (hr:=?_)
     exact jo []
   ·refine jc (h1:=fun b_70=>?_) (h2:=fun b_70=>?_)
    ·refine jm 3 (hr:=?_)
     refine jp fun c_72=>?_
     refine jw [] [] [0≤(w6 (x_62.2 - (1:Int))),(w6 (x_62.2 - (1:Int)))<(lnI x_62.1),0≤x_62.2,x_62.2<(lnI x_62.1),0≤x_62.2,x_62.2<(lnI x_62.1),0≤(w6 (x_62.2 - (1:Int))),(w6 (x_62.2 - (1:Int)))<(lnI (List.set x_62.1 (Int.toNat x_62.2) ((List.getD x_62.1 (Int.toNat (w6 (x_62.2 - (1:Int)))) zP).1,(List.getD x_62.1 (Int.toNat (w6 (x_62.2 - (1:Int)))) zP).2)))] (ap2 c_72.1 (ap2 c_72.2.1 (ap2 c_72.2.2.1 (ap2 c_72.2.2.2.1 (ap2 c_72.2.2.1 (ap2 c_72.2.2.2.1 (ap2 c_72.1 (ap1 c_72.2.2.2.2)))))))) (hr:=?_)
     refine jm 2 (hr:=?_)
     exact jx ((List.set (List.set x_62.1 (Int.toNat x_62.2) ((List.getD x_62.1 (Int.toNat (w6 (x_62.2 - (1:Int)))) zP).1,(List.getD x_62.1 (Int.toNat (w6 (x_62.2 - (1:Int)))) zP).2)) (Int.toNat (w6 (x_62.2 - (1:Int)))) ((List.getD x_62.1 (Int.toNat x_62.2) zP).1,(List.getD x_62.1 (Int.toNat x_62.2) zP).2)),(w6 (x_62.2 - (1:Int)))) rfl []
    ·refine jq 2 (ql (qh ?_))
     refine jm 1 (hr:=?_)
     exact jo []
  ·refine jm 1 (hr:=?_)
   exact jx (y_82,(w6 (x_42.2+(1:Int)))) rfl []
 ·refine jq 0 (ql (qh ?_))
  exact je (rn' [])
theorem KM {K data_1 a_2 b_3 n_4}:FS Tryz.prog 287 1 [.c (.h 0),cI a_2,cI b_3,cI n_4,.c (.clo 218 [])] [(0,.row kP data_1)] (CT K data_1 a_2 b_3 n_4) (fun r=>.tup []) fun r=>[(0,.row kP r)]:=by
 refine jfn (fn:=Tryz.f287) Tryz.func287 (jy (CT.eq_1 ..) ?_)
 refine jm 3 (hr:=?_)
 refine jl (X:=((List (Int×Int))×Int)) (fun k x=>CT.l0 K n_4 b_3 a_2 k x.1 x.2) K (data_1,(0:Int)) rfl 1 [] (fun x_14=>[(0,.c (.h 0)),(1,cI a_2),(2,cI b_3),(3,cI n_4),(10,cI x_14.2)]) (fun x_14=>[(0,.row kP x_14.1)]) (fun _=>rfl) (round:=fun k x_14=>jy (CT.l0.eq_2 ..) ?_)
 refine jm 3 (hr:=?_)
 refine jc (h1:=fun b_16=>?_) (h2:=fun b_16=>?_)
 ·refine jm 3 (hr:=?_)
  refine jp fun c_18=>?_
  refine jw [] [] [0≤(w6 (b_3+x_14.2)),(w6 (b_3+x_14.2))<(lnI x_14.1),0≤(w6 (a_2+x_14.2)),(w6 (a_2+x_14.2))<(lnI x_14.1),0≤(w6 (a_2+x_14.2)),(w6 (a_2+x_14.2))<(lnI x_14.1),0≤(w6 (b_3+x_14.2)),(w6 (b_3+x_14.2))<(lnI (List.set x_14.1 (Int.toNat (w6 (a_2+x_14.2))) ((List.getD x_14.1 (Int.toNat (w6 (b_3+x_14.2))) zP).1,(List.getD x_14.1 (Int.toNat (w6 (b_3+x_14.2))) zP).2)))] (ap2 c_18.1 (ap2 c_18.2.1 (ap2 c_18.2.2.1 (ap2 c_18.2.2.2.1 (ap2 c_18.2.2.1 (ap2 c_18.2.2.2.1 (ap2 c_18.1 (ap1 c_18.2.2.2.2)))))))) (hr:=?_)
  refine jm 2 (hr:=?_)
  exact jx ((List.set (List.set x_14.1 (Int.toNat (w6 (a_2+x_14.2))) ((List.getD x_14.1 (Int.toNat (w6 (b_3+x_14.2))) zP).1,(List.getD x_14.1 (Int.toNat (w6 (b_3+x_14.2))) zP).2)) (Int.toNat (w6 (b_3+x_14.2))) ((List.getD x_14.1 (Int.toNat (w6 (a_2+x_14.2))) zP).1,(List.getD x_14.1 (Int.toNat (w6 (a_2+x_14.2))) zP).2)),(w6 (x_14.2+(1:Int)))) rfl []
 ·refine jq 0 (ql (qh ?_))
  exact je (rn' [])
theorem W3 {K data_1 a_2 m_3 b_4}:FS Tryz.prog 283 1 [.c (.h 0),cI a_2,cI m_3,cI b_4,.c (.clo 218 [])] [(0,.row kP data_1)] (DB K data_1 a_2 m_3 b_4) (fun r=>.tup []) fun r=>[(0,.row kP r)]:=by
 refine jfn (fn:=Tryz.f283) Tryz.func283 (jy (DB.eq_1 ..) ?_)
 refine jm 5 (hr:=?_)
 refine ja (Y:=((List (Int×Int))×Int)) 1 (fun y_47=>[(0,.c (.h 0)),(2,cI m_3),(4,.c (.clo 218 [])),(10,cI y_47.2)]) (fun y_47=>[(0,.row kP y_47.1)]) (h1:=?_) (h2:=fun y_47=>?_)
 ·refine jm 1 (hr:=?_)
  refine jl (X:=((List (Int×Int))×Int×Int)) (fun k x=>DB.l0 K m_3 k x.1 x.2.1 x.2.2) K (data_1,(w6 (m_3 - a_2)),(w6 (b_4 - m_3))) rfl 1 [] (fun x_25=>[(0,.c (.h 0)),(2,cI m_3),(4,.c (.clo 218 [])),(10,cI x_25.2.1),(11,cI x_25.2.2)]) (fun x_25=>[(0,.row kP x_25.1)]) (fun _=>rfl) (round:=fun k x_25=>jy (DB.l0.eq_2 ..) ?_)
  refine jm 3 (hr:=?_)
  refine jc (h1:=fun b_27=>?_) (h2:=fun b_27=>?_)
  ·refine jm 4 (hr:=?_)
   refine jc (h1:=fun b_29=>?_) (h2:=fun b_29=>?_)
   ·refine jm 1 (hr:=?_)
    refine jb fun r_31 h_32=>?_
    refine jr0 [cp 7 (KM _ h_32) [(0,0)] 1] (hr:=?_)
    refine jm 2 (hr:=?_)
    exact jx (r_31,(w6 (x_25.2.1 - x_25.2.2)),x_25.2.2) rfl []
   ·refine jm 1 (hr:=?_)
    refine jb fun r_36 h_37=>?_
    refine jr0 [cp 11 (KM _ h_37) [(0,0)] 1] (hr:=?_)
    refine jm 2 (hr:=?_)
    exact jx (r_36,x_25.2.1,(w6 (x_25.2.2 - x_25.2.1))) rfl []
  ·refine jq 0 (ql (qh ?_))
   exact jo []
 ·refine jb fun r_42 h_43=>?_
  refine jr0 [cp 7 (KM _ h_43) [(0,0)] 1] (hr:=?_)
  exact je (rn' [])
theorem slices_symMergeCmpFunc_rgggcregionapart1_rec {K:Nat}:∀ (k_rec:Nat) {data_1:(List (Int×Int))} {a_2:Int} {m_3:Int} {b_4:Int},FS Tryz.prog 273 1 [.c (.h 0),cI a_2,cI m_3,cI b_4,.c (.clo 218 [])] [(0,.row kP data_1)] (A8.f K k_rec data_1 a_2 m_3 b_4) (fun r=>.tup []) fun r=>[(0,.row kP r)]:=by
 intro k_rec
 induction k_rec with
 | zero => intro data_1 a_2 m_3 b_4 r H; exact (no_none H).elim
 | succ k_rec ih =>
 intro data_1 a_2 m_3 b_4
 refine jfn (fn:=Tryz.f273) Tryz.func273 (jy (A8.f.eq_2 ..) ?_)
 refine jm 3 (hr:=?_)
 refine jc (h1:=fun b_6=>?_) (h2:=fun b_6=>?_)
 ·refine jm 5 (hr:=?_)
  refine ja (Y:=Int) 1 (fun y_132=>[(0,.c (.h 0)),(1,cI a_2),(10,cI y_132)]) (fun y_132=>[(0,.row kP data_1)]) (h1:=?_) (h2:=fun y_132=>?_)
  ·refine jm 1 (hr:=?_)
   refine jl (X:=(Int×Int)) (fun k x=>A8.l0 K data_1 a_2 k x.1 x.2) K (m_3,b_4) rfl 1 [] (fun x_11=>[(0,.c (.h 0)),(1,cI a_2),(4,.c (.clo 218 [])),(10,cI x_11.1),(11,cI x_11.2)]) (fun x_11=>[(0,.row kP data_1)]) (fun _=>rfl) (round:=fun k x_11=>jy (A8.l0.eq_2 ..) ?_)
   refine jm 3 (hr:=?_)
   refine jc (h1:=fun b_13=>?_) (h2:=fun b_13=>?_)
   ·refine jn 5 [(0:Int)≤(1:Int)] (ap1 (by decide)) (hr:=?_)
    refine jb fun r_15 h_16=>?_
    refine jwi [cp 9 (I4 _ h_16) [] 1] [] (hr:=fun c_17=>?_)
    refine jc (h1:=fun b_18=>?_) (h2:=fun b_18=>?_)
    ·refine jm 2 (hr:=?_)
     exact jx ((w6 ((w6 (Int.fdiv (IntKind.wrap .u64 (w6 (x_11.1+x_11.2))) (2:Int)))+(1:Int))),x_11.2) rfl []
    ·refine jm 2 (hr:=?_)
     exact jx (x_11.1,(w6 (Int.fdiv (IntKind.wrap .u64 (w6 (x_11.1+x_11.2))) (2:Int)))) rfl []
   ·refine jq 0 (ql (qh ?_))
    exact jo []
  ·refine jm 4 (hr:=?_)
   refine jl (X:=((List (Int×Int))×Int)) (fun k x=>A8.l1 K y_132 k x.1 x.2) K (data_1,a_2) rfl 1 [] (fun x_31=>[(0,.c (.h 0)),(10,cI y_132),(13,cI x_31.2)]) (fun x_31=>[(0,.row kP x_31.1)]) (fun _=>rfl) (round:=fun k x_31=>jy (A8.l1.eq_2 ..) ?_)
   refine jm 3 (hr:=?_)
   refine jc (h1:=fun b_33=>?_) (h2:=fun b_33=>?_)
   ·refine jm 3 (hr:=?_)
    refine jp fun c_35=>?_
    refine jw [] [] [0≤(w6 (x_31.2+(1:Int))),(w6 (x_31.2+(1:Int)))<(lnI x_31.1),0≤x_31.2,x_31.2<(lnI x_31.1),0≤x_31.2,x_31.2<(lnI x_31.1),0≤(w6 (x_31.2+(1:Int))),(w6 (x_31.2+(1:Int)))<(lnI (List.set x_31.1 (Int.toNat x_31.2) ((List.getD x_31.1 (Int.toNat (w6 (x_31.2+(1:Int)))) zP).1,(List.getD x_31.1 (Int.toNat (w6 (x_31.2+(1:Int)))) zP).2)))] (ap2 c_35.1 (ap2 c_35.2.1 (ap2 c_35.2.2.1 (ap2 c_35.2.2.2.1 (ap2 c_35.2.2.1 (ap2 c_35.2.2.2.1 (ap2 c_35.1 (ap1 c_35.2.2.2.2)))))))) (hr:=?_)
    refine jm 2 (hr:=?_)
    exact jx ((List.set (List.set x_31.1 (Int.toNat x_31.2) ((List.getD x_31.1 (Int.toNat (w6 (x_31.2+(1:Int)))) zP).1,(List.getD x_31.1 (Int.toNat (w6 (x_31.2+(1:Int)))) zP).2)) (Int.toNat (w6 (x_31.2+(1:Int)))) ((List.getD x_31.1 (Int.toNat x_31.2) zP).1,(List.getD x_31.1 (Int.toNat x_31.2) zP).2)),(w6 (x_31.2+(1:Int)))) rfl []
   ·refine jq 2 (ql (qh ?_))
    exact jt (rr [])
 ·refine jm 4 (hr:=?_)
  refine jc (h1:=fun b_38=>?_) (h2:=fun b_38=>?_)
  ·refine jm 5 (hr:=?_)
   refine ja (Y:=Int) 1 (fun y_133=>[(0,.c (.h 0)),(2,cI m_3),(14,cI y_133)]) (fun y_133=>[(0,.row kP data_1)]) (h1:=?_) (h2:=fun y_133=>?_)
   ·refine jm 1 (hr:=?_)
    refine jl (X:=(Int×Int)) (fun k x=>A8.l2 K data_1 m_3 k x.1 x.2) K (a_2,m_3) rfl 1 [] (fun x_43=>[(0,.c (.h 0)),(2,cI m_3),(4,.c (.clo 218 [])),(14,cI x_43.1),(15,cI x_43.2)]) (fun x_43=>[(0,.row kP data_1)]) (fun _=>rfl) (round:=fun k x_43=>jy (A8.l2.eq_2 ..) ?_)
    refine jm 3 (hr:=?_)
    refine jc (h1:=fun b_45=>?_) (h2:=fun b_45=>?_)
    ·refine jn 5 [(0:Int)≤(1:Int)] (ap1 (by decide)) (hr:=?_)
     refine jb fun r_47 h_48=>?_
     refine jwi [cp 9 (I4 _ h_48) [] 1] [] (hr:=fun c_49=>?_)
     refine jc (h1:=fun b_50=>?_) (h2:=fun b_50=>?_)
     ·refine jm 2 (hr:=?_)
      exact jx ((w6 ((w6 (Int.fdiv (IntKind.wrap .u64 (w6 (x_43.1+x_43.2))) (2:Int)))+(1:Int))),x_43.2) rfl []
     ·refine jm 2 (hr:=?_)
      exact jx (x_43.1,(w6 (Int.fdiv (IntKind.wrap .u64 (w6 (x_43.1+x_43.2))) (2:Int)))) rfl []
    ·refine jq 4 (ql (qh ?_))
     exact jo []
   ·refine jm 4 (hr:=?_)
    refine jl (X:=((List (Int×Int))×Int)) (fun k x=>A8.l3 K y_133 k x.1 x.2) K (data_1,m_3) rfl 1 [] (fun x_63=>[(0,.c (.h 0)),(14,cI y_133),(17,cI x_63.2)]) (fun x_63=>[(0,.row kP x_63.1)]) (fun _=>rfl) (round:=fun k x_63=>jy (A8.l3.eq_2 ..) ?_)
    refine jm 3 (hr:=?_)
    refine jc (h1:=fun b_65=>?_) (h2:=fun b_65=>?_)
    ·refine jm 3 (hr:=?_)
     refine jp fun c_67=>?_
     refine jw [] [] [0≤(w6 (x_63.2 - (1:Int))),(w6 (x_63.2 - (1:Int)))<(lnI x_63.1),0≤x_63.2,x_63.2<(lnI x_63.1),0≤x_63.2,x_63.2<(lnI x_63.1),0≤(w6 (x_63.2 - (1:Int))),(w6 (x_63.2 - (1:Int)))<(lnI (List.set x_63.1 (Int.toNat x_63.2) ((List.getD x_63.1 (Int.toNat (w6 (x_63.2 - (1:Int)))) zP).1,(List.getD x_63.1 (Int.toNat (w6 (x_63.2 - (1:Int)))) zP).2)))] (ap2 c_67.1 (ap2 c_67.2.1 (ap2 c_67.2.2.1 (ap2 c_67.2.2.2.1 (ap2 c_67.2.2.1 (ap2 c_67.2.2.2.1 (ap2 c_67.1 (ap1 c_67.2.2.2.2)))))))) (hr:=?_)
     refine jm 2 (hr:=?_)
     exact jx ((List.set (List.set x_63.1 (Int.toNat x_63.2) ((List.getD x_63.1 (Int.toNat (w6 (x_63.2 - (1:Int)))) zP).1,(List.getD x_63.1 (Int.toNat (w6 (x_63.2 - (1:Int)))) zP).2)) (Int.toNat (w6 (x_63.2 - (1:Int)))) ((List.getD x_63.1 (Int.toNat x_63.2) zP).1,(List.getD x_63.1 (Int.toNat x_63.2) zP).2)),(w6 (x_63.2 - (1:Int)))) rfl []
    ·refine jq 6 (ql (qh ?_))
     exact jt (rr [])
  ·refine jn 10 [(0:Int)≤(1:Int)] (ap1 (by decide)) (hr:=?_)
   refine ja (Y:=(Int×Int)) 1 (fun y_134=>[(0,.c (.h 0)),(1,cI a_2),(2,cI m_3),(3,cI b_4),(4,.c (.clo 218 [])),(18,cI (w6 (Int.fdiv (IntKind.wrap .u64 (w6 (a_2+b_4))) (2:Int)))),(19,cI (w6 ((w6 (Int.fdiv (IntKind.wrap .u64 (w6 (a_2+b_4))) (2:Int)))+m_3))),(20,cI y_134.1),(21,cI y_134.2)]) (fun y_134=>[(0,.row kP data_1)]) (h1:=?_) (h2:=fun y_134=>?_)
   ·refine jc (h1:=fun b_70=>?_) (h2:=fun b_70=>?_)
    ·refine jm 3 (hr:=?_)
     exact jo []
    ·refine jm 3 (hr:=?_)
     exact jo []
   ·refine jm 3 (hr:=?_)
    refine ja (Y:=Int) 1 (fun y_135=>[(0,.c (.h 0)),(1,cI a_2),(2,cI m_3),(3,cI b_4),(4,.c (.clo 218 [])),(18,cI (w6 (Int.fdiv (IntKind.wrap .u64 (w6 (a_2+b_4))) (2:Int)))),(19,cI (w6 ((w6 (Int.fdiv (IntKind.wrap .u64 (w6 (a_2+b_4))) (2:Int)))+m_3))),(20,cI y_135)]) (fun y_135=>[(0,.row kP data_1)]) (h1:=?_) (h2:=fun y_135=>?_)
    ·refine jm 1 (hr:=?_)
     refine jl (X:=(Int×Int)) (fun k x=>A8.l4 K data_1 a_2 b_4 m_3 k x.1 x.2) K (y_134.1,y_134.2) rfl 1 [] (fun x_79=>[(0,.c (.h 0)),(1,cI a_2),(2,cI m_3),(3,cI b_4),(4,.c (.clo 218 [])),(18,cI (w6 (Int.fdiv (IntKind.wrap .u64 (w6 (a_2+b_4))) (2:Int)))),(19,cI (w6 ((w6 (Int.fdiv (IntKind.wrap .u64 (w6 (a_2+b_4))) (2:Int)))+m_3))),(20,cI x_79.1),(21,cI x_79.2),(22,cI (w6 ((w6 ((w6 (Int.fdiv (IntKind.wrap .u64 (w6 (a_2+b_4))) (2:Int)))+m_3)) - (1:Int))))]) (fun x_79=>[(0,.row kP data_1)]) (fun _=>rfl) (round:=fun k x_79=>jy (A8.l4.eq_2 ..) ?_)
     refine jm 3 (hr:=?_)
     refine jc (h1:=fun b_81=>?_) (h2:=fun b_81=>?_)
     ·refine jn 5 [(0:Int)≤(1:Int)] (ap1 (by decide)) (hr:=?_)
      refine jb fun r_83 h_84=>?_
      refine jwi [cp 11 (I4 _ h_84) [] 1] [] (hr:=fun c_85=>?_)
      refine jc (h1:=fun b_86=>?_) (h2:=fun b_86=>?_)
      ·refine jm 2 (hr:=?_)
       exact jx ((w6 ((w6 (Int.fdiv (IntKind.wrap .u64 (w6 (x_79.1+x_79.2))) (2:Int)))+(1:Int))),x_79.2) rfl []
      ·refine jm 2 (hr:=?_)
       exact jx (x_79.1,(w6 (Int.fdiv (IntKind.wrap .u64 (w6 (x_79.1+x_79.2))) (2:Int)))) rfl []
     ·refine jq 8 (ql (qh ?_))
      exact jo []
    ·refine jm 4 (hr:=?_)
     refine ja (Y:=Bool) 1 (fun y_136=>[(0,.c (.h 0)),(1,cI a_2),(2,cI m_3),(3,cI b_4),(4,.c (.clo 218 [])),(18,cI (w6 (Int.fdiv (IntKind.wrap .u64 (w6 (a_2+b_4))) (2:Int)))),(20,cI y_135),(24,cI (w6 ((w6 ((w6 (Int.fdiv (IntKind.wrap .u64 (w6 (a_2+b_4))) (2:Int)))+m_3)) - y_135))),(185,cB y_136)]) (fun y_136=>[(0,.row kP data_1)]) (h1:=?_) (h2:=fun y_136=>?_)
     ·refine js (fun b_91=>?_) fun b_91=>?_
      ·refine jr [] [(181,true)] [(decide (y_135<m_3))=true] (ap1 b_91) (hr:=?_)
       exact jo []
      ·refine jr [] [(181,false)] [(decide (y_135<m_3))=false] (ap1 b_91) (hr:=?_)
       exact jo []
     ·refine ja (Y:=(List (Int×Int))) 1 (fun y_137=>[(0,.c (.h 0)),(1,cI a_2),(3,cI b_4),(4,.c (.clo 218 [])),(18,cI (w6 (Int.fdiv (IntKind.wrap .u64 (w6 (a_2+b_4))) (2:Int)))),(20,cI y_135),(24,cI (w6 ((w6 ((w6 (Int.fdiv (IntKind.wrap .u64 (w6 (a_2+b_4))) (2:Int)))+m_3)) - y_135)))]) (fun y_137=>[(0,.row kP y_137)]) (h1:=?_) (h2:=fun y_137=>?_)
      ·refine jc (h1:=fun b_95=>?_) (h2:=fun b_95=>?_)
       ·refine jb fun r_96 h_97=>?_
        refine jr0 [cp 5 (W3 _ h_97) [(0,0)] 1] (hr:=?_)
        exact jo []
       ·refine jm 1 (hr:=?_)
        exact jo []
      ·refine jm 2 (hr:=?_)
       refine ja (Y:=Bool) 1 (fun y_138=>[(0,.c (.h 0)),(1,cI a_2),(3,cI b_4),(4,.c (.clo 218 [])),(18,cI (w6 (Int.fdiv (IntKind.wrap .u64 (w6 (a_2+b_4))) (2:Int)))),(20,cI y_135),(24,cI (w6 ((w6 ((w6 (Int.fdiv (IntKind.wrap .u64 (w6 (a_2+b_4))) (2:Int)))+m_3)) - y_135))),(199,cB y_138)]) (fun y_138=>[(0,.row kP y_137)]) (h1:=?_) (h2:=fun y_138=>?_)
       ·refine js (fun b_102=>?_) fun b_102=>?_
        ·refine jr [] [(195,true)] [(decide (a_2<y_135))=true] (ap1 b_102) (hr:=?_)
         exact jo []
        ·refine jr [] [(195,false)] [(decide (a_2<y_135))=false] (ap1 b_102) (hr:=?_)
         exact jo []
       ·refine ja (Y:=(List (Int×Int))) 1 (fun y_139=>[(0,.c (.h 0)),(3,cI b_4),(4,.c (.clo 218 [])),(18,cI (w6 (Int.fdiv (IntKind.wrap .u64 (w6 (a_2+b_4))) (2:Int)))),(24,cI (w6 ((w6 ((w6 (Int.fdiv (IntKind.wrap .u64 (w6 (a_2+b_4))) (2:Int)))+m_3)) - y_135)))]) (fun y_139=>[(0,.row kP y_139)]) (h1:=?_) (h2:=fun y_139=>?_)
        ·refine jc (h1:=fun b_106=>?_) (h2:=fun b_106=>?_)
         ·refine jb fun r_107 h_108=>?_
          refine jr0 [cp 5 (ih _ h_108) [(0,0)] 1] (hr:=?_)
          exact jo []
         ·refine jm 1 (hr:=?_)
          exact jo []
        ·refine jm 1 (hr:=?_)
         refine ja (Y:=Bool) 1 (fun y_140=>[(0,.c (.h 0)),(3,cI b_4),(4,.c (.clo 218 [])),(18,cI (w6 (Int.fdiv (IntKind.wrap .u64 (w6 (a_2+b_4))) (2:Int)))),(24,cI (w6 ((w6 ((w6 (Int.fdiv (IntKind.wrap .u64 (w6 (a_2+b_4))) (2:Int)))+m_3)) - y_135))),(213,cB y_140)]) (fun y_140=>[(0,.row kP y_139)]) (h1:=?_) (h2:=fun y_140=>?_)
         ·refine js (fun b_113=>?_) fun b_113=>?_
          ·refine jr [] [(209,true)] [(decide ((w6 (Int.fdiv (IntKind.wrap .u64 (w6 (a_2+b_4))) (2:Int)))<(w6 ((w6 ((w6 (Int.fdiv (IntKind.wrap .u64 (w6 (a_2+b_4))) (2:Int)))+m_3)) - y_135))))=true] (ap1 b_113) (hr:=?_)
           exact jo []
          ·refine jr [] [(209,false)] [(decide ((w6 (Int.fdiv (IntKind.wrap .u64 (w6 (a_2+b_4))) (2:Int)))<(w6 ((w6 ((w6 (Int.fdiv (IntKind.wrap .u64 (w6 (a_2+b_4))) (2:Int)))+m_3)) - y_135))))=false] (ap1 b_113) (hr:=?_)
           exact jo []
         ·refine jc (h1:=fun b_117=>?_) (h2:=fun b_117=>?_)
          ·refine jb fun r_118 h_119=>?_
           refine jr0 [cp 5 (ih _ h_119) [(0,0)] 1] (hr:=?_)
           exact je (rn' [])
          ·refine jm 1 (hr:=?_)
           exact je (rn' [])
theorem OA {K data_1 a_2 m_3 b_4}:FS Tryz.prog 273 1 [.c (.h 0),cI a_2,cI m_3,cI b_4,.c (.clo 218 [])] [(0,.row kP data_1)] (A8 K data_1 a_2 m_3 b_4) (fun r=>.tup []) fun r=>[(0,.row kP r)]:=slices_symMergeCmpFunc_rgggcregionapart1_rec K
theorem W5 {K data_1 n_2}:FS Tryz.prog 254 1 [.c (.h 0),cI n_2,.c (.clo 218 [])] [(0,.row kP data_1)] (AX K data_1 n_2) (fun r=>.tup []) fun r=>[(0,.row kP r)]:=by
 refine jfn (fn:=Tryz.f254) Tryz.func254 (jy (AX.eq_1 ..) ?_)
 refine jm 5 (hr:=?_)
 refine ja (Y:=((List (Int×Int))×Int)) 1 (fun y_109=>[(0,.c (.h 0)),(1,cI n_2),(2,.c (.clo 218 [])),(6,cI (20:Int)),(7,cI y_109.2)]) (fun y_109=>[(0,.row kP y_109.1)]) (h1:=?_) (h2:=fun y_109=>?_)
 ·refine jm 1 (hr:=?_)
  refine jl (X:=((List (Int×Int))×Int×Int)) (fun k x=>AX.l0 K n_2 k x.1 x.2.1 x.2.2) K (data_1,(0:Int),(20:Int)) rfl 1 [] (fun x_16=>[(0,.c (.h 0)),(1,cI n_2),(2,.c (.clo 218 [])),(6,cI (20:Int)),(7,cI x_16.2.1),(8,cI x_16.2.2)]) (fun x_16=>[(0,.row kP x_16.1)]) (fun _=>rfl) (round:=fun k x_16=>jy (AX.l0.eq_2 ..) ?_)
  refine jm 3 (hr:=?_)
  refine jc (h1:=fun b_18=>?_) (h2:=fun b_18=>?_)
  ·refine jm 3 (hr:=?_)
   refine jb fun r_20 h_21=>?_
   refine jr0 [cp 4 (O8 _ h_21) [(0,0)] 1] (hr:=?_)
   refine jm 4 (hr:=?_)
   exact jx (r_20,x_16.2.2,(w6 (x_16.2.2+(20:Int)))) rfl []
  ·refine jq 0 (ql (qh ?_))
   exact jo []
 ·refine jm 1 (hr:=?_)
  refine jb fun r_27 h_28=>?_
  refine jr0 [cp 4 (O8 _ h_28) [(0,0)] 1] (hr:=?_)
  refine jm 1 (hr:=?_)
  refine jl (X:=((List (Int×Int))×Int)) (fun k x=>AX.l1 K n_2 k x.1 x.2) K (r_27,(20:Int)) rfl 1 [] (fun x_68=>[(0,.c (.h 0)),(1,cI n_2),(2,.c (.clo 218 [])),(6,cI x_68.2)]) (fun x_68=>[(0,.row kP x_68.1)]) (fun _=>rfl) (round:=fun k x_68=>jy (AX.l1.eq_2 ..) ?_)
  refine jm 3 (hr:=?_)
  refine jc (h1:=fun b_70=>?_) (h2:=fun b_70=>?_)
  ·refine jm 1 (hr:=?_)
   refine ja (Y:=(List (Int×Int))) 1 (fun y_110=>[(0,.c (.h 0)),(1,cI n_2),(2,.c (.clo 218 [])),(6,cI (w6 (x_68.2 * (2:Int))))]) (fun y_110=>[(0,.row kP y_110)]) (h1:=?_) (h2:=fun y_110=>?_)
   ·refine jm 4 (hr:=?_)
    refine ja (Y:=((List (Int×Int))×Int)) 1 (fun y_111=>[(0,.c (.h 0)),(1,cI n_2),(2,.c (.clo 218 [])),(6,cI x_68.2),(7,cI y_111.2)]) (fun y_111=>[(0,.row kP y_111.1)]) (h1:=?_) (h2:=fun y_111=>?_)
    ·refine jm 1 (hr:=?_)
     refine jl (X:=((List (Int×Int))×Int×Int)) (fun k x=>AX.l2 K n_2 x_68.2 k x.1 x.2.1 x.2.2) K (x_68.1,(0:Int),(w6 ((2:Int) * x_68.2))) rfl 1 [] (fun x_85=>[(0,.c (.h 0)),(1,cI n_2),(2,.c (.clo 218 [])),(6,cI x_68.2),(7,cI x_85.2.1),(8,cI x_85.2.2)]) (fun x_85=>[(0,.row kP x_85.1)]) (fun _=>rfl) (round:=fun k x_85=>jy (AX.l2.eq_2 ..) ?_)
     refine jm 3 (hr:=?_)
     refine jc (h1:=fun b_87=>?_) (h2:=fun b_87=>?_)
     ·refine jm 3 (hr:=?_)
      refine jb fun r_89 h_90=>?_
      refine jr0 [cp 7 (OA _ h_90) [(0,0)] 1] (hr:=?_)
      refine jm 4 (hr:=?_)
      exact jx (r_89,x_85.2.2,(w6 (x_85.2.2+(w6 ((2:Int) * x_68.2))))) rfl []
     ·refine jq 4 (ql (qh ?_))
      exact jo []
    ·refine jm 5 (hr:=?_)
     refine jc (h1:=fun b_96=>?_) (h2:=fun b_96=>?_)
     ·refine jb fun r_97 h_98=>?_
      refine jr0 [cp 5 (OA _ h_98) [(0,0)] 1] (hr:=?_)
      refine jm 2 (hr:=?_)
      exact jo []
     ·refine jm 3 (hr:=?_)
      exact jo []
   ·exact jx (y_110,(w6 (x_68.2 * (2:Int)))) rfl []
  ·refine jq 2 (ql (qh ?_))
   exact je (rn' [])
theorem W0 {K x_1}:FS Tryz.prog 217 1 [.c (.h 0),.c (.clo 218 [])] [(0,.row kP x_1)] (KI K x_1) (fun r=>.tup []) fun r=>[(0,.row kP r)]:=by
 refine jfn (fn:=Tryz.f217) Tryz.func217 (jy (KI.eq_1 ..) ?_)
 refine jb fun r_2 h_3=>?_
 refine jr0 [cp 4 (W5 _ h_3) [(0,0)] 1] (hr:=?_)
 exact je (rn' [])
theorem ST {K a_1 a_2 b_3 b_4}:FS Tryz.prog 223 0 [.agg [.val (.int .i64 a_1),.val (.int .i64 a_2)],.agg [.val (.int .i64 b_3),.val (.int .i64 b_4)]] [] (JO K a_1 a_2 b_3 b_4) (fun r=>cB r) fun r=>[]:=by
 refine jfn (fn:=Tryz.f223) Tryz.func223 (jy (JO.eq_1 ..) ?_)
 refine jm 3 (hr:=?_)
 refine js (fun b_6=>?_) fun b_6=>?_
 ·refine jr [] [(10,true)] [(decide (a_2≥b_3))=true] (ap1 b_6) (hr:=?_)
  exact jt (rr [])
 ·refine jr [] [(10,false)] [(decide (a_2≥b_3))=false] (ap1 b_6) (hr:=?_)
  exact jt (rr [])
theorem UI {K a_1 a_2 b_3 b_4}:FS Tryz.prog 222 0 [.agg [.val (.int .i64 a_1),.val (.int .i64 a_2)],.agg [.val (.int .i64 b_3),.val (.int .i64 b_4)]] [] (K5 K a_1 a_2 b_3 b_4) (fun r=>cB r) fun r=>[]:=by
 refine jfn (fn:=Tryz.f222) Tryz.func222 (jy (K5.eq_1 ..) ?_)
 refine jm 3 (hr:=?_)
 refine jb fun r_6 h_7=>?_
 refine jb fun r_8 h_9=>?_
 refine jb fun r_10 h_11=>?_
 refine jw0 [cp 1 (C5 _ h_7) [] 2,cp 3 (C5 _ h_9) [] 2,cp 4 (ST _ h_11) [] 2] (hr:=?_)
 exact jt (rr [])
theorem SS {K a_1 a_2 b_3 b_4}:FS Tryz.prog 256 0 [.agg [.val (.int .i64 a_1),.val (.int .i64 a_2)],.agg [.val (.int .i64 b_3),.val (.int .i64 b_4)]] [] (JN K a_1 a_2 b_3 b_4) (fun r=>.agg [.val (.int .i64 r.1),.val (.int .i64 r.2)]) fun r=>[]:=by
 refine jfn (fn:=Tryz.f256) Tryz.func256 (jy (JN.eq_1 ..) ?_)
 refine jm 4 (hr:=?_)
 exact jt (rr [(0,2)])
theorem UQ {K a_1 a_2 b_3 b_4}:FS Tryz.prog 224 0 [.agg [.val (.int .i64 a_1),.val (.int .i64 a_2)],.agg [.val (.int .i64 b_3),.val (.int .i64 b_4)]] [] (K8 K a_1 a_2 b_3 b_4) (fun r=>.agg [.val (.int .i64 r.1),.val (.int .i64 r.2)]) fun r=>[]:=by
 refine jfn (fn:=Tryz.f224) Tryz.func224 (jy (K8.eq_1 ..) ?_)
 refine jm 3 (hr:=?_)
 refine jb fun r_6 h_7=>?_
 refine jb fun r_8 h_9=>?_
 refine jb fun r_10 h_11=>?_
 refine jw0 [cp 1 (C5 _ h_7) [] 3,cp 3 (C5 _ h_9) [] 3,cp 4 (SS _ h_11) [] 3] (hr:=?_)
 refine jm 3 (hr:=?_)
 refine jc (h1:=fun b_14=>?_) (h2:=fun b_14=>?_)
 ·refine jm 2 (hr:=?_)
  exact jt (rr [(0,2)])
 ·refine jm 3 (hr:=?_)
  exact jt (rr [(0,2)])
theorem SR {K l_1}:FS Tryz.prog 221 1 [.c (.h 0),.c (.clo 222 []),.c (.clo 224 [])] [(0,.row kP l_1)] (D3 K l_1) (fun r=>.c (.h 1)) fun r=>[(0,.row kP l_1),(1,.row kP r)]:=by
 refine jfn (fn:=Tryz.f221) Tryz.func221 (jy (D3.eq_1 ..) ?_)
 refine jm 8 (hr:=?_)
 refine jg [.nilSlot 7 kP] ?_
 refine jl (X:=((List (Int×Int))×Int)) (fun k x=>D3.l0 K l_1 k x.1 x.2) K (([]:List (Int×Int)),(0:Int)) rfl 6 [(5,1)] (fun x_24=>[(1,.c (.clo 222 [])),(2,.c (.clo 224 [])),(7,.c (.h 5)),(11,.c (.h 0)),(12,cI (lnI l_1)),(13,cI x_24.2)]) (fun x_24=>[(0,.row kP l_1),(5,.row kP x_24.1)]) (fun _=>rfl) (round:=fun k x_24=>jy (D3.l0.eq_2 ..) ?_)
 refine jm 3 (hr:=?_)
 refine jc (h1:=fun b_26=>?_) (h2:=fun b_26=>?_)
 ·refine ji 9 (hr:=fun c_27=>?_)
  refine ja (Y:=Bool) 7 (fun y_46=>[(1,.c (.clo 222 [])),(2,.c (.clo 224 [])),(7,.c (.h 5)),(9,.c (.h 6)),(10,cI (w6 ((lnI x_24.1) - (1:Int)))),(11,.c (.h 0)),(12,cI (lnI l_1)),(13,cI x_24.2),(30,cB y_46)]) (fun y_46=>[(0,.row kP l_1),(5,.row kP x_24.1),(6,.box [.val (.int .i64 (List.getD l_1 (Int.toNat x_24.2) zP).1),.val (.int .i64 (List.getD l_1 (Int.toNat x_24.2) zP).2)])]) (h1:=?_) (h2:=fun y_46=>?_)
  ·refine js (fun b_28=>?_) fun b_28=>?_
   ·refine jb fun r_29 h_30=>?_
    refine jp fun c_31=>?_
    refine jw [cp 9 (UI _ h_30) [] 7] [(22,true)] [(decide ((w6 ((lnI x_24.1) - (1:Int)))≥(0:Int)))=true,0≤(w6 ((lnI x_24.1) - (1:Int))),(w6 ((lnI x_24.1) - (1:Int)))<(lnI x_24.1)] (ap2 b_28 (ap2 c_31.1 (ap1 c_31.2))) (hr:=?_)
    exact jo []
   ·refine jw [] [(22,false)] [(decide ((w6 ((lnI x_24.1) - (1:Int)))≥(0:Int)))=false] (ap1 b_28) (hr:=?_)
    exact jo []
  ·refine jc (h1:=fun b_34=>?_) (h2:=fun b_34=>?_)
   ·refine jm 1 (hr:=?_)
    refine jb fun r_36 h_37=>?_
    refine jp fun c_38=>?_
    refine jw [cp 8 (UQ _ h_37) [] 7] [] [0≤(w6 ((lnI x_24.1) - (1:Int))),(w6 ((lnI x_24.1) - (1:Int)))<(lnI x_24.1),0≤(w6 ((lnI x_24.1) - (1:Int))),(w6 ((lnI x_24.1) - (1:Int)))<(lnI x_24.1)] (ap2 c_38.1 (ap2 c_38.2 (ap2 c_38.1 (ap1 c_38.2)))) (hr:=?_)
    refine jm 2 (hr:=?_)
    exact jx ((List.set x_24.1 (Int.toNat (w6 ((lnI x_24.1) - (1:Int)))) (r_36.1,r_36.2)),(w6 (x_24.2+(1:Int)))) rfl []
   ·refine ji 2 (hr:=fun c_40=>?_)
    refine jm 2 (hr:=?_)
    exact jx ((x_24.1++([((List.getD l_1 (Int.toNat x_24.2) zP).1,(List.getD l_1 (Int.toNat x_24.2) zP).2)]:List (Int×Int))),(w6 (x_24.2+(1:Int)))) rfl [(5,8)]
 ·refine jq 0 (ql (qh ?_))
  refine jm 2 (hr:=?_)
  exact jt (rr [(1,5)])
theorem NP {K l_1}:FS Tryz.prog 161 0 [.c (.imm (.slice kP) l_1)] [] (F0 K l_1) (fun r=>.c (.h 0)) fun r=>[(0,.row kP r)]:=by
 refine jfn (fn:=Tryz.f161) Tryz.func161 (jy (F0.eq_1 ..) ?_)
 refine jm 3 (hr:=?_)
 refine jb fun r_3 h_4=>?_
 refine jr0 [cp 1 (VE _ h_4) [(0,0)] 1] (hr:=?_)
 refine jm 1 (hr:=?_)
 refine jb fun r_7 h_8=>?_
 refine jr0 [cp 1 (W0 _ h_8) [(0,0)] 1] (hr:=?_)
 refine jm 1 (hr:=?_)
 refine jb fun r_11 h_12=>?_
 refine jr0 [cp 1 (SR _ h_12) [(0,0),(1,1)] 2] (hr:=?_)
 exact jt (rr [(0,1)])
theorem UH {K l_1 d_2 d_3}:FS Tryz.prog 106 0 [.c (.imm (.slice kP) l_1),.agg [.val (.int .i64 d_2),.imm (.slice kE) d_3]] [] (BC K l_1 d_2 d_3) (fun r=>.tup [(false,[.h 0]),(false,[.val (.int .i64 r.2)])]) fun r=>[(0,.row kP r.1)]:=by
 refine jfn (fn:=Tryz.f106) Tryz.func106 (jy (BC.eq_1 ..) ?_)
 refine jm 4 (hr:=?_)
 refine ja (Y:=Bool) 1 (fun y_57=>[(0,.c (.imm (.slice kP) l_1)),(3,.c (.h 0)),(23,cB y_57)]) (fun y_57=>[(0,.box [.val (.int .i64 d_2),.imm (.slice kE) d_3])]) (h1:=?_) (h2:=fun y_57=>?_)
 ·refine jb fun r_5 h_6=>?_
  refine js (fun b_7=>?_) fun b_7=>?_
  ·refine jr [cp 1 (D1 _ h_6) [] 1] [(13,true)] [(!r_5)=true] (ap1 b_7) (hr:=?_)
   exact jo []
  ·refine js (fun b_9=>?_) fun b_9=>?_
   ·refine jr [cp 1 (D1 _ h_6) [] 1] [(13,false),(18,true)] [(!r_5)=false,((lnI l_1)==(0:Int))=true] (ap2 b_7 (ap1 b_9)) (hr:=?_)
    exact jo []
   ·refine jb fun r_11 h_12=>?_
    refine jr [cp 1 (D1 _ h_6) [] 1,cp 11 (UM _ h_12) [(0,0)] 1] [(13,false),(18,false)] [(!r_5)=false,((lnI l_1)==(0:Int))=false] (ap2 b_7 (ap1 b_9)) (hr:=?_)
    exact jo []
 ·refine jc (h1:=fun b_15=>?_) (h2:=fun b_15=>?_)
  ·refine jm 2 (hr:=?_)
   refine jg [.nilSlot 4 kP] ?_
   exact jt (rr [(0,1)])
  ·refine jm 3 (hr:=?_)
   refine jb fun r_18 h_19=>?_
   refine jr0 [cp 1 (NQ _ h_19) [] 1] (hr:=?_)
   refine jm 2 (hr:=?_)
   refine jc (h1:=fun b_22=>?_) (h2:=fun b_22=>?_)
   ·refine jm 2 (hr:=?_)
    refine jg [.nilSlot 4 kP] ?_
    exact jt (rr [(0,1)])
   ·refine jm 6 (hr:=?_)
    refine ja (Y:=(List (Int×Int))) 6 (fun y_58=>[(7,.c (.h 5))]) (fun y_58=>[(5,.row kP y_58)]) (h1:=?_) (h2:=fun y_58=>?_)
    ·refine jm 1 (hr:=?_)
     refine jg [.nilSlot 7 kP] ?_
     refine jl (X:=((List (Int×Int))×Int)) (fun k x=>BC.l0 K l_1 d_2 d_3 k x.1 x.2) K (([]:List (Int×Int)),(0:Int)) rfl 6 [(5,1)] (fun x_38=>[(3,.c (.h 0)),(7,.c (.h 5)),(29,.c (.imm (.slice kP) l_1)),(30,cI (lnI l_1)),(31,cI x_38.2)]) (fun x_38=>[(0,.box [.val (.int .i64 d_2),.imm (.slice kE) d_3]),(5,.row kP x_38.1)]) (fun _=>rfl) (round:=fun k x_38=>jy (BC.l0.eq_2 ..) ?_)
     refine jm 3 (hr:=?_)
     refine jc (h1:=fun b_40=>?_) (h2:=fun b_40=>?_)
     ·refine ji 5 (hr:=fun c_41=>?_)
      refine jb fun r_42 h_43=>?_
      refine jb fun r_44 h_45=>?_
      refine jwi [cp 4 (GG _ h_43) [] 7,cp 8 (GG _ h_45) [] 7] [] (hr:=fun c_46=>?_)
      refine jm 2 (hr:=?_)
      exact jx ((x_38.1++([(r_42,r_44)]:List (Int×Int))),(w6 (x_38.2+(1:Int)))) rfl [(5,8)]
     ·refine jq 0 (ql (qh ?_))
      exact jo []
    ·refine jm 1 (hr:=?_)
     refine jg [.shut 5] ?_
     refine jb fun r_50 h_51=>?_
     refine jr0 [cp 1 (NP _ h_51) [(0,6)] 7] (hr:=?_)
     exact jt (rr [(0,6)])
theorem DU {K n_1 low_2 high_3}:FS Tryz.prog 170 0 [cI n_1,cI low_2,cI high_3] [] (EC K n_1 low_2 high_3) (fun r=>cB r) fun r=>[]:=by
 refine jfn (fn:=Tryz.f170) Tryz.func170 (jy (EC.eq_1 ..) ?_)
 refine jm 3 (hr:=?_)
 refine js (fun b_5=>?_) fun b_5=>?_
 ·refine jr [] [(10,true)] [(decide (n_1≥low_2))=true] (ap1 b_5) (hr:=?_)
  exact jt (rr [])
 ·refine jr [] [(10,false)] [(decide (n_1≥low_2))=false] (ap1 b_5) (hr:=?_)
  exact jt (rr [])
theorem FF {K l_1 n_2}:FS Tryz.prog 162 0 [.c (.imm (.slice kS) l_1),cI n_2] [] (BS K l_1 n_2) (fun r=>cB r) fun r=>[]:=by
 refine jfn (fn:=Tryz.f162) Tryz.func162 (jy (BS.eq_1 ..) ?_)
 refine jm 7 (hr:=?_)
 refine jc (h1:=fun b_4=>?_) (h2:=fun b_4=>?_)
 ·refine jm 2 (hr:=?_)
  exact jt (rr [])
 ·refine jm 5 (hr:=?_)
  refine jl (X:=Int) (fun k x=>BS.l0 K l_1 n_2 k x) K _ rfl 0 [] (fun x_8=>[(0,.c (.imm (.slice kS) l_1)),(1,cI (mn2 n_2 (20000:Int))),(12,.c (.imm (.slice kS) l_1)),(13,cI (lnI l_1)),(14,cI x_8)]) (fun x_8=>[]) (fun _=>rfl) (round:=fun k x_8=>jy (BS.l0.eq_2 ..) ?_)
  refine jm 3 (hr:=?_)
  refine jc (h1:=fun b_10=>?_) (h2:=fun b_10=>?_)
  ·refine ji 7 (hr:=fun c_11=>?_)
   refine ja (Y:=Bool) 1 (fun y_42=>[(0,.c (.imm (.slice kS) l_1)),(1,cI (mn2 n_2 (20000:Int))),(5,cI x_8),(6,.c (.h 0)),(12,.c (.imm (.slice kS) l_1)),(13,cI (lnI l_1)),(14,cI x_8),(40,cB y_42)]) (fun y_42=>[(0,.box [.val (.int .i64 (List.getD l_1 (Int.toNat x_8) zS).1),.val (.int .i64 (List.getD l_1 (Int.toNat x_8) zS).2.1),.val (.int .i64 (List.getD l_1 (Int.toNat x_8) zS).2.2)])]) (h1:=?_) (h2:=fun y_42=>?_)
   ·refine jb fun r_12 h_13=>?_
    refine js (fun b_14=>?_) fun b_14=>?_
    ·refine jr [cp 2 (DU _ h_13) [] 1] [(23,true)] [(!r_12)=true] (ap1 b_14) (hr:=?_)
     exact jo []
    ·refine js (fun b_16=>?_) fun b_16=>?_
     ·refine jr [cp 2 (DU _ h_13) [] 1] [(23,false),(28,true)] [(!r_12)=false,(decide ((List.getD l_1 (Int.toNat x_8) zS).1<(0:Int)))=true] (ap2 b_14 (ap1 b_16)) (hr:=?_)
      exact jo []
     ·refine js (fun b_18=>?_) fun b_18=>?_
      ·refine jr [cp 2 (DU _ h_13) [] 1] [(23,false),(28,false),(35,true)] [(!r_12)=false,(decide ((List.getD l_1 (Int.toNat x_8) zS).1<(0:Int)))=false,(decide ((List.getD l_1 (Int.toNat x_8) zS).1≥(List.getD l_1 (Int.toNat x_8) zS).2.1))=true] (ap2 b_14 (ap2 b_16 (ap1 b_18))) (hr:=?_)
       exact jo []
      ·refine jr [cp 2 (DU _ h_13) [] 1] [(23,false),(28,false),(35,false)] [(!r_12)=false,(decide ((List.getD l_1 (Int.toNat x_8) zS).1<(0:Int)))=false,(decide ((List.getD l_1 (Int.toNat x_8) zS).1≥(List.getD l_1 (Int.toNat x_8) zS).2.1))=false] (ap2 b_14 (ap2 b_16 (ap1 b_18))) (hr:=?_)
       exact jo []
   ·refine jc (h1:=fun b_22=>?_) (h2:=fun b_22=>?_)
    ·refine jm 2 (hr:=?_)
     exact jt (rl (rr []))
    ·refine jm 2 (hr:=?_)
     refine ja (Y:=Bool) 1 (fun y_43=>[(0,.c (.imm (.slice kS) l_1)),(1,cI (mn2 n_2 (20000:Int))),(12,.c (.imm (.slice kS) l_1)),(13,cI (lnI l_1)),(14,cI x_8),(75,cB y_43)]) (fun y_43=>[]) (h1:=?_) (h2:=fun y_43=>?_)
     ·refine js (fun b_25=>?_) fun b_25=>?_
      ·refine js (fun b_26=>?_) fun b_26=>?_
       ·refine jp fun c_27=>?_
        refine jw [] [(43,true),(53,true)] [(decide (x_8 > (0:Int)))=true,0≤(w6 (x_8 - (1:Int))),(w6 (x_8 - (1:Int)))<(lnI l_1),(decide ((List.getD l_1 (Int.toNat x_8) zS).1<(List.getD l_1 (Int.toNat (w6 (x_8 - (1:Int)))) zS).2.1))=true] (ap2 b_25 (ap2 c_27.1 (ap2 c_27.2 (ap1 b_26)))) (hr:=?_)
        exact jo []
       ·refine js (fun b_28=>?_) fun b_28=>?_
        ·refine jp fun c_29=>?_
         refine jw [] [(43,true),(53,false),(63,true)] [(decide (x_8 > (0:Int)))=true,0≤(w6 (x_8 - (1:Int))),(w6 (x_8 - (1:Int)))<(lnI l_1),(decide ((List.getD l_1 (Int.toNat x_8) zS).1<(List.getD l_1 (Int.toNat (w6 (x_8 - (1:Int)))) zS).2.1))=false,0≤(w6 (x_8 - (1:Int))),(w6 (x_8 - (1:Int)))<(lnI l_1),((List.getD l_1 (Int.toNat x_8) zS).1==(List.getD l_1 (Int.toNat (w6 (x_8 - (1:Int)))) zS).2.1)=true,0≤(w6 (x_8 - (1:Int))),(w6 (x_8 - (1:Int)))<(lnI l_1)] (ap2 b_25 (ap2 c_29.1 (ap2 c_29.2 (ap2 b_26 (ap2 c_29.1 (ap2 c_29.2 (ap2 b_28 (ap2 c_29.1 (ap1 c_29.2))))))))) (hr:=?_)
         exact jo []
        ·refine jp fun c_30=>?_
         refine jw [] [(43,true),(53,false),(63,false)] [(decide (x_8 > (0:Int)))=true,0≤(w6 (x_8 - (1:Int))),(w6 (x_8 - (1:Int)))<(lnI l_1),(decide ((List.getD l_1 (Int.toNat x_8) zS).1<(List.getD l_1 (Int.toNat (w6 (x_8 - (1:Int)))) zS).2.1))=false,0≤(w6 (x_8 - (1:Int))),(w6 (x_8 - (1:Int)))<(lnI l_1),((List.getD l_1 (Int.toNat x_8) zS).1==(List.getD l_1 (Int.toNat (w6 (x_8 - (1:Int)))) zS).2.1)=false] (ap2 b_25 (ap2 c_30.1 (ap2 c_30.2 (ap2 b_26 (ap2 c_30.1 (ap2 c_30.2 (ap1 b_28))))))) (hr:=?_)
         exact jo []
      ·refine jw [] [(43,false)] [(decide (x_8 > (0:Int)))=false] (ap1 b_25) (hr:=?_)
       exact jo []
     ·refine jc (h1:=fun b_33=>?_) (h2:=fun b_33=>?_)
      ·refine jm 2 (hr:=?_)
       exact jt (rl (rr []))
      ·refine jm 3 (hr:=?_)
       exact jx _ rfl []
  ·refine jq 0 (ql (qh ?_))
   refine jm 2 (hr:=?_)
   exact jt (rr [])
theorem TV {K d_1 d_2 i_3 i_4}:FS Tryz.prog 163 0 [.agg [.val (.int .i64 d_1),.imm (.slice kE) d_2],.agg [.val (.int .i64 i_3),.val (.int .i64 i_4)]] [] (GF K d_1 d_2 i_3 i_4) (fun r=>.agg [.val (.int .i64 r.1),.val (.int .i64 r.2)]) fun r=>[]:=by
 refine jfn (fn:=Tryz.f163) Tryz.func163 (jy (GF.eq_1 ..) ?_)
 refine jm 3 (hr:=?_)
 refine jb fun r_6 h_7=>?_
 refine jb fun r_8 h_9=>?_
 refine jw0 [cp 3 (GG _ h_7) [] 3,cp 7 (GG _ h_9) [] 3] (hr:=?_)
 refine jm 2 (hr:=?_)
 exact jt (rr [(0,2)])
theorem GQ {K r_1 from_2 to_3 is_4}:FS Tryz.prog 164 2 [.c (.h 0),cI from_2,cI to_3,cI is_4] [(0,.box [.h 1]),(1,.row kS r_1)] (DD K r_1 from_2 to_3 is_4) (fun r=>.tup []) fun r=>[(0,.box [.h 2]),(2,.row kS r)]:=by
 refine jfn (fn:=Tryz.f164) Tryz.func164 (jy (DD.eq_1 ..) ?_)
 refine jm 2 (hr:=?_)
 refine jc (h1:=fun b_6=>?_) (h2:=fun b_6=>?_)
 ·refine ji 1 (hr:=fun c_7=>?_)
  exact je (rn' [(2,3)])
 ·refine jm 1 (hr:=?_)
  exact je (rn' [(2,1)])
theorem IE {K a_1 a_2 a_3 b_4 b_5 b_6}:FS Tryz.prog 258 0 [.agg [.val (.int .i64 a_1),.val (.int .i64 a_2),.val (.int .i64 a_3)],.agg [.val (.int .i64 b_4),.val (.int .i64 b_5),.val (.int .i64 b_6)]] [] (FG K a_1 a_2 a_3 b_4 b_5 b_6) (fun r=>cI r) fun r=>[]:=by
 refine jfn (fn:=Tryz.f258) Tryz.func258 (jy (FG.eq_1 ..) ?_)
 refine jm 3 (hr:=?_)
 refine jb fun r_8 h_9=>?_
 refine jr0 [cp 4 (J2 _ h_9) [] 2] (hr:=?_)
 exact jt (rr [])
theorem O9 {K data_1 a_2 b_3}:FS Tryz.prog 284 1 [.c (.h 0),cI a_2,cI b_3,.c (.clo 258 [])] [(0,.row kS data_1)] (BR K data_1 a_2 b_3) (fun r=>.tup []) fun r=>[(0,.row kS r)]:=by
 refine jfn (fn:=Tryz.f284) Tryz.func284 (jy (BR.eq_1 ..) ?_)
 refine jm 3 (hr:=?_)
 refine jl (X:=((List (Int×(Int×Int)))×Int)) (fun k x=>BR.l0 K b_3 a_2 k x.1 x.2) K (data_1,(w6 (a_2+(1:Int)))) rfl 1 [] (fun x_42=>[(0,.c (.h 0)),(1,cI a_2),(2,cI b_3),(3,.c (.clo 258 [])),(8,cI x_42.2)]) (fun x_42=>[(0,.row kS x_42.1)]) (fun _=>rfl) (round:=fun k x_42=>jy (BR.l0.eq_2 ..) ?_)
 refine jm 3 (hr:=?_)
 refine jc (h1:=fun b_44=>?_) (h2:=fun b_44=>?_)
 ·refine jm 2 (hr:=?_)
  refine ja (Y:=(List (Int×(Int×Int)))) 1 (fun y_82=>[(0,.c (.h 0)),(1,cI a_2),(2,cI b_3),(3,.c (.clo 258 [])),(8,cI x_42.2)]) (fun y_82=>[(0,.row kS y_82)]) (h1:=?_) (h2:=fun y_82=>?_)
  ·refine jm 4 (hr:=?_)
   refine jl (X:=((List (Int×(Int×Int)))×Int)) (fun k x=>BR.l1 K a_2 k x.1 x.2) K (x_42.1,x_42.2) rfl 1 [] (fun x_62=>[(0,.c (.h 0)),(1,cI a_2),(2,cI b_3),(3,.c (.clo 258 [])),(8,cI x_42.2),(9,cI x_62.2)]) (fun x_62=>[(0,.row kS x_62.1)]) (fun _=>rfl) (round:=fun k x_62=>jy (BR.l1.eq_2 ..) ?_)
   refine jm 2 (hr:=?_)
   refine ja (Y:=Bool) 1 (fun y_83=>[(0,.c (.h 0)),(1,cI a_2),(2,cI b_3),(3,.c (.clo 258 [])),(8,cI x_42.2),(9,cI x_62.2),(34,cB y_83)]) (fun y_83=>[(0,.row kS x_62.1)]) (h1:=?_) (h2:=fun y_83=>?_)
   ·refine js (fun b_64=>?_) fun b_64=>?_
    ·refine jb fun r_65 h_66=>?_
     refine jp fun c_67=>?_
     refine jw [cp 14 (IE _ h_66) [] 1] [(21,true)] [(decide (x_62.2 > a_2))=true,0≤x_62.2,x_62.2<(lnI x_62.1),0≤(w6 (x_62.2 - (1:Int))),(w6 (x_62.2 - (1:Int)))<(lnI x_62.1)] (ap2 b_64 (ap2 c_67.1 (ap2 c_67.2.1 (ap2 c_67.2.2.1 (ap1 c_67.2.2.2))))) (hr:=?_)
     exact jo []
    ·refine jw [] [(21,false)] [(decide (x_62.2 > a_2))=false] (ap1 b_64) (hr:=?_)
     exact jo []
   ·refine jc (h1:=fun b_70=>?_) (h2:=fun b_70=>?_)
    ·refine jm 3 (hr:=?_)
     refine jp fun c_72=>?_
     refine jw [] [] [0≤(w6 (x_62.2 - (1:Int))),(w6 (x_62.2 - (1:Int)))<(lnI x_62.1),0≤x_62.2,x_62.2<(lnI x_62.1),0≤x_62.2,x_62.2<(lnI x_62.1),0≤(w6 (x_62.2 - (1:Int))),(w6 (x_62.2 - (1:Int)))<(lnI (List.set x_62.1 (Int.toNat x_62.2) ((List.getD x_62.1 (Int.toNat (w6 (x_62.2 - (1:Int)))) zS).1,((List.getD x_62.1 (Int.toNat (w6 (x_62.2 - (1:Int)))) zS).2.1,(List.getD x_62.1 (Int.toNat (w6 (x_62.2 - (1:Int)))) zS).2.2))))] (ap2 c_72.1 (ap2 c_72.2.1 (ap2 c_72.2.2.1 (ap2 c_72.2.2.2.1 (ap2 c_72.2.2.1 (ap2 c_72.2.2.2.1 (ap2 c_72.1 (ap1 c_72.2.2.2.2)))))))) (hr:=?_)
     refine jm 2 (hr:=?_)
     exact jx ((List.set (List.set x_62.1 (Int.toNat x_62.2) ((List.getD x_62.1 (Int.toNat (w6 (x_62.2 - (1:Int)))) zS).1,((List.getD x_62.1 (Int.toNat (w6 (x_62.2 - (1:Int)))) zS).2.1,(List.getD x_62.1 (Int.toNat (w6 (x_62.2 - (1:Int)))) zS).2.2))) (Int.toNat (w6 (x_62.2 - (1:Int)))) ((List.getD x_62.1 (Int.toNat x_62.2) zS).1,((List.getD x_62.1 (Int.toNat x_62.2) zS).2.1,(List.getD x_62.1 (Int.toNat x_62.2) zS).2.2))),(w6 (x_62.2 - (1:Int)))) rfl []
    ·refine jq 2 (ql (qh ?_))
     refine jm 1 (hr:=?_)
     exact jo []
  ·refine jm 1 (hr:=?_)
   exact jx (y_82,(w6 (x_42.2+(1:Int)))) rfl []
 ·refine jq 0 (ql (qh ?_))
  exact je (rn' [])
theorem KN {K data_1 a_2 b_3 n_4}:FS Tryz.prog 289 1 [.c (.h 0),cI a_2,cI b_3,cI n_4,.c (.clo 258 [])] [(0,.row kS data_1)] (CU K data_1 a_2 b_3 n_4) (fun r=>.tup []) fun r=>[(0,.row kS r)]:=by
 refine jfn (fn:=Tryz.f289) Tryz.func289 (jy (CU.eq_1 ..) ?_)
 refine jm 3 (hr:=?_)
 refine jl (X:=((List (Int×(Int×Int)))×Int)) (fun k x=>CU.l0 K n_4 b_3 a_2 k x.1 x.2) K (data_1,(0:Int)) rfl 1 [] (fun x_14=>[(0,.c (.h 0)),(1,cI a_2),(2,cI b_3),(3,cI n_4),(10,cI x_14.2)]) (fun x_14=>[(0,.row kS x_14.1)]) (fun _=>rfl) (round:=fun k x_14=>jy (CU.l0.eq_2 ..) ?_)
 refine jm 3 (hr:=?_)
 refine jc (h1:=fun b_16=>?_) (h2:=fun b_16=>?_)
 ·refine jm 3 (hr:=?_)
  refine jp fun c_18=>?_
  refine jw [] [] [0≤(w6 (b_3+x_14.2)),(w6 (b_3+x_14.2))<(lnI x_14.1),0≤(w6 (a_2+x_14.2)),(w6 (a_2+x_14.2))<(lnI x_14.1),0≤(w6 (a_2+x_14.2)),(w6 (a_2+x_14.2))<(lnI x_14.1),0≤(w6 (b_3+x_14.2)),(w6 (b_3+x_14.2))<(lnI (List.set x_14.1 (Int.toNat (w6 (a_2+x_14.2))) ((List.getD x_14.1 (Int.toNat (w6 (b_3+x_14.2))) zS).1,((List.getD x_14.1 (Int.toNat (w6 (b_3+x_14.2))) zS).2.1,(List.getD x_14.1 (Int.toNat (w6 (b_3+x_14.2))) zS).2.2))))] (ap2 c_18.1 (ap2 c_18.2.1 (ap2 c_18.2.2.1 (ap2 c_18.2.2.2.1 (ap2 c_18.2.2.1 (ap2 c_18.2.2.2.1 (ap2 c_18.1 (ap1 c_18.2.2.2.2)))))))) (hr:=?_)
  refine jm 2 (hr:=?_)
  exact jx ((List.set (List.set x_14.1 (Int.toNat (w6 (a_2+x_14.2))) ((List.getD x_14.1 (Int.toNat (w6 (b_3+x_14.2))) zS).1,((List.getD x_14.1 (Int.toNat (w6 (b_3+x_14.2))) zS).2.1,(List.getD x_14.1 (Int.toNat (w6 (b_3+x_14.2))) zS).2.2))) (Int.toNat (w6 (b_3+x_14.2))) ((List.getD x_14.1 (Int.toNat (w6 (a_2+x_14.2))) zS).1,((List.getD x_14.1 (Int.toNat (w6 (a_2+x_14.2))) zS).2.1,(List.getD x_14.1 (Int.toNat (w6 (a_2+x_14.2))) zS).2.2))),(w6 (x_14.2+(1:Int)))) rfl []
 ·refine jq 0 (ql (qh ?_))
  exact je (rn' [])
theorem W4 {K data_1 a_2 m_3 b_4}:FS Tryz.prog 288 1 [.c (.h 0),cI a_2,cI m_3,cI b_4,.c (.clo 258 [])] [(0,.row kS data_1)] (DC K data_1 a_2 m_3 b_4) (fun r=>.tup []) fun r=>[(0,.row kS r)]:=by
 refine jfn (fn:=Tryz.f288) Tryz.func288 (jy (DC.eq_1 ..) ?_)
 refine jm 5 (hr:=?_)
 refine ja (Y:=((List (Int×(Int×Int)))×Int)) 1 (fun y_47=>[(0,.c (.h 0)),(2,cI m_3),(4,.c (.clo 258 [])),(10,cI y_47.2)]) (fun y_47=>[(0,.row kS y_47.1)]) (h1:=?_) (h2:=fun y_47=>?_)
 ·refine jm 1 (hr:=?_)
  refine jl (X:=((List (Int×(Int×Int)))×Int×Int)) (fun k x=>DC.l0 K m_3 k x.1 x.2.1 x.2.2) K (data_1,(w6 (m_3 - a_2)),(w6 (b_4 - m_3))) rfl 1 [] (fun x_25=>[(0,.c (.h 0)),(2,cI m_3),(4,.c (.clo 258 [])),(10,cI x_25.2.1),(11,cI x_25.2.2)]) (fun x_25=>[(0,.row kS x_25.1)]) (fun _=>rfl) (round:=fun k x_25=>jy (DC.l0.eq_2 ..) ?_)
  refine jm 3 (hr:=?_)
  refine jc (h1:=fun b_27=>?_) (h2:=fun b_27=>?_)
  ·refine jm 4 (hr:=?_)
   refine jc (h1:=fun b_29=>?_) (h2:=fun b_29=>?_)
   ·refine jm 1 (hr:=?_)
    refine jb fun r_31 h_32=>?_
    refine jr0 [cp 7 (KN _ h_32) [(0,0)] 1] (hr:=?_)
    refine jm 2 (hr:=?_)
    exact jx (r_31,(w6 (x_25.2.1 - x_25.2.2)),x_25.2.2) rfl []
   ·refine jm 1 (hr:=?_)
    refine jb fun r_36 h_37=>?_
    refine jr0 [cp 11 (KN _ h_37) [(0,0)] 1] (hr:=?_)
    refine jm 2 (hr:=?_)
    exact jx (r_36,x_25.2.1,(w6 (x_25.2.2 - x_25.2.1))) rfl []
  ·refine jq 0 (ql (qh ?_))
   exact jo []
 ·refine jb fun r_42 h_43=>?_
  refine jr0 [cp 7 (KN _ h_43) [(0,0)] 1] (hr:=?_)
  exact je (rn' [])
theorem slices_symMergeCmpFunc_rgggcspansrowsorted1_rec {K:Nat}:∀ (k_rec:Nat) {data_1:(List (Int×(Int×Int)))} {a_2:Int} {m_3:Int} {b_4:Int},FS Tryz.prog 285 1 [.c (.h 0),cI a_2,cI m_3,cI b_4,.c (.clo 258 [])] [(0,.row kS data_1)] (A9.f K k_rec data_1 a_2 m_3 b_4) (fun r=>.tup []) fun r=>[(0,.row kS r)]:=by
 intro k_rec
 induction k_rec with
 | zero => intro data_1 a_2 m_3 b_4 r H; exact (no_none H).elim
 | succ k_rec ih =>
 intro data_1 a_2 m_3 b_4
 refine jfn (fn:=Tryz.f285) Tryz.func285 (jy (A9.f.eq_2 ..) ?_)
 refine jm 3 (hr:=?_)
 refine jc (h1:=fun b_6=>?_) (h2:=fun b_6=>?_)
 ·refine jm 5 (hr:=?_)
  refine ja (Y:=Int) 1 (fun y_132=>[(0,.c (.h 0)),(1,cI a_2),(10,cI y_132)]) (fun y_132=>[(0,.row kS data_1)]) (h1:=?_) (h2:=fun y_132=>?_)
  ·refine jm 1 (hr:=?_)
   refine jl (X:=(Int×Int)) (fun k x=>A9.l0 K data_1 a_2 k x.1 x.2) K (m_3,b_4) rfl 1 [] (fun x_11=>[(0,.c (.h 0)),(1,cI a_2),(4,.c (.clo 258 [])),(10,cI x_11.1),(11,cI x_11.2)]) (fun x_11=>[(0,.row kS data_1)]) (fun _=>rfl) (round:=fun k x_11=>jy (A9.l0.eq_2 ..) ?_)
   refine jm 3 (hr:=?_)
   refine jc (h1:=fun b_13=>?_) (h2:=fun b_13=>?_)
   ·refine jn 5 [(0:Int)≤(1:Int)] (ap1 (by decide)) (hr:=?_)
    refine jb fun r_15 h_16=>?_
    refine jwi [cp 9 (IE _ h_16) [] 1] [] (hr:=fun c_17=>?_)
    refine jc (h1:=fun b_18=>?_) (h2:=fun b_18=>?_)
    ·refine jm 2 (hr:=?_)
     exact jx ((w6 ((w6 (Int.fdiv (IntKind.wrap .u64 (w6 (x_11.1+x_11.2))) (2:Int)))+(1:Int))),x_11.2) rfl []
    ·refine jm 2 (hr:=?_)
     exact jx (x_11.1,(w6 (Int.fdiv (IntKind.wrap .u64 (w6 (x_11.1+x_11.2))) (2:Int)))) rfl []
   ·refine jq 0 (ql (qh ?_))
    exact jo []
  ·refine jm 4 (hr:=?_)
   refine jl (X:=((List (Int×(Int×Int)))×Int)) (fun k x=>A9.l1 K y_132 k x.1 x.2) K (data_1,a_2) rfl 1 [] (fun x_31=>[(0,.c (.h 0)),(10,cI y_132),(13,cI x_31.2)]) (fun x_31=>[(0,.row kS x_31.1)]) (fun _=>rfl) (round:=fun k x_31=>jy (A9.l1.eq_2 ..) ?_)
   refine jm 3 (hr:=?_)
   refine jc (h1:=fun b_33=>?_) (h2:=fun b_33=>?_)
   ·refine jm 3 (hr:=?_)
    refine jp fun c_35=>?_
    refine jw [] [] [0≤(w6 (x_31.2+(1:Int))),(w6 (x_31.2+(1:Int)))<(lnI x_31.1),0≤x_31.2,x_31.2<(lnI x_31.1),0≤x_31.2,x_31.2<(lnI x_31.1),0≤(w6 (x_31.2+(1:Int))),(w6 (x_31.2+(1:Int)))<(lnI (List.set x_31.1 (Int.toNat x_31.2) ((List.getD x_31.1 (Int.toNat (w6 (x_31.2+(1:Int)))) zS).1,((List.getD x_31.1 (Int.toNat (w6 (x_31.2+(1:Int)))) zS).2.1,(List.getD x_31.1 (Int.toNat (w6 (x_31.2+(1:Int)))) zS).2.2))))] (ap2 c_35.1 (ap2 c_35.2.1 (ap2 c_35.2.2.1 (ap2 c_35.2.2.2.1 (ap2 c_35.2.2.1 (ap2 c_35.2.2.2.1 (ap2 c_35.1 (ap1 c_35.2.2.2.2)))))))) (hr:=?_)
    refine jm 2 (hr:=?_)
    exact jx ((List.set (List.set x_31.1 (Int.toNat x_31.2) ((List.getD x_31.1 (Int.toNat (w6 (x_31.2+(1:Int)))) zS).1,((List.getD x_31.1 (Int.toNat (w6 (x_31.2+(1:Int)))) zS).2.1,(List.getD x_31.1 (Int.toNat (w6 (x_31.2+(1:Int)))) zS).2.2))) (Int.toNat (w6 (x_31.2+(1:Int)))) ((List.getD x_31.1 (Int.toNat x_31.2) zS).1,((List.getD x_31.1 (Int.toNat x_31.2) zS).2.1,(List.getD x_31.1 (Int.toNat x_31.2) zS).2.2))),(w6 (x_31.2+(1:Int)))) rfl []
   ·refine jq 2 (ql (qh ?_))
    exact jt (rr [])
 ·refine jm 4 (hr:=?_)
  refine jc (h1:=fun b_38=>?_) (h2:=fun b_38=>?_)
  ·refine jm 5 (hr:=?_)
   refine ja (Y:=Int) 1 (fun y_133=>[(0,.c (.h 0)),(2,cI m_3),(14,cI y_133)]) (fun y_133=>[(0,.row kS data_1)]) (h1:=?_) (h2:=fun y_133=>?_)
   ·refine jm 1 (hr:=?_)
    refine jl (X:=(Int×Int)) (fun k x=>A9.l2 K data_1 m_3 k x.1 x.2) K (a_2,m_3) rfl 1 [] (fun x_43=>[(0,.c (.h 0)),(2,cI m_3),(4,.c (.clo 258 [])),(14,cI x_43.1),(15,cI x_43.2)]) (fun x_43=>[(0,.row kS data_1)]) (fun _=>rfl) (round:=fun k x_43=>jy (A9.l2.eq_2 ..) ?_)
    refine jm 3 (hr:=?_)
    refine jc (h1:=fun b_45=>?_) (h2:=fun b_45=>?_)
    ·refine jn 5 [(0:Int)≤(1:Int)] (ap1 (by decide)) (hr:=?_)
     refine jb fun r_47 h_48=>?_
     refine jwi [cp 9 (IE _ h_48) [] 1] [] (hr:=fun c_49=>?_)
     refine jc (h1:=fun b_50=>?_) (h2:=fun b_50=>?_)
     ·refine jm 2 (hr:=?_)
      exact jx ((w6 ((w6 (Int.fdiv (IntKind.wrap .u64 (w6 (x_43.1+x_43.2))) (2:Int)))+(1:Int))),x_43.2) rfl []
     ·refine jm 2 (hr:=?_)
      exact jx (x_43.1,(w6 (Int.fdiv (IntKind.wrap .u64 (w6 (x_43.1+x_43.2))) (2:Int)))) rfl []
    ·refine jq 4 (ql (qh ?_))
     exact jo []
   ·refine jm 4 (hr:=?_)
    refine jl (X:=((List (Int×(Int×Int)))×Int)) (fun k x=>A9.l3 K y_133 k x.1 x.2) K (data_1,m_3) rfl 1 [] (fun x_63=>[(0,.c (.h 0)),(14,cI y_133),(17,cI x_63.2)]) (fun x_63=>[(0,.row kS x_63.1)]) (fun _=>rfl) (round:=fun k x_63=>jy (A9.l3.eq_2 ..) ?_)
    refine jm 3 (hr:=?_)
    refine jc (h1:=fun b_65=>?_) (h2:=fun b_65=>?_)
    ·refine jm 3 (hr:=?_)
     refine jp fun c_67=>?_
     refine jw [] [] [0≤(w6 (x_63.2 - (1:Int))),(w6 (x_63.2 - (1:Int)))<(lnI x_63.1),0≤x_63.2,x_63.2<(lnI x_63.1),0≤x_63.2,x_63.2<(lnI x_63.1),0≤(w6 (x_63.2 - (1:Int))),(w6 (x_63.2 - (1:Int)))<(lnI (List.set x_63.1 (Int.toNat x_63.2) ((List.getD x_63.1 (Int.toNat (w6 (x_63.2 - (1:Int)))) zS).1,((List.getD x_63.1 (Int.toNat (w6 (x_63.2 - (1:Int)))) zS).2.1,(List.getD x_63.1 (Int.toNat (w6 (x_63.2 - (1:Int)))) zS).2.2))))] (ap2 c_67.1 (ap2 c_67.2.1 (ap2 c_67.2.2.1 (ap2 c_67.2.2.2.1 (ap2 c_67.2.2.1 (ap2 c_67.2.2.2.1 (ap2 c_67.1 (ap1 c_67.2.2.2.2)))))))) (hr:=?_)
     refine jm 2 (hr:=?_)
     exact jx ((List.set (List.set x_63.1 (Int.toNat x_63.2) ((List.getD x_63.1 (Int.toNat (w6 (x_63.2 - (1:Int)))) zS).1,((List.getD x_63.1 (Int.toNat (w6 (x_63.2 - (1:Int)))) zS).2.1,(List.getD x_63.1 (Int.toNat (w6 (x_63.2 - (1:Int)))) zS).2.2))) (Int.toNat (w6 (x_63.2 - (1:Int)))) ((List.getD x_63.1 (Int.toNat x_63.2) zS).1,((List.getD x_63.1 (Int.toNat x_63.2) zS).2.1,(List.getD x_63.1 (Int.toNat x_63.2) zS).2.2))),(w6 (x_63.2 - (1:Int)))) rfl []
    ·refine jq 6 (ql (qh ?_))
     exact jt (rr [])
  ·refine jn 10 [(0:Int)≤(1:Int)] (ap1 (by decide)) (hr:=?_)
   refine ja (Y:=(Int×Int)) 1 (fun y_134=>[(0,.c (.h 0)),(1,cI a_2),(2,cI m_3),(3,cI b_4),(4,.c (.clo 258 [])),(18,cI (w6 (Int.fdiv (IntKind.wrap .u64 (w6 (a_2+b_4))) (2:Int)))),(19,cI (w6 ((w6 (Int.fdiv (IntKind.wrap .u64 (w6 (a_2+b_4))) (2:Int)))+m_3))),(20,cI y_134.1),(21,cI y_134.2)]) (fun y_134=>[(0,.row kS data_1)]) (h1:=?_) (h2:=fun y_134=>?_)
   ·refine jc (h1:=fun b_70=>?_) (h2:=fun b_70=>?_)
    ·refine jm 3 (hr:=?_)
     exact jo []
    ·refine jm 3 (hr:=?_)
     exact jo []
   ·refine jm 3 (hr:=?_)
    refine ja (Y:=Int) 1 (fun y_135=>[(0,.c (.h 0)),(1,cI a_2),(2,cI m_3),(3,cI b_4),(4,.c (.clo 258 [])),(18,cI (w6 (Int.fdiv (IntKind.wrap .u64 (w6 (a_2+b_4))) (2:Int)))),(19,cI (w6 ((w6 (Int.fdiv (IntKind.wrap .u64 (w6 (a_2+b_4))) (2:Int)))+m_3))),(20,cI y_135)]) (fun y_135=>[(0,.row kS data_1)]) (h1:=?_) (h2:=fun y_135=>?_)
    ·refine jm 1 (hr:=?_)
     refine jl (X:=(Int×Int)) (fun k x=>A9.l4 K data_1 a_2 b_4 m_3 k x.1 x.2) K (y_134.1,y_134.2) rfl 1 [] (fun x_79=>[(0,.c (.h 0)),(1,cI a_2),(2,cI m_3),(3,cI b_4),(4,.c (.clo 258 [])),(18,cI (w6 (Int.fdiv (IntKind.wrap .u64 (w6 (a_2+b_4))) (2:Int)))),(19,cI (w6 ((w6 (Int.fdiv (IntKind.wrap .u64 (w6 (a_2+b_4))) (2:Int)))+m_3))),(20,cI x_79.1),(21,cI x_79.2),(22,cI (w6 ((w6 ((w6 (Int.fdiv (IntKind.wrap .u64 (w6 (a_2+b_4))) (2:Int)))+m_3)) - (1:Int))))]) (fun x_79=>[(0,.row kS data_1)]) (fun _=>rfl) (round:=fun k x_79=>jy (A9.l4.eq_2 ..) ?_)
     refine jm 3 (hr:=?_)
     refine jc (h1:=fun b_81=>?_) (h2:=fun b_81=>?_)
     ·refine jn 5 [(0:Int)≤(1:Int)] (ap1 (by decide)) (hr:=?_)
      refine jb fun r_83 h_84=>?_
      refine jwi [cp 11 (IE _ h_84) [] 1] [] (hr:=fun c_85=>?_)
      refine jc (h1:=fun b_86=>?_) (h2:=fun b_86=>?_)
      ·refine jm 2 (hr:=?_)
       exact jx ((w6 ((w6 (Int.fdiv (IntKind.wrap .u64 (w6 (x_79.1+x_79.2))) (2:Int)))+(1:Int))),x_79.2) rfl []
      ·refine jm 2 (hr:=?_)
       exact jx (x_79.1,(w6 (Int.fdiv (IntKind.wrap .u64 (w6 (x_79.1+x_79.2))) (2:Int)))) rfl []
     ·refine jq 8 (ql (qh ?_))
      exact jo []
    ·refine jm 4 (hr:=?_)
     refine ja (Y:=Bool) 1 (fun y_136=>[(0,.c (.h 0)),(1,cI a_2),(2,cI m_3),(3,cI b_4),(4,.c (.clo 258 [])),(18,cI (w6 (Int.fdiv (IntKind.wrap .u64 (w6 (a_2+b_4))) (2:Int)))),(20,cI y_135),(24,cI (w6 ((w6 ((w6 (Int.fdiv (IntKind.wrap .u64 (w6 (a_2+b_4))) (2:Int)))+m_3)) - y_135))),(185,cB y_136)]) (fun y_136=>[(0,.row kS data_1)]) (h1:=?_) (h2:=fun y_136=>?_)
     ·refine js (fun b_91=>?_) fun b_91=>?_
      ·refine jr [] [(181,true)] [(decide (y_135<m_3))=true] (ap1 b_91) (hr:=?_)
       exact jo []
      ·refine jr [] [(181,false)] [(decide (y_135<m_3))=false] (ap1 b_91) (hr:=?_)
       exact jo []
     ·refine ja (Y:=(List (Int×(Int×Int)))) 1 (fun y_137=>[(0,.c (.h 0)),(1,cI a_2),(3,cI b_4),(4,.c (.clo 258 [])),(18,cI (w6 (Int.fdiv (IntKind.wrap .u64 (w6 (a_2+b_4))) (2:Int)))),(20,cI y_135),(24,cI (w6 ((w6 ((w6 (Int.fdiv (IntKind.wrap .u64 (w6 (a_2+b_4))) (2:Int)))+m_3)) - y_135)))]) (fun y_137=>[(0,.row kS y_137)]) (h1:=?_) (h2:=fun y_137=>?_)
      ·refine jc (h1:=fun b_95=>?_) (h2:=fun b_95=>?_)
       ·refine jb fun r_96 h_97=>?_
        refine jr0 [cp 5 (W4 _ h_97) [(0,0)] 1] (hr:=?_)
        exact jo []
       ·refine jm 1 (hr:=?_)
        exact jo []
      ·refine jm 2 (hr:=?_)
       refine ja (Y:=Bool) 1 (fun y_138=>[(0,.c (.h 0)),(1,cI a_2),(3,cI b_4),(4,.c (.clo 258 [])),(18,cI (w6 (Int.fdiv (IntKind.wrap .u64 (w6 (a_2+b_4))) (2:Int)))),(20,cI y_135),(24,cI (w6 ((w6 ((w6 (Int.fdiv (IntKind.wrap .u64 (w6 (a_2+b_4))) (2:Int)))+m_3)) - y_135))),(199,cB y_138)]) (fun y_138=>[(0,.row kS y_137)]) (h1:=?_) (h2:=fun y_138=>?_)
       ·refine js (fun b_102=>?_) fun b_102=>?_
        ·refine jr [] [(195,true)] [(decide (a_2<y_135))=true] (ap1 b_102) (hr:=?_)
         exact jo []
        ·refine jr [] [(195,false)] [(decide (a_2<y_135))=false] (ap1 b_102) (hr:=?_)
         exact jo []
       ·refine ja (Y:=(List (Int×(Int×Int)))) 1 (fun y_139=>[(0,.c (.h 0)),(3,cI b_4),(4,.c (.clo 258 [])),(18,cI (w6 (Int.fdiv (IntKind.wrap .u64 (w6 (a_2+b_4))) (2:Int)))),(24,cI (w6 ((w6 ((w6 (Int.fdiv (IntKind.wrap .u64 (w6 (a_2+b_4))) (2:Int)))+m_3)) - y_135)))]) (fun y_139=>[(0,.row kS y_139)]) (h1:=?_) (h2:=fun y_139=>?_)
        ·refine jc (h1:=fun b_106=>?_) (h2:=fun b_106=>?_)
         ·refine jb fun r_107 h_108=>?_
          refine jr0 [cp 5 (ih _ h_108) [(0,0)] 1] (hr:=?_)
          exact jo []
         ·refine jm 1 (hr:=?_)
          exact jo []
        ·refine jm 1 (hr:=?_)
         refine ja (Y:=Bool) 1 (fun y_140=>[(0,.c (.h 0)),(3,cI b_4),(4,.c (.clo 258 [])),(18,cI (w6 (Int.fdiv (IntKind.wrap .u64 (w6 (a_2+b_4))) (2:Int)))),(24,cI (w6 ((w6 ((w6 (Int.fdiv (IntKind.wrap .u64 (w6 (a_2+b_4))) (2:Int)))+m_3)) - y_135))),(213,cB y_140)]) (fun y_140=>[(0,.row kS y_139)]) (h1:=?_) (h2:=fun y_140=>?_)
         ·refine js (fun b_113=>?_) fun b_113=>?_
          ·refine jr [] [(209,true)] [(decide ((w6 (Int.fdiv (IntKind.wrap .u64 (w6 (a_2+b_4))) (2:Int)))<(w6 ((w6 ((w6 (Int.fdiv (IntKind.wrap .u64 (w6 (a_2+b_4))) (2:Int)))+m_3)) - y_135))))=true] (ap1 b_113) (hr:=?_)
           exact jo []
          ·refine jr [] [(209,false)] [(decide ((w6 (Int.fdiv (IntKind.wrap .u64 (w6 (a_2+b_4))) (2:Int)))<(w6 ((w6 ((w6 (Int.fdiv (IntKind.wrap .u64 (w6 (a_2+b_4))) (2:Int)))+m_3)) - y_135))))=false] (ap1 b_113) (hr:=?_)
           exact jo []
         ·refine jc (h1:=fun b_117=>?_) (h2:=fun b_117=>?_)
          ·refine jb fun r_118 h_119=>?_
           refine jr0 [cp 5 (ih _ h_119) [(0,0)] 1] (hr:=?_)
           exact je (rn' [])
          ·refine jm 1 (hr:=?_)
           exact je (rn' [])
theorem OB {K data_1 a_2 m_3 b_4}:FS Tryz.prog 285 1 [.c (.h 0),cI a_2,cI m_3,cI b_4,.c (.clo 258 [])] [(0,.row kS data_1)] (A9 K data_1 a_2 m_3 b_4) (fun r=>.tup []) fun r=>[(0,.row kS r)]:=slices_symMergeCmpFunc_rgggcspansrowsorted1_rec K
theorem W6 {K data_1 n_2}:FS Tryz.prog 274 1 [.c (.h 0),cI n_2,.c (.clo 258 [])] [(0,.row kS data_1)] (AY K data_1 n_2) (fun r=>.tup []) fun r=>[(0,.row kS r)]:=by
 refine jfn (fn:=Tryz.f274) Tryz.func274 (jy (AY.eq_1 ..) ?_)
 refine jm 5 (hr:=?_)
 refine ja (Y:=((List (Int×(Int×Int)))×Int)) 1 (fun y_109=>[(0,.c (.h 0)),(1,cI n_2),(2,.c (.clo 258 [])),(6,cI (20:Int)),(7,cI y_109.2)]) (fun y_109=>[(0,.row kS y_109.1)]) (h1:=?_) (h2:=fun y_109=>?_)
 ·refine jm 1 (hr:=?_)
  refine jl (X:=((List (Int×(Int×Int)))×Int×Int)) (fun k x=>AY.l0 K n_2 k x.1 x.2.1 x.2.2) K (data_1,(0:Int),(20:Int)) rfl 1 [] (fun x_16=>[(0,.c (.h 0)),(1,cI n_2),(2,.c (.clo 258 [])),(6,cI (20:Int)),(7,cI x_16.2.1),(8,cI x_16.2.2)]) (fun x_16=>[(0,.row kS x_16.1)]) (fun _=>rfl) (round:=fun k x_16=>jy (AY.l0.eq_2 ..) ?_)
  refine jm 3 (hr:=?_)
  refine jc (h1:=fun b_18=>?_) (h2:=fun b_18=>?_)
  ·refine jm 3 (hr:=?_)
   refine jb fun r_20 h_21=>?_
   refine jr0 [cp 4 (O9 _ h_21) [(0,0)] 1] (hr:=?_)
   refine jm 4 (hr:=?_)
   exact jx (r_20,x_16.2.2,(w6 (x_16.2.2+(20:Int)))) rfl []
  ·refine jq 0 (ql (qh ?_))
   exact jo []
 ·refine jm 1 (hr:=?_)
  refine jb fun r_27 h_28=>?_
  refine jr0 [cp 4 (O9 _ h_28) [(0,0)] 1] (hr:=?_)
  refine jm 1 (hr:=?_)
  refine jl (X:=((List (Int×(Int×Int)))×Int)) (fun k x=>AY.l1 K n_2 k x.1 x.2) K (r_27,(20:Int)) rfl 1 [] (fun x_68=>[(0,.c (.h 0)),(1,cI n_2),(2,.c (.clo 258 [])),(6,cI x_68.2)]) (fun x_68=>[(0,.row kS x_68.1)]) (fun _=>rfl) (round:=fun k x_68=>jy (AY.l1.eq_2 ..) ?_)
  refine jm 3 (hr:=?_)
  refine jc (h1:=fun b_70=>?_) (h2:=fun b_70=>?_)
  ·refine jm 1 (hr:=?_)
   refine ja (Y:=(List (Int×(Int×Int)))) 1 (fun y_110=>[(0,.c (.h 0)),(1,cI n_2),(2,.c (.clo 258 [])),(6,cI (w6 (x_68.2 * (2:Int))))]) (fun y_110=>[(0,.row kS y_110)]) (h1:=?_) (h2:=fun y_110=>?_)
   ·refine jm 4 (hr:=?_)
    refine ja (Y:=((List (Int×(Int×Int)))×Int)) 1 (fun y_111=>[(0,.c (.h 0)),(1,cI n_2),(2,.c (.clo 258 [])),(6,cI x_68.2),(7,cI y_111.2)]) (fun y_111=>[(0,.row kS y_111.1)]) (h1:=?_) (h2:=fun y_111=>?_)
    ·refine jm 1 (hr:=?_)
     refine jl (X:=((List (Int×(Int×Int)))×Int×Int)) (fun k x=>AY.l2 K n_2 x_68.2 k x.1 x.2.1 x.2.2) K (x_68.1,(0:Int),(w6 ((2:Int) * x_68.2))) rfl 1 [] (fun x_85=>[(0,.c (.h 0)),(1,cI n_2),(2,.c (.clo 258 [])),(6,cI x_68.2),(7,cI x_85.2.1),(8,cI x_85.2.2)]) (fun x_85=>[(0,.row kS x_85.1)]) (fun _=>rfl) (round:=fun k x_85=>jy (AY.l2.eq_2 ..) ?_)
     refine jm 3 (hr:=?_)
     refine jc (h1:=fun b_87=>?_) (h2:=fun b_87=>?_)
     ·refine jm 3 (hr:=?_)
      refine jb fun r_89 h_90=>?_
      refine jr0 [cp 7 (OB _ h_90) [(0,0)] 1] (hr:=?_)
      refine jm 4 (hr:=?_)
      exact jx (r_89,x_85.2.2,(w6 (x_85.2.2+(w6 ((2:Int) * x_68.2))))) rfl []
     ·refine jq 4 (ql (qh ?_))
      exact jo []
    ·refine jm 5 (hr:=?_)
     refine jc (h1:=fun b_96=>?_) (h2:=fun b_96=>?_)
     ·refine jb fun r_97 h_98=>?_
      refine jr0 [cp 5 (OB _ h_98) [(0,0)] 1] (hr:=?_)
      refine jm 2 (hr:=?_)
      exact jo []
     ·refine jm 3 (hr:=?_)
      exact jo []
   ·exact jx (y_110,(w6 (x_68.2 * (2:Int)))) rfl []
  ·refine jq 2 (ql (qh ?_))
   exact je (rn' [])
theorem W1 {K x_1}:FS Tryz.prog 257 1 [.c (.h 0),.c (.clo 258 [])] [(0,.row kS x_1)] (KJ K x_1) (fun r=>.tup []) fun r=>[(0,.row kS r)]:=by
 refine jfn (fn:=Tryz.f257) Tryz.func257 (jy (KJ.eq_1 ..) ?_)
 refine jb fun r_2 h_3=>?_
 refine jr0 [cp 4 (W6 _ h_3) [(0,0)] 1] (hr:=?_)
 exact je (rn' [])
theorem W9 {K r_1}:FS Tryz.prog 225 1 [.c (.h 0)] [(0,.row kS r_1)] (DE K r_1) (fun r=>.c (.h 1)) fun r=>[(0,.row kS r.2),(1,.row kS r.1)]:=by
 refine jfn (fn:=Tryz.f225) Tryz.func225 (jy (DE.eq_1 ..) ?_)
 refine jm 3 (hr:=?_)
 refine jb fun r_3 h_4=>?_
 refine jr0 [cp 1 (W1 _ h_4) [(0,0)] 1] (hr:=?_)
 refine jm 6 (hr:=?_)
 refine jg [.nilSlot 3 kS] ?_
 refine jl (X:=((List (Int×(Int×Int)))×Int)) (fun k x=>DE.l0 K r_3 k x.1 x.2) K (([]:List (Int×(Int×Int))),(0:Int)) rfl 6 [(5,1)] (fun x_25=>[(3,.c (.h 5)),(9,.c (.h 0)),(10,cI (lnI r_3)),(11,cI x_25.2)]) (fun x_25=>[(0,.row kS r_3),(5,.row kS x_25.1)]) (fun _=>rfl) (round:=fun k x_25=>jy (DE.l0.eq_2 ..) ?_)
 refine jm 3 (hr:=?_)
 refine jc (h1:=fun b_27=>?_) (h2:=fun b_27=>?_)
 ·refine ji 9 (hr:=fun c_28=>?_)
  refine ja (Y:=Bool) 7 (fun y_45=>[(3,.c (.h 5)),(5,.c (.h 6)),(6,cI (w6 ((lnI x_25.1) - (1:Int)))),(9,.c (.h 0)),(10,cI (lnI r_3)),(11,cI x_25.2),(39,cB y_45)]) (fun y_45=>[(0,.row kS r_3),(5,.row kS x_25.1),(6,.box [.val (.int .i64 (List.getD r_3 (Int.toNat x_25.2) zS).1),.val (.int .i64 (List.getD r_3 (Int.toNat x_25.2) zS).2.1),.val (.int .i64 (List.getD r_3 (Int.toNat x_25.2) zS).2.2)])]) (h1:=?_) (h2:=fun y_45=>?_)
  ·refine js (fun b_29=>?_) fun b_29=>?_
   ·refine js (fun b_30=>?_) fun b_30=>?_
    ·refine jp fun c_31=>?_
     refine jw [] [(20,true),(30,true)] [(decide ((w6 ((lnI x_25.1) - (1:Int)))≥(0:Int)))=true,0≤(w6 ((lnI x_25.1) - (1:Int))),(w6 ((lnI x_25.1) - (1:Int)))<(lnI x_25.1),((List.getD x_25.1 (Int.toNat (w6 ((lnI x_25.1) - (1:Int)))) zS).2.2==(List.getD r_3 (Int.toNat x_25.2) zS).2.2)=true,0≤(w6 ((lnI x_25.1) - (1:Int))),(w6 ((lnI x_25.1) - (1:Int)))<(lnI x_25.1)] (ap2 b_29 (ap2 c_31.1 (ap2 c_31.2 (ap2 b_30 (ap2 c_31.1 (ap1 c_31.2)))))) (hr:=?_)
     exact jo []
    ·refine jp fun c_32=>?_
     refine jw [] [(20,true),(30,false)] [(decide ((w6 ((lnI x_25.1) - (1:Int)))≥(0:Int)))=true,0≤(w6 ((lnI x_25.1) - (1:Int))),(w6 ((lnI x_25.1) - (1:Int)))<(lnI x_25.1),((List.getD x_25.1 (Int.toNat (w6 ((lnI x_25.1) - (1:Int)))) zS).2.2==(List.getD r_3 (Int.toNat x_25.2) zS).2.2)=false] (ap2 b_29 (ap2 c_32.1 (ap2 c_32.2 (ap1 b_30)))) (hr:=?_)
     exact jo []
   ·refine jw [] [(20,false)] [(decide ((w6 ((lnI x_25.1) - (1:Int)))≥(0:Int)))=false] (ap1 b_29) (hr:=?_)
    exact jo []
  ·refine jc (h1:=fun b_35=>?_) (h2:=fun b_35=>?_)
   ·refine ji 2 (hr:=fun c_36=>?_)
    refine jm 2 (hr:=?_)
    exact jx ((List.set x_25.1 (Int.toNat (w6 ((lnI x_25.1) - (1:Int)))) ((List.getD x_25.1 (Int.toNat (w6 ((lnI x_25.1) - (1:Int)))) zS).1,((List.getD r_3 (Int.toNat x_25.2) zS).2.1,(List.getD x_25.1 (Int.toNat (w6 ((lnI x_25.1) - (1:Int)))) zS).2.2))),(w6 (x_25.2+(1:Int)))) rfl []
   ·refine ji 2 (hr:=fun c_38=>?_)
    refine jm 2 (hr:=?_)
    exact jx ((x_25.1++([((List.getD r_3 (Int.toNat x_25.2) zS).1,((List.getD r_3 (Int.toNat x_25.2) zS).2.1,(List.getD r_3 (Int.toNat x_25.2) zS).2.2))]:List (Int×(Int×Int)))),(w6 (x_25.2+(1:Int)))) rfl [(5,8)]
 ·refine jq 0 (ql (qh ?_))
  refine jm 2 (hr:=?_)
  exact jt (rr [(1,5)])
theorem OG {K r_1}:FS Tryz.prog 165 1 [.c (.h 0)] [(0,.row kS r_1)] (CK K r_1) (fun r=>.tup [(false,[.h 1]),(false,[.val (.int .i64 r.2.1)])]) fun r=>[(0,.row kS r.2.2),(1,.row kS r.1)]:=by
 refine jfn (fn:=Tryz.f165) Tryz.func165 (jy (CK.eq_1 ..) ?_)
 refine jm 3 (hr:=?_)
 refine jb fun r_3 h_4=>?_
 refine jr0 [cp 1 (W9 _ h_4) [(0,0),(1,1)] 2] (hr:=?_)
 refine jm 3 (hr:=?_)
 refine jc (h1:=fun b_7=>?_) (h2:=fun b_7=>?_)
 ·refine jm 2 (hr:=?_)
  refine jg [.nilSlot 2 kS] ?_
  exact jt (rr [(1,2)])
 ·refine jm 7 (hr:=?_)
  refine jg [.nilSlot 4 kS] ?_
  refine jl (X:=((List (Int×(Int×Int)))×Int)) (fun k x=>CK.l0 K r_3 k x.1 x.2) K (([]:List (Int×(Int×Int))),(0:Int)) rfl 7 [(6,2)] (fun x_18=>[(4,.c (.h 6)),(12,.c (.h 1)),(13,cI (lnI r_3.1)),(14,cI x_18.2)]) (fun x_18=>[(0,.row kS r_3.2),(1,.row kS r_3.1),(6,.row kS x_18.1)]) (fun _=>rfl) (round:=fun k x_18=>jy (CK.l0.eq_2 ..) ?_)
  refine jm 3 (hr:=?_)
  refine jc (h1:=fun b_20=>?_) (h2:=fun b_20=>?_)
  ·refine ji 6 (hr:=fun c_21=>?_)
   refine jm 2 (hr:=?_)
   exact jx ((x_18.1++([((List.getD r_3.1 (Int.toNat x_18.2) zS).1,((List.getD r_3.1 (Int.toNat x_18.2) zS).2.1,(List.getD r_3.1 (Int.toNat x_18.2) zS).2.2))]:List (Int×(Int×Int)))),(w6 (x_18.2+(1:Int)))) rfl [(6,9)]
  ·refine jq 0 (ql (qh ?_))
   refine jm 2 (hr:=?_)
   exact jt (rr [(1,6)])
theorem W8 {K l_1 d_2 d_3}:FS Tryz.prog 107 0 [.c (.imm (.slice kS) l_1),.agg [.val (.int .i64 d_2),.imm (.slice kE) d_3]] [] (B6 K l_1 d_2 d_3) (fun r=>.tup [(false,[.h 0]),(false,[.val (.int .i64 r.2)])]) fun r=>[(0,.row kS r.1)]:=by
 refine jfn (fn:=Tryz.f107) Tryz.func107 (jy (B6.eq_1 ..) ?_)
 refine jm 4 (hr:=?_)
 refine ja (Y:=Bool) 1 (fun y_50=>[(0,.c (.imm (.slice kS) l_1)),(3,.c (.h 0)),(19,cB y_50)]) (fun y_50=>[(0,.box [.val (.int .i64 d_2),.imm (.slice kE) d_3])]) (h1:=?_) (h2:=fun y_50=>?_)
 ·refine jb fun r_5 h_6=>?_
  refine js (fun b_7=>?_) fun b_7=>?_
  ·refine jr [cp 1 (D1 _ h_6) [] 1] [(13,true)] [(!r_5)=true] (ap1 b_7) (hr:=?_)
   exact jo []
  ·refine jb fun r_9 h_10=>?_
   refine jr [cp 1 (D1 _ h_6) [] 1,cp 7 (FF _ h_10) [] 1] [(13,false)] [(!r_5)=false] (ap1 b_7) (hr:=?_)
   exact jo []
 ·refine jc (h1:=fun b_13=>?_) (h2:=fun b_13=>?_)
  ·refine jm 2 (hr:=?_)
   refine jg [.nilSlot 4 kS] ?_
   exact jt (rr [(0,1)])
  ·refine jm 6 (hr:=?_)
   refine ja (Y:=(List (Int×(Int×Int)))) 6 (fun y_51=>[(6,.c (.h 1))]) (fun y_51=>[(1,.box [.h 5]),(5,.row kS y_51)]) (h1:=?_) (h2:=fun y_51=>?_)
   ·refine jm 1 (hr:=?_)
    refine jg [.nilCell 1 0 kS] ?_
    refine jl (X:=((List (Int×(Int×Int)))×Int)) (fun k x=>B6.l0 K l_1 d_2 d_3 k x.1 x.2) K (([]:List (Int×(Int×Int))),(0:Int)) rfl 6 [(5,2)] (fun x_30=>[(3,.c (.h 0)),(6,.c (.h 1)),(20,.c (.imm (.slice kS) l_1)),(21,cI (lnI l_1)),(22,cI x_30.2)]) (fun x_30=>[(0,.box [.val (.int .i64 d_2),.imm (.slice kE) d_3]),(1,.box [.h 5]),(5,.row kS x_30.1)]) (fun _=>rfl) (round:=fun k x_30=>jy (B6.l0.eq_2 ..) ?_)
    refine jm 3 (hr:=?_)
    refine jc (h1:=fun b_32=>?_) (h2:=fun b_32=>?_)
    ·refine ji 6 (hr:=fun c_33=>?_)
     refine jb fun r_34 h_35=>?_
     refine jr0 [cp 6 (TV _ h_35) [] 7] (hr:=?_)
     refine jb fun r_37 h_38=>?_
     refine jr0 [cp 6 (GQ _ h_38) [(0,1),(1,5),(2,8)] 9] (hr:=?_)
     refine jm 2 (hr:=?_)
     exact jx (r_37,(w6 (x_30.2+(1:Int)))) rfl [(5,8)]
    ·refine jq 0 (ql (qh ?_))
     exact jo []
   ·refine jm 1 (hr:=?_)
    refine jb fun r_43 h_44=>?_
    refine jr0 [cp 1 (OG _ h_44) [(0,5),(1,6)] 7] (hr:=?_)
    exact jt (rr [(0,6)])
end Go.Pal
