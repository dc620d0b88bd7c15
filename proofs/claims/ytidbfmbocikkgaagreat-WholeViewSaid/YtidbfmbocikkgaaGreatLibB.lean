/- A part of the proof of WholeView. -/
import Derived.Test.YtidbfmbocikkgaaGreatLibA
set_option linter.unusedVariables false
set_option linter.unusedSimpArgs false
set_option linter.unnecessarySimpa false
open Array renaming ext'→ip,getD_eq_getD_getElem?→fc,getElem?_append_left→ff,getElem?_eq_getElem→jf,getElem?_eq_some_iff→dg,getElem?_setIfInBounds→jh,getElem?_toList→ig,length_toList→ep,mem_def→mp,replicate→pq,toArray_toList→gr,toList_map→ma
open Bool renaming and_eq_true→bq,false_eq_true→iq,not_eq_true'→iz,or_eq_true→fl,or_false→xn
open Go.Act renaming put→nr
open Go.Builtin renaming append_→fq,copy_→lm,firstCells→ib,lenOf→ld,len_→pr
open Go.Instr renaming alloc→vl,buildSlice→lj,extract→xm,loadAt→re,makeInterface→tf,makeMap→xl,next→pw,storeAt→qj,sureAddr→kv
open Go.Made renaming depth→wu
open Go.Oper renaming wp→mb
open Go.Region renaming ready→rh,wanted→gp
open Go.Result renaming andThen_ok→ed
open Go.Sem renaming run_bind→fp,run_pure→ie
open Go.Utf8 renaming decode→gj
open Go.Value renaming iface→vn,int→dh,map→Ca
open Go.World renaming setRow→mg
open Iff renaming rfl→il
open List renaming all_eq_true→cn,any_eq_true→kk,append_assoc→gd,cons_append→db,eq_nil_of_length_eq_zero→bx,filterMap_append→oz,filterMap_cons→dc,find?_eq_none→tr,getD→bb,getD_eq_getElem?_getD→bu,getElem?_append_left→dk,getElem?_append_right→dd,getElem?_cons_succ→kc,getElem?_cons_zero→gh,getElem?_drop→ft,getElem?_eq_getElem→bj,getElem?_eq_none→li,getElem?_eq_some_iff→dt,getElem?_map→fu,getElem?_take→gv,getElem?_toArray→fh,getElem_mem→kz,getElem_of_mem→fe,headD_cons→oe,length_append→cy,length_cons→gk,length_drop→cq,length_map→du,length_nil→eb,length_take→co,mapM_cons→mu,map_cons→dj,map_map→nb,mem_append→cf,mem_append_left→pk,mem_append_right→nk,mem_cons→bv,mem_cons_of_mem→cg,mem_cons_self→de,mem_filter→ef,mem_filterMap→ez,mem_flatMap→ll,mem_map→cj,mem_of_getElem?→fm,mem_or_eq_of_mem_set→nv,mem_toArray→lk,nodup_cons→dy,pairwise_iff_getElem→fw,pairwise_map→ku,range→gy,set_append_left→sq,set_append_right→jz,size_toArray→ge,tail_cons→kw
open List.Pairwise renaming nil→iy,of_map→zm
open List.cons renaming injEq→ia
open Nat renaming add_assoc→lc,add_mul→ey,add_zero→ee,le_refl→bp,le_trans→fo,lt_trichotomy→nn,mul_le_mul_right→dl,mul_one→mf,sub_sub→zn,testBit_or→wx,zero_add→ew
open Ne renaming symm→mh
open Option renaming bind_eq_some_iff→cz,bind_some→kq,getD_some→gt,isSome_iff_exists→fz,map_eq_some_iff→bf,map_none→vv,map_some→fy
open Option.some renaming inj→fg,injEq→dw
open Prod renaming fst→di,snd→gl
namespace Go.Pal
open Go
variable {P:Program}
variable {n nx b len cap i j m n0:Nat}
variable {v u:Value}
variable {w:World}
variable {H H':tG}
variable {σ:Nat->Value}
variable {out:u4}
variable {t ty e ts tx:TypeId}
variable {a:Act}
variable {Γ R:Env}
variable {x k y s:Operand}
variable {A:Option Addr}
variable {O:Nat->Prop}
variable {bs:List Bool}
variable {o:Oper}
variable {Q:Exit->Act->World->Prop}
variable {rest os:List Oper}
variable {cs:List Code}
variable {inv:List (Nat×Nat)}
variable {c:Code}
variable {f:FuncId}
variable {α β:Type}
variable {kn:List (Nat×Bool)}
variable {D:Nat->Bool}
def yP (H:tG):CV->Option (Nat×List Int)
 |.h n=>match tJ H n with
  |some (.map l)=>some (n,l)
  |_=>none
 |_=>none
theorem A0n {C:FC} (h:tK C σ H w) {x:CV} {l:List Int} (hx:yP H x=some (n,l)) (hv:CVr (Ow C.G H σ) w σ x v) :
 tJ H n=some (.map l)/\∃b,σ n=.map (some b)/\v=.map (some b)/\uN w b l:=by
 unfold yP at hx;split at hx
 ·split at hx
  ·rename_i hl;cases hx;obtain⟨b,hs,hM⟩:=h.ent _ (tI hl);exact⟨hl,b,hs,by simp only[CVr] at hv;rw[hv,hs];rfl,hM⟩
  ·cases hx
 ·cases hx
def A0M (P:Program) (Γ:Env) (H:tG) (nx:Nat):Option u4:=
 if tY nx Γ H=true then some ⟨.c (.h nx),(nx,.map [])::H,nx+1,[],id⟩ else none
def A0L (P:Program) (Γ:Env) (H:tG) (nx:Nat) (t:TypeId) (x k:Operand):Option u4:=
 match evc Γ x,evi Γ k with
 |some xv,some (.i64,n)=>match yP H xv with
  |some (_,l)=>if xE P t=true then some ⟨.tup [(true,[]),(false,[.val (.bool (l.contains n))])],H,nx,[],id⟩ else none
  |none=>none
 |_,_=>none
def A0O (P:Program) (Γ:Env) (H:tG) (nx:Nat) (t:TypeId) (x k y:Operand):Option u4:=
 match evc Γ x,evi Γ k,evo Γ y with
 |some xv,some (.i64,n),some (.agg [])=>match yP H xv with
  |some (m,l)=>if xE P t=true then some ⟨.c (.val undef),(m,.map (tZ n l))::tO H m,nx,[-9223372036854775808<=n,n<=9223372036854775807],id⟩ else none
  |none=>none
 |_,_,_=>none
def A0N (P:Program) (Γ:Env) (H:tG) (nx:Nat) (t:TypeId) (x k:Operand):Option u4:=
 match evc Γ x,evi Γ k with
 |some xv,some (.i64,n)=>match yP H xv with
  |some (m,l)=>if xE P t=true then some ⟨.tup [],(m,.map (uQ n l))::tO H m,nx,[],id⟩ else none
  |none=>none
 |_,_=>none
theorem A7P {C:FC} (h:tK C σ H w) (hE:tM C σ H w Γ a) (hst:A0M P Γ H nx=some out) :
 ∃u w' σ',(xl t none).run P w=.ok u w'/\tK C σ' out.H w'/\u6 C σ σ' H out.H w w' Γ a/\SVr (Ow C.G out.H σ') w' σ' out.v u/\(∀n,n≠nx->σ' n=σ n)/\out.f=id/\out.nx=nx+1:=by
 unfold A0M at hst;split at hst
 ·rename_i hf;cases hst;have hal:=xA (w':=w.alloc (.map #[] 0)) h hE hf (.map []) (.map (some w.heap.size)) (λb hb=>uH w _ b hb) (by show w.heap.size<=(w.heap.push _).size;simp) rfl rfl rfl
   (λb hb=>by simp only[Bk,blk,dw] at hb;omega)
   (λ_ _=>⟨w.heap.size,tQ _ _ _,#[],0,heap_alloc_new w _,MapKept.stamped_empty 0,by simp,by simp,iy,by simp⟩)
  exact⟨.map (some w.heap.size),_,_,by simp[xl],hal.1,hal.2,by simp[SVr,CVr,tQ,hd],λ_ hn=>tT hn,rfl,rfl⟩
 ·cases hst
theorem A7N {C:FC} (h:tK C σ H w) (hE:tM C σ H w Γ a) (hst:A0L P Γ H nx t x k=some out) :
 ∃u,(Instr.lookup t (a.eval x) (a.eval k) true).run P w=.ok u w/\out.H=H/\SVr (Ow C.G H σ) w σ out.v u/\out.f=id/\out.nx=nx:=by
 unfold A0L at hst;split at hst
 ·rename_i xv n hx hk;split at hst
  ·rename_i m l hm;split at hst
   ·rename_i ht;cases hst;obtain⟨_,b,_,hv,hM⟩:=A0n h hm (tX hE hx);refine⟨_,by rw[hv,vR hE hk];exact A6O hM ht n,rfl,?_,rfl,rfl⟩;exact⟨[.agg #[],.bool (l.contains n)],rfl,⟨[],rfl,trivial⟩,rfl,trivial⟩
   ·cases hst
  ·cases hst
 ·cases hst
theorem A7V {C:FC} (h:tK C σ H w) (hE:tM C σ H w Γ a) (hst:A0O P Γ H nx t x k y=some out) (hc:tL out.c) :
 ∃w',(Instr.mapUpdate t (a.eval x) (a.eval k) (a.eval y)).run P w=.ok () w'/\tK C σ out.H w'/\u6 C σ σ H out.H w w' Γ a/\out.v=.c (.val undef)/\out.f=id/\out.nx=nx:=by
 unfold A0O at hst;split at hst
 ·rename_i xv n hx hk hy;split at hst
  ·rename_i m l hm;split at hst
   ·rename_i ht;cases hst;simp only[tL] at hc;obtain⟨hl,b,hs,hv,hM⟩:=A0n h hm (tX hE hx);obtain⟨vs,hyv,hvs⟩:=vF hE hy;have:vs=[]:=by cases vs with|nil=>rfl|cons _ _=>exact hvs.elim
    subst this;obtain⟨w',hrun,g1,g2,g3,g4,g5,g6⟩:=A6Q (P:=P) hM ht hc.1 hc.2;have hst:=y6 (w':=w') h hE hl (λq _ hq=>g2 q (λe=>hq (by rw[hs,e];rfl))) (by omega) g4 g5 g6 (e':=.map (tZ n l)) (λ_=>⟨b,hs,g1⟩);exact⟨w',by rw[hv,vR hE hk,hyv];exact hrun,hst.1,hst.2,rfl,rfl,rfl⟩
   ·cases hst
  ·cases hst
 ·cases hst
theorem A7S {C:FC} (h:tK C σ H w) (hE:tM C σ H w Γ a) {t2:TypeId} (hst:A0N P Γ H nx t x k=some out) :
 ∃w',(Builtin.delete_ #[t,t2] ty #[a.eval x,a.eval k]).run P w=.ok (.tuple #[]) w'/\tK C σ out.H w'/\u6 C σ σ H out.H w w' Γ a/\out.v=.tup []/\out.f=id/\out.nx=nx:=by
 unfold A0N at hst;split at hst
 ·rename_i xv n hx hk;split at hst
  ·rename_i m l hm;split at hst
   ·rename_i ht;cases hst;obtain⟨hl,b,hs,hv,hM⟩:=A0n h hm (tX hE hx);obtain⟨w',hrun,g1,g2,g3,g4,g5,g6⟩:=A6N (P:=P) (kt2:=t2) (ty:=ty) hM ht n;have hst:=y6 (w':=w') h hE hl (λq _ hq=>g2 q (λe=>hq (by rw[hs,e];rfl))) (by omega) g4 g5 g6 (e':=.map (uQ n l)) (λ_=>⟨b,hs,g1⟩);exact⟨w',by rw[hv,vR hE hk];exact hrun,hst.1,hst.2,rfl,rfl,rfl⟩
   ·cases hst
  ·cases hst
 ·cases hst
def A03:Value->Int
 |.int _ n=>n
 |_=>0
theorem A1x {l:List Int} (hM:uN w b l):∃es clock,w.heap[b]? =some (.map es clock)/\MapKept.Stamped es clock/\(∀x∈es.toList,∃n,x.key=.int .i64 n/\x.val=.agg #[]/\n∈l)/\(es.toList.map λx=>A03 x.key).Perm l:=by
 obtain⟨es,clock,hb,hs,h1,h2,h3,_⟩:=hM;refine⟨es,clock,hb,hs,h1,(List.perm_ext_iff_of_nodup ?_ ?_).2 λn=>?_⟩
 ·have hn:=hs.2.2;have:es.toList.map (·.key)=(es.toList.map λx=>A03 x.key).map (dh .i64):=by
   rw[nb];refine List.map_congr_left λx hx=>?_;obtain⟨n,hk,_⟩:=h1 x hx;simp[hk,A03]
  rw[this] at hn;exact zm (dh .i64) (λa b h e=>h (by rw[e])) hn
 ·exact h3.imp λh=>by omega
 ·constructor
  ·intro hm;obtain⟨x,hx,rfl⟩:=cj.1 hm;obtain⟨n,hk,_,hn⟩:=h1 x hx;rw[hk];exact hn
  ·intro hm;obtain⟨x,hx,hk⟩:=h2 n hm;exact cj.2 ⟨x,hx,by rw[hk];rfl⟩
def A48 (H:tG):CV->Option (Nat×List Prop)
 |.h n=>match tJ H n with
  |some (.map l)=>some (l.length,[])
  |_=>none
 |.elm n i=>match tJ H n with
  |some (.sets ls none)=>some ((ls.getD i []).length,[i<ls.length])
  |_=>none
 |_=>none
def A13 (P:Program) (Γ:Env) (H:tG) (nx:Nat) (t:TypeId) (x:Operand):Option u4:=
 match P.underlying t,(evc Γ x).bind (A48 H) with
 |some (.map _ _),some r=>some ⟨.c (.val (.int .i64 (r.1:Nat))),H,nx,r.2,id⟩
 |_,_=>none
theorem A7T {C:FC} (h:tK C σ H w) (hE:tM C σ H w Γ a) (hst:A13 P Γ H nx t x=some out) (hc:tL out.c) :
 ∃n:Nat,(pr #[t] ty #[a.eval x]).run P w=.ok (.int .i64 n) w/\out=⟨.c (.val (.int .i64 n)),H,nx,out.c,id⟩:=by
 unfold A13 at hst;split at hst
 ·rename_i k e r hu hr;cases hst;refine⟨r.1,?_,rfl⟩;obtain⟨xv,hx,hl⟩:=cz.1 hr;have hxr:=tX hE hx;have key:∀(b:Nat) (l:List Int),a.eval x=.map (some b)->uN w b l->(pr #[t] ty #[a.eval x]).run P w=.ok (.int .i64 (l.length:Nat)) w:=by
   intro b l hv hM;obtain⟨es,clock,hb,_,_,hp⟩:=A1x hM;have hsz:es.size=l.length:=by have:=hp.length_eq;simpa using this
   rw[hv];simp[pr,run_underlying hu,MapKept.run_getObj_map hb,goInt,hsz]
  unfold A48 at hl;split at hl
  ·rename_i n;split at hl
   ·rename_i l hm;cases hl;obtain⟨b,hs,hM⟩:∃b,σ n=.map (some b)/\uN w b l:=h.ent _ (tI hm);exact key b l ((show a.eval x=hd (σ n) from hxr).trans (by rw[hs];rfl)) hM
   ·cases hl
  ·rename_i n i;split at hl
   ·rename_i ls hm;cases hl;have hi:i<ls.length:=hc;obtain⟨A,cap,vs,hv,_,_,hms,_,_⟩:uO w σ (σ n) ls none:=h.ent _ (tI hm);obtain⟨b,h1,h2⟩:=hms i hi;refine key b _ ((show a.eval x=cmp (σ n) i from hxr).trans ?_) (by rw[bu,bj hi];exact h2);rw[hv];simp only[cmp,tl,kw,bu,h1];rfl
   ·cases hl
  ·cases hl
 ·cases hst
def A15 (P:Program) (Γ:Env) (H:tG) (nx:Nat) (t:TypeId) (x:Operand):Option u4:=
 match P.underlying t,evc Γ x with
 |some (.map _ _),some (.h n)=>match tJ H n with
  |some (.map l)=>if tY nx Γ H=true then some ⟨.c (.h nx),(nx,.mit l none)::tW H [n],nx+1,[],id⟩ else none
  |_=>none
 |_,_=>none
theorem A7X {C:FC} (h:tK C σ H w) (hE:tM C σ H w Γ a) (hst:A15 P Γ H nx t x=some out) :
 ∃u w' σ',(Instr.range t (a.eval x)).run P w=.ok u w'/\tK C σ' out.H w'/\u6 C σ σ' H out.H w w' Γ a/\SVr (Ow C.G out.H σ') w' σ' out.v u/\(∀n,n≠nx->σ' n=σ n)/\out.nx=nx+1/\out.f=id:=by
 unfold A15 at hst;split at hst
 ·rename_i k e n hu hx;split at hst
  ·rename_i l hm;split at hst
   ·rename_i hf;cases hst;obtain⟨b,hs,hM⟩:∃b,σ n=.map (some b)/\uN w b l:=h.ent _ (tI hm);have hxr:a.eval x=.map (some b):=(show a.eval x=hd (σ n) from tX hE hx).trans (by rw[hs];rfl);have hbd:l.Pairwise (·< ·):=by obtain⟨_,_,_,_,_,_,h3,_⟩:=hM;exact h3
    have hall:(∀es clock,w.heap[b]? =some (.map es clock)->∀n∈l,∃x∈es.toList,x.key=.int .i64 n):=by obtain⟨es,clock,hb,_,_,h2,_⟩:=hM;intro es' clock' hb';rw[hb] at hb';cases hb';exact h2
    obtain⟨es,clock,hb,hst,h1,hp⟩:=A1x hM;have hbl:b<w.heap.size:=(dg.1 hb).1;have hstep:=vL (w':=w.alloc (.mapIter (some b) clock #[] clock)) h hE [n] nx (.mit l none) (.tuple [.pointer (some ⟨w.heap.size,0,none⟩),.map (some b)].toArray) hf
     (λq hq _=>uH w _ q hq) (by simp) rfl rfl rfl
     (λq hq=>by
      obtain⟨u,hu,hq⟩:=hq;have hu:u=.pointer (some ⟨w.heap.size,0,none⟩)\/u=.map (some b):=by simpa using hu
      rcases hu with rfl|rfl;·cases hq;exact .inr (bp _)
      ·cases hq;exact .inl ⟨n,by simp,⟨_,tI hm⟩,by rw[hs];rfl⟩)
     (λ_ _=>by
      show yD _ _ _ _;rw[tQ];refine⟨b,w.heap.size,es,clock,#[],rfl,by omega,(uH w _ b hbl).trans hb,heap_alloc_new w _,hst,λx hx=>?_,hbd.imp λh=>by omega,λm=>⟨λhm'=>?_,λ⟨x,hx,hk,_⟩=>?_⟩,λg hg=>by cases hg⟩
      ·obtain⟨m,h3,h4,_⟩:=h1 x hx;exact⟨m,h3,h4⟩
      ·obtain⟨x,hx,hk⟩:=hall es clock hb m hm';exact⟨x,hx,hk,by simp⟩
      ·obtain⟨m',h3,_,h5⟩:=h1 x hx;rw[hk] at h3;cases h3;exact h5)
    refine⟨_,_,_,by rw[hxr];exact run_range_map w t k e b es clock hu hb,hstep.1,hstep.2,?_,λ_ hn=>tT hn,rfl,rfl⟩;show _=hd (upd σ nx _ nx);rw[tQ];rfl
   ·cases hst
  ·cases hst
 ·cases hst
def A10 (Γ:Env) (H:tG) (nx:Nat) (x:Operand):Option u4:=
 match evc Γ x with
 |some (.h m)=>match tJ H m with
  |some (.mit _ (some g))=>some ⟨.tup [(false,[.val (.int .i64 g)]),(true,[])],H,nx,[],id⟩
  |_=>none
 |_=>none
theorem A7F {C:FC} (h:tK C σ H w) (hE:tM C σ H w Γ a) (hst:A10 Γ H nx x=some out) :
 ∃u,(Instr.entry (a.eval x)).run P w=.ok u w/\out.H=H/\SVr (Ow C.G H σ) w σ out.v u/\out.f=id/\out.nx=nx:=by
 unfold A10 at hst;split at hst
 ·rename_i m hx;split at hst
  ·rename_i l g hm;cases hst;obtain⟨b,r,es,clock,seen,hv,hne,h1,h2,h3,h4,h5,h6,h7⟩:yD w (σ m) l (some g):=h.ent _ (tI hm);obtain⟨seen',y,rfl,hy,hk⟩:=h7 g rfl;obtain⟨n,hk',hva⟩:=h4 y hy;have hxr:a.eval x=.pointer (some ⟨r,0,none⟩):=(show a.eval x=hd (σ m) from tX hE hx).trans (by rw[hv];rfl);refine⟨_,by rw[hxr];exact run_entry_at w r b clock seen' es clock y h2 h1 hy h3.2.1,rfl,?_,rfl,rfl⟩;rw[hk,hva];exact⟨[.int .i64 g,.agg #[]],rfl,rfl,⟨[],rfl,trivial⟩,trivial⟩
  ·cases hst
 ·cases hst
def A0K (P:Program) (Γ:Env) (H:tG) (nx:Nat) (t:TypeId) (len:Nat) (parts:Array (Nat×Operand)):Option u4:=
 match P.underlying t,len,parts.toList with
 |some (.slice e),1,[(0,x)]=>match u7 P e,uL P e,evc Γ x with
  |some 1,some z,some xv=>match yP H xv with
   |some (m,_)=>if (z.cells.size=1/\m≠nx)/\tY nx Γ H=true then some ⟨.c (.h nx),(nx,.lit [.h m])::H,nx+1,[],id⟩ else none
   |none=>none
  |_,_,_=>none
 |_,_,_=>none
theorem A7L {C:FC} (h:tK C σ H w) (hE:tM C σ H w Γ a) {parts:Array (Nat×Operand)} (hst:A0K P Γ H nx t len parts=some out) :
 ∃u w' σ',(lj t len (parts.map λp=>(p.1,a.eval p.2))).run P w=.ok u w'/\tK C σ' out.H w'/\u6 C σ σ' H out.H w w' Γ a/\SVr (Ow C.G out.H σ') w' σ' out.v u/\(∀n,n≠nx->σ' n=σ n)/\out.f=id/\out.nx=nx+1:=by
 unfold A0K at hst;split at hst
 ·rename_i e x hu hp;split at hst
  ·rename_i z xv hz hzo hx;split at hst
   ·rename_i m l hm;split at hst
    ·rename_i hcond;obtain⟨⟨hzs,hmn⟩,hf⟩:=hcond;cases hst;obtain⟨hl,b,hs,hv,hM⟩:=A0n h hm (tX hE hx);have hpm:(parts.map λp=>(p.1,a.eval p.2)).toList=[(0,.map (some b))]:=by
      rw[ma,hp];simp[hv]
     have hrun:(lj t 1 (parts.map λp=>(p.1,a.eval p.2))).run P w=.ok (.slice (some ⟨w.heap.size,0,none⟩) 1 1) (w.alloc (.cells #[.map (some b)] e)):=by simp only[lj,fp,run_underlying hu,ed,uK hz,Sem.run_ite];rw[if_neg (by decide),if_neg (by decide)];simp only[wK hzo,ed,ie,hpm];have hfill:=A1e (place:=λi=>some (i*1,1)) (c:=(Array.range (1*1)).map λi=>(z.cells[i%z.cells.size]!)) (i:=0) (v:=.map (some b)) (rest:=[]) (off:=0) (size:=1) (vs:=[.map (some b)]) rfl rfl rfl (by simp);rw[hfill];simp[Instr.fill,newRow]
     have hal:=xA (w':=w.alloc (.cells #[.map (some b)] e)) h hE hf (.lit [.h m]) (.slice (some ⟨w.heap.size,0,none⟩) 1 1) (λb hb=>uH w _ b hb) (by simp) rfl rfl rfl
      (λb hb=>by simp only[Bk,blk] at hb;rw[if_neg (by omega)] at hb;simp at hb;omega)
      (λ_ _=>⟨w.heap.size,#[.map (some b)],e,tQ _ _ _,by simp,heap_alloc_new w _,⟨by simp only[CVr];rw[tT hmn,hs];rfl,trivial⟩⟩)
     exact⟨_,_,_,hrun,hal.1,hal.2,vT (O:=λ_=>False) (w:=w),λ_ hn=>tT hn,rfl,rfl⟩
    ·cases hst
   ·cases hst
  ·cases hst
 ·cases hst
def A1q (H:tG) (p:CV):Option (CV×List Prop):=
 match p with
 |.elt m 1 i 0=>match tJ H m with
  |some (.sets _ none)=>some (.elm m i,[])
  |some (.sets ls (some m'))=>some (.h m',[i=ls.length])
  |_=>none
 |_=>none
theorem A6J {C:FC} (h:tK C σ H w) {p q:CV} {cs:List Prop} (hst:A1q H p=some (q,cs)) (hc:tL cs) (hp:CVr (Ow C.G H σ) w σ p v) :
 ∃b off u,v=.pointer (some ⟨b,off,none⟩)/\w.cell? ⟨b,off,none⟩=some u/\CVr (Ow C.G H σ) w σ q u:=by
 unfold A1q at hst;split at hst
 ·rename_i m i;obtain⟨b,off,len,cap,hs,hi,rfl⟩:=hp;split at hst
  ·rename_i ls hm;cases hst;obtain⟨A,cap',vs,hv,_,hl,_,_,hr⟩:=h.ent _ (tI hm);have hv':σ m=.tuple (.slice A vs.length cap'::vs).toArray:=hv;rw[hv'] at hs;simp only[hd,oe] at hs;injection hs with e1 e2 e3;subst e1 e2 e3;rcases hr with⟨_,rfl⟩|⟨_,hlc,b',off',c,e,eA,hh,hsz,hcells⟩;·simp at hi
   ·injection eA with eA;injection eA with e1 e2 _;subst e1 e2;refine⟨b,off+i*1+0,_,rfl,by rw[cell_of_row w b _ c e (0,0) hh,mf,ee];exact(hcells i hi).trans (by rw[bj hi];rfl),?_⟩;simp only[CVr,cmp,hv',tl,kw];simp[bb,bj hi]
  ·rename_i ls m' hm;cases hst;simp only[tL] at hc;subst hc;obtain⟨A,cap',vs,hv,_,hl,_,hlast,hr⟩:=h.ent _ (tI hm);have hv':σ m=.tuple (.slice A vs.length cap'::vs).toArray:=hv;rw[hv'] at hs;simp only[hd,oe] at hs;injection hs with e1 e2 e3;subst e1 e2 e3;obtain⟨hlast,_⟩:=hlast m' rfl;rcases hr with⟨_,rfl⟩|⟨_,hlc,b',off',c,e,eA,hh,hsz,hcells⟩;·simp at hi
   ·injection eA with eA;injection eA with e1 e2 _;subst e1 e2;refine⟨b,off+ls.length*1+0,hd (σ m'),rfl,?_,rfl⟩;rw[cell_of_row w b _ c e (0,0) hh,mf,ee,hcells _ hi,hlast];rfl
  ·cases hst
 ·cases hst
def zL (P:Program) (Γ:Env) (H:tG) (nx:Nat) (t:TypeId) (s x:Operand):Option u4:=
 match P.underlying t with
 |some (.slice e)=>match P.info? e,uL P e,evc Γ s,evc Γ x with
  |some i,some z,some sv,some (.h tn)=>match tJ H tn with
   |some (.lit [.h m])=>match tJ H m with
    | some (.map _) =>
      if ((0<i.bytes/\z.cells.size=i.size/\i.size=1)/\tn≠m)/\tY nx Γ H=true then
       match sv with
       |.h n=>match tJ H n with
        |some (.sets ls none)=>if n≠m/\n≠tn then some ⟨.c (.h nx),(nx,.sets ls (some m))::tW H [n,tn],nx+1,[(ls.length+1)*i.bytes<=140737488355328],id⟩ else none
        |_=>none
       |.val (.slice none 0 0)=>some ⟨.c (.h nx),(nx,.sets [] (some m))::tW H [tn],nx+1,[1*i.bytes<=140737488355328],id⟩
       |_=>none
      else none
    |_=>none
   |_=>none
  |_,_,_,_=>none
 |_=>none
theorem A4h {i:TypeInfo} {z:Value} (ht:P.underlying t=some (.slice e)) (hi:P.info? e=some i) (hz:i.zero=some z) (hb:0<i.bytes) (hzs:z.cells.size=i.size) (h1:i.size=1)
 {vs:List Value} {ls:List (List Int)} (hnd:((.slice A vs.length cap::vs).filterMap blk).Nodup) (hl:vs.length=ls.length)
 (hms:∀i (h:i<ls.length),∃b,vs[i]? =some (.map (some b))/\uN w b ls[i])
 (hrow:(cap=0/\vs=[])\/((0<cap/\cap<=9223372036854775807)/\vs.length<=cap/\∃b off c e,A=some ⟨b,off,none⟩/\w.heap[b]? =some (.cells c e (0,0))/\off+cap<=c.size/\∀i,i<vs.length->c[off+i]? =(vs[i]?).map xB))
 {bt b2:Nat} (hbt:w.cell? ⟨bt,0,none⟩=some (.map (some b2))) (hbd:(ls.length+1)*i.bytes<=140737488355328) :
 ∃ A' cap' w',(fq #[t,t] ty #[.slice A vs.length cap,.slice (some ⟨bt,0,none⟩) 1 1]).run P w=.ok (.slice A' (vs.length+1) cap') w'∧
   (∀b,b<w.heap.size->¬Bk (.tuple (.slice A vs.length cap::vs).toArray) b->w'.heap[b]? =w.heap[b]?)/\w.heap.size<=w'.heap.size/\w'.os=w.os/\w'.tape=w.tape/\w'.output=w.output/\
   (∀b,Bk (.tuple (.slice A' (vs.length+1) cap'::(vs++[.agg #[.map (some b2)]])).toArray) b->Bk (.tuple (.slice A vs.length cap::vs).toArray) b\/w.heap.size<=b)/\
   ∀(σ':Nat->Value) (m:Nat),hd (σ' m)=.map (some b2)->uO w' σ' (.tuple (.slice A' (vs.length+1) cap'::(vs++[.agg #[.map (some b2)]])).toArray) ls (some m):=by
 have hnew:∀j u,[Ca (some b2)][j]? =some u->∃b off,some (⟨bt,0,none⟩:Addr)=some ⟨b,off,none⟩/\w.cell? ⟨b,off+j,none⟩=some u:=by
  intro j u hu;cases j with
  |zero=>simp at hu;subst hu;exact⟨bt,0,rfl,hbt⟩
  |succ j=>simp at hu
 have hvb:∀v∈vs,∀b,blk v=some b->∃i,∃h:i<ls.length,vs[i]? =some (.map (some b))/\uN w b ls[i]:=by intro v hv b hb;obtain⟨i,hi,rfl⟩:=fe hv;obtain⟨b',h2,h3⟩:=hms i (by omega);rw[bj hi] at h2;rw[fg h2] at hb;cases hb;exact⟨i,by omega,by rw[bj hi];exact h2,h3⟩
 have hbare:∀i,i<vs.length->∃b,vs[i]? =some (.map (some b)):=λi hi=>by obtain⟨b,h2,_⟩:=hms i (by omega);exact⟨b,h2⟩
 by_cases hroom:vs.length+1<=cap
 ·rcases hrow with⟨rfl,rfl⟩|⟨hp,hlc,b,off,c,e2,rfl,hh,hsz,hcells⟩;·omega
  ·have hrun:=A2H (P:=P) (ty:=ty) (B:=some ⟨bt,0,none⟩) (n:=vs.length) (cap:=cap) (m:=1) (cap2:=1) (news:=[.map (some b2)]) (off:=off) ht hi w (by rw[h1];rfl) hnew (by simp[Value.oneCell']) hroom hh (by rw[h1];simp;omega);have hbr:Bk (.tuple (.slice (some ⟨b,off,none⟩) vs.length cap::vs).toArray) b:=uD de (uG hp.1);have hne:∀v∈vs,∀q,blk v=some q->q≠b:=by
    intro v hv q hq e;subst e;rw[dc,uG hp.1] at hnd;exact(dy.1 hnd).1 (ez.2 ⟨v,hv,hq⟩)
   refine⟨_,_,_,hrun,λq _ hq=>setRow_other w b q _ (λe=>hq (e▸hbr)),by simp[mg],rfl,rfl,rfl,λq hq=>?_,λσ' m hm=>?_⟩
   ·obtain⟨v,hv,hq⟩:=hq;rcases bv.1 (lk.1 (mp.2 hv)) with rfl|hv;·rw[uG hp.1] at hq;cases hq;exact .inl hbr
    ·rcases cf.1 hv with hv|hv;·exact .inl (uD (cg _ hv) hq)
     ·simp at hv;subst hv;cases hq
   ·refine⟨_,cap,vs++[.agg #[.map (some b2)]],by simp,?_,by simp[hl],λj hi=>?_,λm' e=>?_,.inr ⟨hp,by simpa using hroom,b,off,_,e2,rfl,setRow_heap w b c _ e2 _ hh,?_,λj hi=>?_⟩⟩
    ·rw[dc,uG hp.1] at hnd ⊢;simpa[oz,dc,blk] using hnd
    ·obtain⟨q,h2,h3⟩:=hms j hi;refine⟨q,by rw[dk (by omega)];exact h2,A0V (setRow_other w b q _ (hne _ (fm h2) q rfl)) h3⟩
    ·cases e;rw[hm];exact⟨by rw[dd (by omega)];simp[hl],rfl⟩
    ·simp only[ge,cy,co,cq,ep,gk,eb,h1];omega
    ·have hspl:=vQ c.toList [Ca (some b2)] (off+vs.length*i.size) (off+j) (by simp[h1];omega);rw[fh,gd,hspl];simp only[cy,gk,eb] at hi ⊢;rw[h1,mf];by_cases hj:j<vs.length
     ·rw[if_pos (by omega),dk hj,<-hcells j hj];simp
     ·obtain rfl:j=vs.length:=by omega
      rw[if_neg (by omega),if_pos (by omega),dd (by omega)];simp[xB]
 ·have hold:∀j u,(vs.map xB)[j]? =some u->∃b off,A=some ⟨b,off,none⟩/\w.cell? ⟨b,off+j,none⟩=some u:=by
   intro j u hu;rw[fu] at hu;have hj:j<vs.length:=by
    rcases Nat.lt_or_ge j vs.length with h|h;·exact h
    ·rw[li h] at hu;cases hu
   rcases hrow with⟨_,rfl⟩|⟨hp,hlc,b,off,c,e2,rfl,hh,hsz,hcells⟩;·simp at hj
   ·exact⟨b,off,rfl,by rw[cell_of_row w b _ c e2 (0,0) hh,hcells j hj];exact hu⟩
  obtain⟨gc,hgc,hrun⟩:=A0v (P:=P) (ty:=ty) (A:=A) (B:=some ⟨bt,0,none⟩) (n:=vs.length) (cap:=cap) (m:=1) (cap2:=1) (olds:=vs.map xB) (news:=[.map (some b2)]) ht hi hz w (by simp[h1]) hold (by rw[h1];rfl) hnew (by omega)
   (by have:=zN hb hbd;omega) (by rw[hl];exact hbd)
  refine⟨_,gc,_,hrun,λb hb _=>uH w.drew _ b hb,by simp,rfl,rfl,rfl,λq hq=>?_,λσ' m hm=>?_⟩
  ·obtain⟨v,hv,hq⟩:=hq;rcases bv.1 (lk.1 (mp.2 hv)) with rfl|hv;·rw[uG (by omega)] at hq;cases hq;exact .inr (bp _)
   ·rcases cf.1 hv with hv|hv;·exact .inl (uD (cg _ hv) hq)
    ·simp at hv;subst hv;cases hq
  ·refine⟨_,gc,vs++[.agg #[.map (some b2)]],by simp,?_,by simp[hl],λj hi=>?_,λm' e=>?_,.inr ⟨⟨by omega,hgc.2⟩,by simpa using hgc.1,w.heap.size,0,_,e,rfl,heap_alloc_new w.drew _,?_,λj hi=>?_⟩⟩
   ·rw[dc,uG (by omega)];have hnd':(vs.filterMap blk).Nodup:=by
     rw[dc] at hnd;split at hnd;·exact hnd
     ·exact(dy.1 hnd).2
    simp only[oz,dc,blk,List.filterMap_nil,List.append_nil];refine dy.2 ⟨λhm2=>?_,hnd'⟩;obtain⟨v,hv,hq⟩:=ez.1 hm2;obtain⟨_,_,_,hM⟩:=hvb v hv _ hq;have:=A0U hM;omega
   ·obtain⟨q,h2,h3⟩:=hms j hi;exact⟨q,by rw[dk (by omega)];exact h2,A0V (uH w.drew _ q (A0U h3)) h3⟩
   ·cases e;rw[hm];exact⟨by rw[dd (by omega)];simp[hl],rfl⟩
   ·simp only[Array.size_append,ge,du,gk,eb,size_zeroCells,hzs,h1];omega
   ·simp only[cy,gk,eb] at hi;rw[ew,ff (by simp;omega),<-fu];simp[xB]
theorem A5g {C:FC} (h:tK C σ H w) (hE:tM C σ H w Γ a) (hst:zL P Γ H nx t s x=some out) (hc:tL out.c) :
 ∃u w' σ',(fq #[t,t] ty #[a.eval s,a.eval x]).run P w=.ok u w'/\tK C σ' out.H w'/\u6 C σ σ' H out.H w w' Γ a/\SVr (Ow C.G out.H σ') w' σ' out.v u/\(∀n,n≠nx->σ' n=σ n)/\out.f=id/\out.nx=nx+1:=by
 unfold zL at hst;split at hst
 ·rename_i e ht;split at hst
  ·rename_i i z sv tn hi hz0 hs hx;split at hst
   ·rename_i m htn;split at hst
    ·rename_i l2 hm;split at hst
     ·rename_i hcond;obtain⟨⟨⟨hb,hzs,h1⟩,htm⟩,hf⟩:=hcond;have hz:i.zero=some z:=by simpa[uL,hi] using hz0
      have hsr:=tX hE hs;have hxr:=tX hE hx;simp only[CVr] at hxr;obtain⟨bt,ct,et,hst1,_,hht,hct⟩:=h.ent _ (tI htn);have hst1':σ tn=.slice (some ⟨bt,0,none⟩) 1 1:=hst1;obtain⟨b2,hs2,hM2⟩:=h.ent _ (tI hm);have hs2':σ m=.map (some b2):=hs2;have hcell:w.cell? ⟨bt,0,none⟩=some (.map (some b2)):=by rw[cell_of_row w bt 0 ct et (0,0) hht];obtain⟨u,us,e1,hu,hus⟩:=uM hct;simp only[CVr] at hu;rw[<-ig,e1,hu,hs2'];rfl
      have hmx:m≠nx:=(uI hf _ (tI hm)).1;have hd2:hd (upd σ nx (.slice none 0 0) m)=.map (some b2):=by rw[tT hmx,hs2'];rfl
      split at hst
      ·rename_i n;split at hst
       ·rename_i ls hn;split at hst
        ·rename_i hnm;cases hst;simp only[tL] at hc;obtain⟨A,cap,vs,hv,hnd,hl,hms,_,hrow⟩:=h.ent _ (tI hn);have hl':vs.length=ls.length:=by simpa using hl
         have hv':σ n=.tuple (.slice A vs.length cap::vs).toArray:=hv;obtain⟨A',cap',w',hrun,g1,g2,g3,g4,g5,g6,g7⟩:=A4h (P:=P) (ty:=ty) ht hi hz hb hzs h1 hnd hl' hms hrow hcell hc;have hstep:=vL (w':=w') h hE [n,tn] nx (.sets ls (some m)) (.tuple (.slice A' (vs.length+1) cap'::(vs++[.agg #[.map (some b2)]])).toArray) hf
          (λq hq hno=>g1 q hq (by rw[<-hv'];exact hno n (by simp) _ (tI hn))) g2 g3 g4 g5
          (λq hq=>(g6 q hq).imp (λhq=>⟨n,by simp,⟨_,tI hn⟩,by rw[hv'];exact hq⟩) id)
          (λ_ _=>by show uO _ _ _ _ _;rw[tQ];exact g7 _ m (by rw[tT hmx,hs2'];rfl))
         simp only[CVr] at hsr;refine⟨_,w',_,by rw[hsr,hxr,hv',hst1'];exact hrun,hstep.1,hstep.2,?_,λ_ hn=>tT hn,rfl,rfl⟩;simp[SVr,CVr,tQ,hd]
        ·cases hst
       ·cases hst
      ·cases hst;simp only[tL] at hc;obtain⟨A',cap',w',hrun,g1,g2,g3,g4,g5,g6,g7⟩:=A4h (P:=P) (ty:=ty) (A:=none) (cap:=0) (vs:=[]) (ls:=[]) ht hi hz hb hzs h1 (by rw[dc];exact iy) rfl (λi hi=>by simp at hi) (.inl ⟨rfl,rfl⟩) hcell (by simpa using hc);have hstep:=vL (w':=w') h hE [tn] nx (.sets [] (some m)) (.tuple (.slice A' 1 cap'::([]++[.agg #[.map (some b2)]])).toArray) hf
        (λq hq _=>g1 q hq (by rintro⟨v,hv,hq⟩;simp at hv;subst hv;cases hq)) g2 g3 g4 g5
        (λq hq=>(g6 q hq).elim (λ⟨v,hv,hq⟩=>by simp at hv;subst hv;cases hq) .inr)
        (λ_ _=>by show uO _ _ _ _ _;rw[tQ];exact g7 _ m (by rw[tT hmx,hs2'];rfl))
       simp only[CVr] at hsr;refine⟨_,w',_,by rw[hsr,hxr,hst1'];exact hrun,hstep.1,hstep.2,?_,λ_ hn=>tT hn,rfl,rfl⟩;simp[SVr,CVr,tQ,hd]
      ·cases hst
     ·cases hst
    ·cases hst
   ·cases hst
  ·cases hst
 ·cases hst
abbrev xD (xs:List aK.ty) (i:Nat):List cK.ty:=(xs.getD i aK.dflt).2.2.2.2
def vZ (xs:List aK.ty) (i:Nat) (zs:List cK.ty):List aK.ty:=
 xs.set i ((xs.getD i aK.dflt).1,(xs.getD i aK.dflt).2.1,(xs.getD i aK.dflt).2.2.1,(xs.getD i aK.dflt).2.2.2.1,zs)
theorem vK {xs:List aK.ty} {zs:List cK.ty}:(vZ xs i zs).length=xs.length:=by simp[vZ]
theorem A0F {xs:List aK.ty} {zs:List cK.ty} (h:j<(vZ xs i zs).length) (h':j<xs.length):(vZ xs i zs)[j]=if j=i then (xs[j].1,xs[j].2.1,xs[j].2.2.1,xs[j].2.2.2.1,zs) else xs[j]:=by
 have key:∀(y:aK.ty) (hy:j<(xs.set i y).length),(xs.set i y)[j]=if i=j then y else xs[j]:=λy hy=>List.getElem_set hy;rw[show (vZ xs i zs)[j]=_ from key _ h];by_cases e:i=j
 ·subst e;rw[if_pos rfl,if_pos rfl];simp[bb,bj h']
 ·rw[if_neg e,if_neg (mh e)]
theorem A3T {xs:List aK.ty} (h:i<xs.length):xD xs i=xs[i].2.2.2.2:=by simp[xD,bb,bj h]
def reH (n n':Nat):CV->CV
 |.h m=>if m=n then .h n' else .h m
 |.elt m sz i o=>if m=n then .elt n' sz i o else .elt m sz i o
 |s=>s
theorem xV {n':Nat} (hh:hd (σ n')=hd (σ n)):∀{s:CV} {v:Value},CVr O w σ s v->CVr O w σ (reH n n' s) v
 | .h m,v,h => by
   simp only[reH];split;·rename_i e;subst e;simp only[CVr] at h ⊢;rw[hh];exact h
   ·exact h
 | .elt m sz i o,v,h => by
   simp only[reH];split;·rename_i e;subst e;simp only[CVr] at h ⊢;rw[hh];exact h
   ·exact h
 |.val _,_,h=>h
 |.imm _ _,_,h=>h
 |.cell _ _,_,h=>h
 |.ielt _ _,_,h=>h
 |.sub _ _ _ _,_,h=>h
 |.clo _ _,_,h=>h
 |.zc,_,h=>h
 |.slf _ _,_,h=>h
 |.elm _ _,_,h=>h
theorem A0o:∀{l:List Value} {j:Nat} {v':Value},(l.filterMap blk).Nodup->(∀b,blk v'=some b->l[j]?.bind blk=some b\/∀v∈l,blk v≠some b)->((l.set j v').filterMap blk).Nodup
 |[],_,_,h,_=>by simpa using h
 | x :: l,0,v',h,hv => by
   rw[List.set_cons_zero];rw[dc] at h ⊢;have hl:(l.filterMap blk).Nodup:=by
    split at h;·exact h
    ·exact(dy.1 h).2
   split;·exact hl
   ·rename_i b hb;refine dy.2 ⟨λhm=>?_,hl⟩;obtain⟨v,hvm,hvb⟩:=ez.1 hm;rcases hv b hb with h1|h1
    ·simp only[gh,kq] at h1;rw[h1] at h;exact(dy.1 h).1 hm
    ·exact h1 v (cg _ hvm) hvb
 | x :: l,j+1,v',h,hv => by
   rw[List.set_cons_succ];rw[dc] at h ⊢;have hv':∀b,blk v'=some b->l[j]?.bind blk=some b\/∀v∈l,blk v≠some b:=λb hb=>(hv b hb).imp (λq=>by simpa using q) (λq v hvm=>q v (cg _ hvm));split at h
   ·rename_i hx;exact A0o h hv'
   ·rename_i b hx;obtain⟨h1,h2⟩:=dy.1 h;refine dy.2 ⟨λhm=>?_,A0o h2 hv'⟩;obtain⟨v,hvm,hvb⟩:=ez.1 hm;rcases nv hvm with hvm|rfl;·exact h1 (ez.2 ⟨v,hvm,hvb⟩)
    ·rcases hv b hvb with h3|h3
     ·simp only[kc] at h3;obtain⟨u,hu,hub⟩:=cz.1 h3;exact h1 (ez.2 ⟨u,fm hu,hub⟩)
     ·exact h3 x de hx
theorem A09:∀{l:List Value} {i j:Nat} {u v:Value} {b:Nat},(l.filterMap blk).Nodup->i≠j->l[i]? =some u->l[j]? =some v->blk u=some b->blk v≠some b
 |[],_,_,_,_,_,_,_,h,_,_=>by simp at h
 |x::l,0,0,_,_,_,_,h,_,_,_=>(h rfl).elim
 | x :: l,0,j+1,u,v,b,hn,_,hi,hj,hu => by simp only[gh,dw] at hi;subst hi;rw[dc,hu] at hn;intro hv;exact(dy.1 hn).1 (ez.2 ⟨v,fm (by simpa using hj),hv⟩)
 | x :: l,i+1,0,u,v,b,hn,_,hi,hj,hu => by simp only[gh,dw] at hj;subst hj;intro hv;rw[dc,hv] at hn;exact(dy.1 hn).1 (ez.2 ⟨u,fm (by simpa using hi),hu⟩)
 | x :: l,i+1,j+1,u,v,b,hn,hne,hi,hj,hu => by
   have hl:(l.filterMap blk).Nodup:=by
    rw[dc] at hn;split at hn;·exact hn
    ·exact(dy.1 hn).2
   exact A09 (l:=l) (i:=i) (j:=j) hl (by omega) (by simpa using hi) (by simpa using hj) hu
theorem A22 {l:List Value} {v':Value} (h:(l.filterMap blk).Nodup) (hv:∀b,blk v'=some b->∀v∈l,blk v≠some b):((l++[v']).filterMap blk).Nodup:=by
 rw[oz];rw[List.nodup_append];refine⟨h,?_,λb hb c hc=>?_⟩
 ·cases hb:blk v' with
  |none=>simp[dc,hb]
  |some b=>simp[dc,hb]
 ·obtain⟨v,hvm,hvb⟩:=ez.1 hb;cases hq:blk v' with
  |none=>simp[dc,hq] at hc
  | some q =>
    simp[dc,hq] at hc;subst hc;rintro rfl;exact hv b hq v hvm hvb
def A1p (H:tG) (p:CV):Option (CV×List Prop):=
 match p with
 |.elt n 5 i 4=>match tJ H n with
  |some (.arow m xs)=>some (.imm (.slice cK) (xD xs i),[m<=i])
  |some (.aown _)=>some (.elm n i,[])
  |_=>none
 |_=>none
theorem A6I {C:FC} (h:tK C σ H w) {p q:CV} {cs:List Prop} (hst:A1p H p=some (q,cs)) (hc:tL cs) (hp:CVr (Ow C.G H σ) w σ p v) :
 ∃b off u,v=.pointer (some ⟨b,off,none⟩)/\w.cell? ⟨b,off,none⟩=some u/\CVr (Ow C.G H σ) w σ q u:=by
 unfold A1p at hst;split at hst
 ·rename_i n i;obtain⟨b,off,len,cap,hs,hi,rfl⟩:=hp;split at hst
  ·rename_i m xs hn;cases hst;simp only[tL] at hc;obtain⟨A,cap',vs,hv,hl,hle,_,_,hr⟩:=h.ent _ (tI hn);have hv':σ n=.tuple (.slice A xs.length cap'::vs).toArray:=hv;rw[hv'] at hs;simp only[hd,oe] at hs;injection hs with e1 e2 e3;subst e1 e2 e3;rcases hr with⟨_,rfl⟩|⟨_,hlc,b',off',c,e,eA,hh,hsz,hcells⟩;·simp at hi
   ·injection eA with eA;injection eA with e1 e2 _;subst e1 e2;obtain⟨cs,hcs,hr⟩:=hcells i hi;rw[if_neg (by omega)] at hr;obtain⟨x1,r1,rfl,h1,x2,r2,rfl,h2,x3,r3,rfl,h3,x4,r4,rfl,h4,h5⟩:=hr;simp only[Kd.R] at h1 h2 h3 h4;subst h1 h2 h3 h4;have hcell:=hcs 4 (by omega);have h5':=h5;obtain⟨A5,cap5,rfl,_⟩:=h5';refine⟨b,off+i*5+4,_,rfl,by rw[cell_of_row w b _ c e (0,0) hh];exact hcell,?_⟩;simp only[CVr];rw[A3T hi];exact h5
  ·rename_i xs hn;cases hst;obtain⟨A,cap',vs,hv,hl,hle,_,hown,hr⟩:=h.ent _ (tI hn);have hv':σ n=.tuple (.slice A xs.length cap'::vs).toArray:=hv;rw[hv'] at hs;simp only[hd,oe] at hs;injection hs with e1 e2 e3;subst e1 e2 e3;rcases hr with⟨_,rfl⟩|⟨_,hlc,b',off',c,e,eA,hh,hsz,hcells⟩;·simp at hi
   ·injection eA with eA;injection eA with e1 e2 _;subst e1 e2;obtain⟨cs,hcs,hr⟩:=hcells i hi;rw[if_pos hi] at hr;obtain⟨u,rfl,hu,hvu⟩:=hr;have hvu:=hvu (by simp);obtain⟨zs,hR,_⟩:=hown i (by omega);have hcell:=hcs 4 (by omega);refine⟨b,off+i*5+4,u,rfl,by rw[cell_of_row w b _ c e (0,0) hh];exact hcell,?_⟩;simp only[CVr,cmp,hv',tl,kw];rw[bu,hvu];have hiv:vs[i]'(by omega)=u:=by
     have:=bj (l:=vs) (i:=i) (by omega);rw[this] at hvu;exact fg hvu
    rw[hiv] at hR;obtain⟨A',cap2,rfl,_⟩:=hR;rfl
  ·cases hst
 ·cases hst
def zK (P:Program) (Γ:Env) (H:tG) (nx:Nat) (t:TypeId) (s x:Operand):Option u4:=
 match P.underlying t with
 |some (.slice e)=>match P.info? e,uL P e,evc Γ s,evc Γ x with
  |some i,some z,some (.elm n j),some xv=>match tJ H n with
   | some (.aown xs) =>
     if (0<i.bytes/\z.cells.size=i.size/\i.size=2)/\tY nx Γ H=true then
      (w9 H cK xv).map λys=>⟨.c (.elm nx j),(nx,.apend j (xD xs j++ys) xs)::tW H [n],nx+1,[j<xs.length,((xD xs j).length+ys.length)*i.bytes<=140737488355328],reH n nx⟩
     else none
   |_=>none
  |_,_,_,_=>none
 |_=>none
theorem A5e {C:FC} (h:tK C σ H w) (hE:tM C σ H w Γ a) (hst:zK P Γ H nx t s x=some out) (hc:tL out.c) :
 ∃ u w' σ',(fq #[t,t] ty #[a.eval s,a.eval x]).run P w=.ok u w'∧tK C σ' out.H w'∧u6 C σ σ' H out.H w w' Γ a∧SVr (Ow C.G out.H σ') w' σ' out.v u∧(∀ n,n≠nx→σ' n=σ n)∧out.nx=nx+1∧
   ∀s v,CVr (Ow C.G out.H σ') w' σ' s v->CVr (Ow C.G out.H σ') w' σ' (out.f s) v:=by
 unfold zK at hst;split at hst
 ·rename_i e ht;split at hst
  ·rename_i i z n j xv hi hz0 hs hx;split at hst
   ·rename_i xs hn;split at hst
    ·rename_i hcond;obtain⟨⟨hb,hzs,h2⟩,hf⟩:=hcond;obtain⟨ys,hys,e'⟩:=bf.1 hst;cases e';simp only[tL] at hc;obtain⟨hj,hbd⟩:=hc;have hz:i.zero=some z:=by simpa[uL,hi] using hz0
     have hsr:=tX hE hs;have hxr:=tX hE hx;obtain⟨B,cap2,hxv,_,hrd⟩:=yJ h hys hxr;obtain⟨us,hfl,h1,hcell⟩:=wN hrd;obtain⟨A,cap,vs,hv,hl,_,hnd,hown,hrow⟩:=h.ent _ (tI hn);have hv':σ n=.tuple (.slice A xs.length cap::vs).toArray:=hv;have hjv:j<vs.length:=by omega
     obtain⟨zs,hR,hzs2,_⟩:=hown j hjv;have hzs3:zs=xD xs j:=by rw[A3T hj];exact hzs2 _ (bj hj) (by simp)
     subst hzs3;have hsv:a.eval s=vs[j]:=by simp only[CVr,cmp,hv',tl,kw] at hsr;rw[hsr,bu,bj hjv,gt];obtain⟨A',cap',e',_⟩:=hR;rw[e'];rfl
     have hk:Kd.sz cK=i.size:=by rw[h2];rfl
     obtain⟨v',w',hrun,⟨A',c',hvs'⟩,g2,g3,g4,g5,g6,g7,gT,g8⟩:=A0D (P:=P) (ty:=ty) ht ht (by intro q hq;cases hq) hi hz hb hzs hk hR hfl h1
      (u:=.slice B ys.length cap2) (λw'=>rfl) (by rw[<-hk];exact wG hfl.1 w hcell) (by rw[<-hk];exact wG hfl.1 w.drew (by simpa using hcell)) hbd
     have hBv:∀q,Bk v' q↔blk v'=some q:=λq=>by rw[hvs'];exact il
     have hBj:∀q,Bk vs[j] q↔blk vs[j]=some q:=λq=>v6 hR;have hin:∀q,Bk vs[j] q->Bk (σ n) q:=λq hq=>by rw[hv'];exact uD (cg _ (kz hjv)) ((hBj q).1 hq)
     have hnew:∀q,blk v'=some q->((.slice A xs.length cap::vs:List Value)[j+1]?.bind blk=some q)\/∀v∈(.slice A xs.length cap::vs:List Value),blk v≠some q:=by
      intro q hq;rcases g7 q ((hBv q).2 hq) with h3|h3
      ·left;rw[kc,bj hjv];exact(hBj q).1 h3
      ·right;intro v hvm hvq;have:=xC (h.ent _ (tI hn)) q (by show Bk (σ n) q;rw[hv'];exact uD hvm hvq);omega
     have hstep:=vL (w':=w') h hE [n] nx (.apend j (xD xs j++ys) xs) (.tuple (.slice A xs.length cap::vs.set j v').toArray) hf
      (λq hq hno=>g2 q hq λhb'=>hno n (by simp) _ (tI hn) (hin q hb')) g3 g4 g5 g6
      (λq hq=>by
       obtain⟨v,hvm,hvq⟩:=hq;rcases bv.1 (lk.1 (mp.2 hvm)) with rfl|hvm;·exact .inl ⟨n,by simp,⟨_,tI hn⟩,by rw[hv'];exact uD de hvq⟩
       ·rcases nv hvm with hvm|rfl;·exact .inl ⟨n,by simp,⟨_,tI hn⟩,by rw[hv'];exact uD (cg _ hvm) hvq⟩
        ·exact(g7 q ((hBv q).2 hvq)).imp (λh3=>⟨n,by simp,⟨_,tI hn⟩,hin q h3⟩) id)
      (λhso hanti=>by
       show ArR _ _ _ _ _ _/\_;rw[tQ];refine⟨⟨A,cap,vs.set j v',rfl,by simpa using hl,bp _,?_,λq hq=>?_,?_⟩,hj⟩;·exact A0o (j:=j+1) hnd hnew
       ·rw[List.length_set] at hq;by_cases e':q=j
        ·subst e';refine⟨xD xs q++ys,by rw[List.getElem_set_self];exact g8 _ hso hanti,λx _ hne=>absurd rfl hne,λp hp _=>by cases hp;rfl⟩
        ·obtain⟨zs,hRq,hzq,_⟩:=hown q hq;refine⟨zs,?_,λx hx hne=>hzq x hx (by simp),λp hp hpq=>by cases hp;exact(e' hpq.symm).elim⟩;rw[List.getElem_set_ne (mh e')];refine vU hso hanti (λb hb=>g2 b (zG hRq ((v6 hRq).1 hb)) λhb'=>?_) hRq;exact A09 (i:=q+1) (j:=j+1) hnd (by omega) (by rw[kc];exact bj hq) (by rw[kc];exact bj hjv) ((v6 hRq).1 hb) ((hBj b).1 hb')
       ·rcases hrow with hrow|⟨hp,hlc,b,off,c,e2,rfl,hh,hsz,hcells⟩;·exact .inl hrow
        ·have hbj:¬Bk vs[j] b:=λhb'=>A09 (i:=0) (j:=j+1) hnd (by omega) rfl (by rw[kc];exact bj hjv) (uG hp.1) ((hBj b).1 hb');refine .inr ⟨hp,hlc,b,off,c,e2,rfl,(g2 b (dg.1 hh).1 hbj).trans hh,hsz,λq hq=>?_⟩;obtain⟨cs,hcs,hr⟩:=hcells q hq;refine⟨cs,hcs,?_⟩;rw[if_pos hq] at hr ⊢;obtain⟨u,hu1,hu2,hu3⟩:=hr;refine⟨u,hu1,hu2,λhne=>?_⟩;have:j≠q:=λe'=>hne (by simp[e']);rw[List.getElem?_set_ne this];exact hu3 (by simp))
     refine⟨v',w',_,by rw[hsv,hxv];exact hrun,hstep.1,hstep.2,?_,λ_ hn=>tT hn,rfl,λs v hsv=>xV ?_ hsv⟩
     ·simp only[SVr,CVr,cmp,tQ,tl,kw];rw[bu,List.getElem?_set_self hjv,gt,hvs'];rfl
     ·have hnn:n≠nx:=(uI hf _ (tI hn)).1;rw[tQ,tT hnn,hv'];rfl
    ·cases hst
   ·cases hst
  ·cases hst
 ·cases hst
theorem A2f {xs:List aK.ty} {q:Option (Nat×List cK.ty)} (h:ArR O w v m xs q) {off:Nat} (hs:hd v=.slice (some ⟨b,off,none⟩) len cap) (hi:i<len) :
 ∃ vs,v=.tuple (.slice (some ⟨b,off,none⟩) xs.length cap :: vs).toArray∧len=xs.length∧vs.length=m∧m≤xs.length∧((.slice (some ⟨b,off,none⟩) xs.length cap :: vs).filterMap blk).Nodup∧
   (∀i (h:i<vs.length),∃zs,tV O w cK zs vs[i]/\(∀x,xs[i]? =some x->q.map di≠some i->zs=x.2.2.2.2)/\∀p,q=some p->p.1=i->zs=p.2)/\
   (0<cap/\cap<=9223372036854775807)/\xs.length<=cap/\∃c e,w.heap[b]? =some (.cells c e (0,0))/\off+cap*5<=c.size/\
    ∀ i (h:i<xs.length),∃ cs,(∀ j,j<5→c[off+i * 5+j]? = cs[j]?)∧
      if i<m then ∃u,cs=[.string xs[i].1,.int .i64 xs[i].2.1,.int .i64 xs[i].2.2.1,.int .i64 xs[i].2.2.2.1,u]/\u.oneCell'=true/\(q.map di≠some i->vs[i]? =some u)
      else aK.R O w xs[i] cs:=by
 obtain⟨A,cap',vs,rfl,h1,h2,h3,h4,h5⟩:=h;simp only[hd,oe] at hs;injection hs with e1 e2 e3;subst e1 e2 e3;rcases h5 with⟨_,rfl⟩|⟨hp,hl,b',off',c,e,eA,hh,hsz,hr⟩;·simp at hi
 ·injection eA with eA;injection eA with e1 e2 _;subst e1 e2;exact⟨vs,rfl,rfl,h1,h2,h3,h4,hp,hl,c,e,hh,hsz,hr⟩
def A0J (P:Program) (Γ:Env) (H:tG) (nx:Nat) (t:TypeId) (p x:Operand):Option u4:=
 match u7 P t,evc Γ p,evc Γ x with
 |some 1,some (.elt n 5 i 4),some (.elm n2 j)=>if n=n2 then
  match tJ H n with
  |some (.apend k zs xs)=>some ⟨.c (.val undef),(n,.aown (vZ xs k zs))::tO H n,nx,[i=k,j=k],id⟩
  |_=>none
  else none
 |some 1,some (.elt n 5 i 4),some (.h tn)=>match tJ H n,tJ H tn with
  |some (.arow m xs),some (.row (.pair (.int .i64) (.int .i64)) ys)=>if n≠tn/\tY nx Γ H=true then
   some ⟨.c (.val undef),(nx,.arow (m+1) (vZ xs m ys))::tW H [n,tn],nx+1,[i=m],reH n nx⟩ else none
  |_,_=>none
 |_,_,_=>none
theorem A0f {c:Array Value} {off:Nat} (h:off+i*5+4<c.size) (j q:Nat) (hq:q<5) :
 (c.toList.take (off+i*5+4)++[u]++c.toList.drop (off+i*5+4+1)).toArray[off+j*5+q]? =if j=i/\q=4 then some u else c[off+j*5+q]?:=by
 have hs:=vQ c.toList [u] (off+i*5+4) (off+j*5+q) (by simp;omega);rw[fh,gd];simp only[gk,eb,ew] at hs;rw[hs];by_cases e:j=i/\q=4
 ·obtain⟨rfl,rfl⟩:=e;rw[if_neg (by omega),if_pos (by omega),if_pos ⟨rfl,rfl⟩];simp
 ·rw[if_neg e];by_cases h1:off+j*5+q<off+i*5+4;·rw[if_pos h1];simp
  ·rw[if_neg h1,if_neg (by omega)];simp
theorem A7E {C:FC} (h:tK C σ H w) (hE:tM C σ H w Γ a) {p:Operand} (hst:A0J P Γ H nx t p x=some out) (hc:tL out.c) :
 ∃ b off w' σ',a.eval p=.pointer (some ⟨b,off,none⟩)∧(storeVar t ⟨b,off,none⟩ (a.eval x)).run P w=.ok () w'∧tK C σ' out.H w'∧u6 C σ σ' H out.H w w' Γ a∧out.v=.c (.val undef)∧(∀ n,n≠nx∨out.nx=nx→σ' n=σ n)∧nx≤out.nx∧
   ∀s v,CVr (Ow C.G out.H σ') w' σ' s v->CVr (Ow C.G out.H σ') w' σ' (out.f s) v:=by
 unfold A0J at hst;split at hst
 ·rename_i n i n2 j hz hp hx;split at hst
  ·rename_i hnn;subst hnn;split at hst
   ·rename_i k zs xs hn;cases hst;simp only[tL] at hc;obtain⟨rfl,rfl⟩:=hc;have hpr:=tX hE hp;have hxr:=tX hE hx;obtain⟨b,off,len,cap,hs,hi,hpv⟩:=hpr;obtain⟨hAr,_⟩:=h.ent _ (tI hn);obtain⟨vs,hv',hlen,hl,_,hnd,hown,hp0,hlc,c,e,hh,hsz,hcells⟩:=A2f hAr hs hi;have hiv:j<vs.length:=by omega
    obtain⟨zs',hR,_,hz2⟩:=hown j hiv;have hzz:zs'=zs:=hz2 _ rfl rfl;subst hzz;have hxv:a.eval x=vs[j]:=by simp only[CVr,cmp,hv',tl,kw] at hxr;rw[hxr,bu,bj hiv,gt];obtain⟨A',cap',e',_⟩:=hR;rw[e'];rfl
    have hone:vs[j].oneCell'=true:=by obtain⟨A',cap',e',_⟩:=hR;rw[e'];rfl
    have hfit:off+j*5+4<c.size:=by omega
    have hst:=run_storeCells_at P b (off+j*5+4) e [vs[j]] 0 c w hh (by simp;omega) (by simpa using hone);simp only[ee,gk,eb,ew] at hst;have hvn:σ n=.tuple (.slice (some ⟨b,off,none⟩) xs.length cap::vs).toArray:=hv';have hbb:Bk (σ n) b:=by rw[hvn];exact uD de (uG hp0.1)
    have hne:∀q (hq:q<vs.length),¬Bk vs[q] b:=λq hq hb'=>by obtain⟨zq,hRq,_⟩:=hown q hq;exact A09 (i:=0) (j:=q+1) hnd (by omega) rfl (by rw[kc];exact bj hq) (uG hp0.1) ((v6 hRq).1 hb')
    have hstep:=y6 (w':=w.setRow b (c.toList.take (off+j*5+4)++[vs[j]]++c.toList.drop (off+j*5+4+1)).toArray) h hE hn (λq _ hq=>setRow_other w b q _ (λe=>hq (e▸hbb))) (by simp[mg]) rfl rfl rfl (e':=.aown (vZ xs j zs'))
     (λhso=>by
      show ArR _ _ _ _ _ _;rw[hvn];refine⟨_,cap,vs,by rw[vK],by rw[vK];exact hl,bp _,by rw[vK];exact hnd,λq hq=>?_,.inr ⟨hp0,by rw[vK];exact hlc,b,off,_,e,rfl,setRow_heap w b c _ e _ hh,?_,λq hq=>?_⟩⟩
      ·obtain⟨zq,hRq,hz3,hz4⟩:=hown q hq;refine⟨zq,vU hso (λ_ _ h=>h) (λb2 hb2=>setRow_other w b b2 _ (λe=>hne q hq (e▸hb2))) hRq,λy hy _=>?_,λp hp=>by cases hp⟩;have hqx:q<xs.length:=by omega
       have hq2:q<(vZ xs j zs').length:=by rw[vK];exact hqx
       rw[bj hq2] at hy;have hy:=fg hy;rw[A0F hq2 hqx] at hy;by_cases e':q=j
       ·subst e';rw[if_pos rfl] at hy;rw[<-hy];exact hz4 _ rfl rfl
       ·rw[if_neg e'] at hy;rw[<-hy];exact hz3 _ (bj hqx) (by simpa using mh e')
      ·simp only[ge,cy,co,cq,ep,gk,eb];omega
      ·have hqx:q<xs.length:=by rw[vK] at hq;exact hq
       obtain⟨cs,hcs,hr⟩:=hcells q hqx;rw[if_pos hqx] at hr;obtain⟨u,rfl,hu1,hu2⟩:=hr;rw[A0F hq hqx];by_cases e':q=j
       ·subst e';refine⟨[.string xs[q].1,.int .i64 xs[q].2.1,.int .i64 xs[q].2.2.1,.int .i64 xs[q].2.2.2.1,vs[q]],λr hr=>?_,?_⟩
        ·rw[A0f hfit q r hr];by_cases e4:r=4;·subst e4;simp
         ·rw[if_neg (by simp[e4]),hcs r hr];match r,hr,e4 with
          |0,_,_=>rfl
          |1,_,_=>rfl
          |2,_,_=>rfl
          |3,_,_=>rfl
          |4,_,e4=>exact(e4 rfl).elim
        ·rw[if_pos (by rw[vK];exact hqx),if_pos rfl];exact⟨_,rfl,hone,λ_=>bj hiv⟩
       ·refine⟨_,λr hr=>by rw[A0f hfit q r hr,if_neg (λhh=>e' hh.1)];exact hcs r hr,?_⟩;rw[if_pos (by rw[vK];exact hqx),if_neg e'];exact⟨u,rfl,hu1,λ_=>hu2 (by simpa using mh e')⟩)
    refine⟨b,_,_,σ,hpv,?_,hstep.1,hstep.2,rfl,λ_ _=>rfl,bp _,λ_ _ h=>h⟩;rw[hxv];simp[storeVar,A0A hone,uK hz];simpa using hst
   ·cases hst
  ·cases hst
 ·rename_i n i tn hz hp hx;split at hst
  ·rename_i m xs ys hn htn;split at hst
   ·rename_i hcond;obtain⟨hnt,hf⟩:=hcond;cases hst;simp only[tL] at hc;subst hc;have hpr:=tX hE hp;have hxr:=tX hE hx;obtain⟨b,off,len,cap,hs,hi,hpv⟩:=hpr;have hAr:=h.ent _ (tI hn);obtain⟨vs,hv',hlen,hl,hle,hnd,hown,hp0,hlc,c,e,hh,hsz,hcells⟩:=A2f hAr hs hi;have hvn:σ n=.tuple (.slice (some ⟨b,off,none⟩) xs.length cap::vs).toArray:=hv';have hRt:tV (Ow C.G H σ) w cK ys (σ tn):=h.ent _ (tI htn);simp only[CVr] at hxr;rw[v8 hRt] at hxr;have hone:(σ tn).oneCell'=true:=by obtain⟨A',cap',e',_⟩:=hRt;rw[e'];rfl
    have hfit:off+i*5+4<c.size:=by omega
    have hst:=run_storeCells_at P b (off+i*5+4) e [σ tn] 0 c w hh (by simp;omega) (by simpa using hone);simp only[ee,gk,eb,ew] at hst;have hbb:Bk (σ n) b:=by rw[hvn];exact uD de (uG hp0.1)
    have hne:∀q (hq:q<vs.length),¬Bk vs[q] b:=λq hq hb'=>by obtain⟨zq,hRq,_⟩:=hown q hq;exact A09 (i:=0) (j:=q+1) hnd (by omega) rfl (by rw[kc];exact bj hq) (uG hp0.1) ((v6 hRq).1 hb')
    have hdt:∀q,Bk (σ n) q->¬Bk (σ tn) q:=λq=>h.disj _ (tI hn) _ (tI htn) hnt q;have hstep:=vL (w':=w.setRow b (c.toList.take (off+i*5+4)++[σ tn]++c.toList.drop (off+i*5+4+1)).toArray) h hE [n,tn] nx (.arow (i+1) (vZ xs i ys)) (.tuple (.slice (some ⟨b,off,none⟩) xs.length cap::(vs++[σ tn])).toArray) hf
     (λq _ hno=>setRow_other w b q _ (λe=>hno n (by simp) _ (tI hn) (e▸hbb))) (by simp[mg]) rfl rfl rfl
     (λq hq=>by
      obtain⟨v,hvm,hvq⟩:=hq;rcases bv.1 (lk.1 (mp.2 hvm)) with rfl|hvm;·exact .inl ⟨n,by simp,⟨_,tI hn⟩,by rw[hvn];exact uD de hvq⟩
      ·rcases cf.1 hvm with hvm|hvm;·exact .inl ⟨n,by simp,⟨_,tI hn⟩,by rw[hvn];exact uD (cg _ hvm) hvq⟩
       ·simp at hvm;subst hvm;exact .inl ⟨tn,by simp,⟨_,tI htn⟩,(v6 hRt).2 hvq⟩)
     (λhso hanti=>by
      show ArR _ _ _ _ _ _;rw[tQ];refine⟨_,cap,vs++[σ tn],by rw[vK],by simp[hl],by rw[vK];omega,?_,λq hq=>?_,.inr ⟨hp0,by rw[vK];exact hlc,b,off,_,e,rfl,setRow_heap w b c _ e _ hh,?_,λq hq=>?_⟩⟩
      ·rw[vK];exact A22 (l:=.slice (some ⟨b,off,none⟩) xs.length cap::vs) hnd (λq hq v hvm hvq=>hdt q (by rw[hvn];exact uD hvm hvq) ((v6 hRt).2 hq))
      ·by_cases hql:q<vs.length
       ·obtain⟨zq,hRq,hz3,_⟩:=hown q hql;refine⟨zq,by rw[List.getElem_append_left hql];exact vU hso hanti (λb2 hb2=>setRow_other w b b2 _ (λe=>hne q hql (e▸hb2))) hRq,λy hy _=>?_,λp hp=>by cases hp⟩;have hqx:q<xs.length:=by omega
        have hq2:q<(vZ xs i ys).length:=by rw[vK];exact hqx
        rw[bj hq2] at hy;have hy:=fg hy;rw[A0F hq2 hqx,if_neg (by omega)] at hy;rw[<-hy];exact hz3 _ (bj hqx) (by simp)
       ·have hqi:q=vs.length:=by simp at hq;omega
        subst hqi;refine⟨ys,by rw[List.getElem_append_right (bp _)];simp only[Nat.sub_self,List.getElem_cons_zero];exact vU hso hanti (λb2 hb2=>setRow_other w b b2 _ (λe=>hdt b hbb (e▸hb2))) hRt,λy hy _=>?_,λp hp=>by cases hp⟩;have hqx:vs.length<xs.length:=by omega
        have hq2:vs.length<(vZ xs i ys).length:=by rw[vK];exact hqx
        rw[bj hq2] at hy;have hy:=fg hy;rw[A0F hq2 hqx,if_pos hl] at hy;rw[<-hy]
      ·simp only[ge,cy,co,cq,ep,gk,eb];omega
      ·have hqx:q<xs.length:=by rw[vK] at hq;exact hq
       obtain⟨cs,hcs,hr⟩:=hcells q hqx;rw[A0F hq hqx];by_cases e':q=i
       ·subst e';rw[if_neg (by omega)] at hr;obtain⟨x1,r1,rfl,e1,x2,r2,rfl,e2,x3,r3,rfl,e3,x4,r4,rfl,e4,e5⟩:=hr;simp only[Kd.R] at e1 e2 e3 e4;subst e1 e2 e3 e4;refine⟨[.string xs[q].1,.int .i64 xs[q].2.1,.int .i64 xs[q].2.2.1,.int .i64 xs[q].2.2.2.1,σ tn],λr hr=>?_,?_⟩
        ·rw[A0f hfit q r hr];by_cases e4:r=4;·subst e4;simp
         ·rw[if_neg (by simp[e4]),hcs r hr];match r,hr,e4 with
          |0,_,_=>rfl
          |1,_,_=>rfl
          |2,_,_=>rfl
          |3,_,_=>rfl
          |4,_,e4=>exact(e4 rfl).elim
        ·rw[if_pos (by omega),if_pos rfl];exact⟨_,rfl,hone,λ_=>by rw[dd (by omega)];simp[hl]⟩
       ·refine⟨cs,λr hr=>by rw[A0f hfit q r hr,if_neg (λhh=>e' hh.1)];exact hcs r hr,?_⟩;rw[if_neg e'];by_cases hqi:q<i
        ·rw[if_pos hqi] at hr;rw[if_pos (by omega)];obtain⟨u,hu0,hu1,hu2⟩:=hr;exact⟨u,hu0,hu1,λhh=>by rw[dk (by omega)];exact hu2 hh⟩
        ·rw[if_neg hqi] at hr;rw[if_neg (by omega)];exact uX hso hanti hr)
    have hnn:n≠nx:=(uI hf _ (tI hn)).1;refine⟨b,_,_,_,hpv,?_,hstep.1,hstep.2,rfl,λq hq=>tT (by rcases hq with hq|hq;exact hq;simp at hq),by simp,λs v hsv=>xV ?_ hsv⟩
    ·rw[hxr];simp[storeVar,A0A hone,uK hz];simpa using hst
    ·rw[tQ,tT hnn,hvn];rfl
   ·cases hst
  ·cases hst
 ·cases hst
theorem A4v {xs:List aK.ty} (h:ArR O w v xs.length xs none) {vs:List Value} (hv:v=.tuple (.slice A xs.length cap::vs).toArray) :
 ∃ us:List Value,us.length=xs.length * 5∧(∀ u∈us,u.oneCell'=true)∧(∀ j u,us[j]? = some u→∃ b off,A=some ⟨b,off,none⟩∧w.cell? ⟨b,off+j,none⟩=some u)∧
   ∀i (h:i<xs.length),∃u,(∀j,j<5->us[i*5+j]? =[.string xs[i].1,.int .i64 xs[i].2.1,.int .i64 xs[i].2.2.1,.int .i64 xs[i].2.2.2.1,u][j]?)/\u.oneCell'=true/\vs[i]? =some u:=by
 obtain⟨A',cap',vs',hv',h1,_,_,_,h5⟩:=h;rw[hv] at hv';simp only[Value.tuple.injEq,List.toArray_inj,ia,Value.slice.injEq] at hv';obtain⟨⟨rfl,_,rfl⟩,rfl⟩:=hv';rcases h5 with⟨_,rfl⟩|⟨hp,hl,b,off,c,e,rfl,hh,hsz,hr⟩;·exact⟨[],by simp,by simp,by simp,λi hi=>by simp at hi⟩
 ·have hget:∀i (h:i<xs.length) j,j<5->∃u,c[off+i*5+j]? =some u/\u.oneCell'=true:=by
   intro i hi j hj;obtain⟨cs,hcs,hu⟩:=hr i hi;rw[if_pos hi] at hu;obtain⟨u,rfl,hu1,_⟩:=hu;rw[hcs j hj];match j,hj with
   |0,_=>exact⟨_,rfl,rfl⟩
   |1,_=>exact⟨_,rfl,rfl⟩
   |2,_=>exact⟨_,rfl,rfl⟩
   |3,_=>exact⟨_,rfl,rfl⟩
   |4,_=>exact⟨_,rfl,hu1⟩
  refine⟨(c.toList.drop off).take (xs.length*5),by simp;omega,λu hu=>?_,λj u hu=>?_,λi hi=>?_⟩
  ·obtain⟨j,hj,rfl⟩:=fe hu;simp only[co,cq,ep] at hj;obtain⟨h1,h2,h3⟩:=A3t (n:=xs.length) (s:=5) (q:=j) (by omega) (by omega);obtain⟨u,hu1,hu2⟩:=hget _ h1 _ h2;have:((c.toList.drop off).take (xs.length*5))[j]? =some u:=by
    rw[gv,if_pos (by omega),ft,ig,<-hu1];congr 1;omega
   rw[bj (by simp;omega)] at this;rw[fg this];exact hu2
  ·refine⟨b,off,rfl,?_⟩;rw[cell_of_row w b _ c e (0,0) hh];rw[gv] at hu;split at hu;·rw[ft,ig] at hu;exact hu
   ·cases hu
  ·obtain⟨cs,hcs,hu⟩:=hr i hi;rw[if_pos hi] at hu;obtain⟨u,rfl,hu1,hu2⟩:=hu;refine⟨u,λj hj=>?_,hu1,hu2 (by simp)⟩;rw[<-hcs j hj,gv,if_pos (by omega),ft,ig];congr 1;omega
def zQ (P:Program) (Γ:Env) (H:tG) (nx:Nat) (td ts:TypeId) (d s:Operand):Option u4:=
 match P.underlying td,P.underlying ts,evc Γ d,evc Γ s with
 |some (.slice e),some (.slice _),some (.h dn),some (.h sn)=>match u7 P e,tJ H dn,tJ H sn with
  | some 5,some (.row (.pair .str (.pair (.int .i64) (.pair (.int .i64) (.pair (.int .i64) (.slice (.pair (.int .i64) (.int .i64))))))) ds),some (.aown xs) =>
    if dn≠sn/\tY nx Γ H=true then some ⟨.c (.val (.int .i64 (xs.length:Nat))),(nx,.aown xs)::tW H [dn,sn],nx+1,[List.length ds=xs.length],reH dn nx⟩ else none
  |_,_,_=>none
 |_,_,_,_=>none
theorem A5u {C:FC} (h:tK C σ H w) (hE:tM C σ H w Γ a) {td:TypeId} {d:Operand} (hst:zQ P Γ H nx td ts d s=some out) (hc:tL out.c) :
 ∃ u w' σ',(lm #[td,ts] ty #[a.eval d,a.eval s]).run P w=.ok u w'∧tK C σ' out.H w'∧u6 C σ σ' H out.H w w' Γ a∧SVr (Ow C.G out.H σ') w' σ' out.v u∧(∀ n,n≠nx→σ' n=σ n)∧out.nx=nx+1∧
   ∀s v,CVr (Ow C.G out.H σ') w' σ' s v->CVr (Ow C.G out.H σ') w' σ' (out.f s) v:=by
 unfold zQ at hst;split at hst
 ·rename_i e e2 dn sn hu hu2 hd0 hs0;split at hst
  ·rename_i ds xs hz hdn hsn;split at hst
   ·rename_i hcond;obtain⟨hne,hf⟩:=hcond;cases hst;simp only[tL] at hc;have hdr:=tX hE hd0;have hsr:=tX hE hs0;simp only[CVr] at hdr hsr;have hAr:=h.ent _ (tI hsn);have hAr':=hAr;obtain⟨A,cap,vs,hv,hl,_,hnd,hown,hrow⟩:=hAr';have hv':σ sn=.tuple (.slice A xs.length cap::vs).toArray:=hv;obtain⟨us,hul,hone,hcell,hus⟩:=A4v hAr hv';have hRd:tV (Ow C.G H σ) w aK ds (σ dn):=h.ent _ (tI hdn);rw[v8 hRd] at hdr;have hRd':=hRd;obtain⟨Ad,capd,hsd,hrd⟩:=hRd';have hf1:(ib 5 xs.length (.slice A xs.length cap)).run P w=.ok us.toArray w:=wG hul w hcell;have hdt:∀q,Bk (σ dn) q->¬Bk (σ sn) q:=λq=>h.disj _ (tI hdn) _ (tI hsn) hne q;have hdnx:dn≠nx:=(uI hf _ (tI hdn)).1;have key:∃w',(lm #[td,ts] ty #[.slice Ad ds.length capd,.slice A xs.length cap]).run P w=.ok (.int .i64 (xs.length:Nat)) w'/\(∀b,¬Bk (σ dn) b->w'.heap[b]? =w.heap[b]?)/\w'.heap.size=w.heap.size/\w'.os=w.os/\w'.tape=w.tape/\w'.output=w.output/\
     ((capd=0/\xs=[])\/((0<capd/\capd<=9223372036854775807)/\xs.length<=capd/\∃b off c e,Ad=some ⟨b,off,none⟩/\w'.heap[b]? =some (.cells c e (0,0))/\off+capd*5<=c.size/\∀j,j<us.length->c[off+j]? =us[j]?)):=by
     rcases hrd with⟨rfl,hnil⟩|⟨hp,hlc,b,off,c,e3,rfl,hh,hsz,_⟩
     ·have hx0:xs=[]:=bx (by rw[<-hc,hnil];rfl);subst hx0;have hu0:us=[]:=bx (by simpa using hul);subst hu0;rw[hnil];refine⟨w,?_,λ_ _=>rfl,rfl,rfl,rfl,rfl,.inl ⟨rfl,rfl⟩⟩;have hf1':(ib 5 0 (.slice A 0 cap)).run P w=.ok #[] w:=by simpa using hf1
      cases Ad<;>simp[lm,run_underlying hu,ld,uK hz,hf1',storeCells,goInt]
     ·have hfit:off+us.length<=c.size:=by
       have:ds.length*5<=capd*5:=dl _ hlc;simp only[Kd.sz] at hsz;omega
      have hst:=run_storeCells_at P b off e3 us 0 c w hh (by omega) hone;simp only[ee] at hst;have hbb:Bk (σ dn) b:=by rw[hsd];exact uG hp.1
      refine⟨w.setRow b (c.toList.take off++us++c.toList.drop (off+us.length)).toArray,?_,λq hq=>setRow_other w b q _ (λe=>hq (e▸hbb)),by simp[mg],rfl,rfl,rfl,.inr ⟨hp,by omega,b,off,_,e3,rfl,setRow_heap w b c _ e3 _ hh,?_,λj hj=>?_⟩⟩
      ·have hmin:Nat.min xs.length ds.length=xs.length:=by rw[hc];exact Nat.min_self _
       have hf2:=hf1;simp only[lm,run_underlying hu,ld,uK hz,fh];simp[run_underlying hu,uK hz,hmin,hf1,hst,goInt]
      ·simp only[ge,cy,co,cq,ep];simp only[Kd.sz] at hsz;omega
      ·rw[fh,gd,vQ _ _ _ _ (by simp;omega),if_neg (by omega),if_pos (by omega)];congr 1;omega
    obtain⟨w',hrun,g2,g3,g4,g5,g6,g7⟩:=key;have hstep:=vL (w':=w') h hE [dn,sn] nx (.aown xs) (.tuple (.slice Ad xs.length capd::vs).toArray) hf
     (λq _ hno=>g2 q (hno dn (by simp) _ (tI hdn))) (by omega) g4 g5 g6
     (λq hq=>by
      obtain⟨v,hvm,hvq⟩:=hq;rcases bv.1 (lk.1 (mp.2 hvm)) with rfl|hvm
      ·refine .inl ⟨dn,by simp,⟨_,tI hdn⟩,?_⟩;rw[hsd];cases Ad with
       |none=>cases hvq
       |some A=>exact hvq
      ·exact .inl ⟨sn,by simp,⟨_,tI hsn⟩,by rw[hv'];exact uD (cg _ hvm) hvq⟩)
     (λhso hanti=>by
      show ArR _ _ _ _ _ _;rw[tQ];refine⟨Ad,capd,vs,rfl,hl,bp _,?_,λq hq=>?_,?_⟩
      ·rw[dc];have hnd':(vs.filterMap blk).Nodup:=by
        rw[dc] at hnd;split at hnd;·exact hnd
        ·exact(dy.1 hnd).2
       split;·exact hnd'
       ·rename_i b hb;refine dy.2 ⟨λhm=>?_,hnd'⟩;obtain⟨v,hvm,hvq⟩:=ez.1 hm;refine hdt b ?_ (by rw[hv'];exact uD (cg _ hvm) hvq);rw[hsd];cases Ad with
        |none=>cases hb
        |some A=>exact hb
      ·obtain⟨zs,hR,hz3,_⟩:=hown q hq;exact⟨zs,vU hso hanti (λb hb=>g2 b (λhb'=>hdt b hb' (by rw[hv'];exact uD (cg _ (kz hq)) ((v6 hR).1 hb)))) hR,hz3,λp hp=>by cases hp⟩
      ·rcases g7 with g7|⟨hp,hlc,b,off,c,e3,rfl,hh,hsz,hcs⟩;·exact .inl g7
       ·refine .inr ⟨hp,hlc,b,off,c,e3,rfl,hh,hsz,λq hq=>?_⟩;obtain⟨u,hu1,hu2,hu3⟩:=hus q hq;refine⟨_,λj hj=>?_,by rw[if_pos hq];exact⟨u,rfl,hu2,λ_=>hu3⟩⟩;rw[<-hu1 j hj,lc];exact hcs _ (by omega))
    refine⟨_,w',_,by rw[hdr,hsd,hsr,hv'];exact hrun,hstep.1,hstep.2,rfl,λ_ hn=>tT hn,rfl,λs v hsv=>xV ?_ hsv⟩;rw[tQ,tT hdnx,hsd];simp[hd,hc]
   ·cases hst
  ·cases hst
 ·cases hst
theorem A2i {O:Nat->Prop} {w:World} {σ:Nat->Value} {x:CV} {u:Value} (hx:CVr O w σ x u):∀{l:List CV} {vs:List Value} {i:Nat},CVs O w σ l vs->CVs O w σ (l.set i x) (vs.set i u)
 |[],[],_,_=>by simp[CVs]
 |_::_,_::_,0,h=>⟨hx,h.2⟩
 |_::_,_::_,i+1,h=>⟨h.1,A2i hx (i:=i) h.2⟩
 |[],_::_,_,h=>h.elim
 |_::_,[],_,h=>h.elim
theorem A62 {pre post:List CV} {o:Nat} {x:CV} (h:o<pre.length):uE (pre.set o x) bs post=(uE pre bs post).set o x:=by rw[uE,uE,sq _ _ h]
theorem A60 {pre post:List CV} {o:Nat} {v:Bool} (h:pre.length<=o) (h2:o<pre.length+bs.length):uE pre (bs.set (o-pre.length) v) post=(uE pre bs post).set o (.val (.bool v)):=by rw[uE,uE,jz _ _ h,sq _ _ (by simp;omega),List.map_set]
theorem A61 {pre post:List CV} {o k:Nat} {x:CV} (hk:bs.length=k) (h:pre.length+k<=o):uE pre bs (post.set (o-(pre.length+k)) x)=(uE pre bs post).set o x:=by rw[uE,uE,jz _ _ (by omega),jz _ _ (by simp;omega),du,hk,zn]
def ldA (P:Program) (H:tG) (t:TypeId) (p:CV):Option (CV×List Prop):=
 match p with
 |.cell n o=>match tJ H n with
  |some (.abox pre k bs post)=>match P.underlying t with
   |some .bool=>some (.val (.bool (bs.getD (o-pre.length) false)),[pre.length<=o,o<pre.length+k])
   |_=>if o<pre.length then (pre[o]?).map λx=>(x,[]) else if pre.length+k<=o then (post[o-(pre.length+k)]?).map λx=>(x,[]) else none
  |_=>none
 |_=>none
theorem A6H {P:Program} {C:FC} (h:tK C σ H w) {p q:CV} {cs:List Prop} (hst:ldA P H t p=some (q,cs)) (hc:tL cs) (hp:CVr (Ow C.G H σ) w σ p v) :
 ∃b off u,v=.pointer (some ⟨b,off,none⟩)/\w.cell? ⟨b,off,none⟩=some u/\CVr (Ow C.G H σ) w σ q u:=by
 unfold ldA at hst;split at hst
 ·rename_i n o;split at hst
  ·rename_i pre k bs post hm;obtain⟨hk,b,c,e,hs,hh,hcv⟩:=h.ent _ (tI hm);obtain⟨b',hb',rfl⟩:=hp;have hb2:hd (σ n)=.pointer (some ⟨b,0,none⟩):=hs.hd;rw[hb2] at hb';cases hb';have key:∀x,(uE pre bs post)[o]? =some x->∃b' off u,Value.pointer (some ⟨b,o,none⟩)=.pointer (some ⟨b',off,none⟩)/\w.cell? ⟨b',off,none⟩=some u/\CVr (Ow C.G H σ) w σ x u:=by
    intro x hx;obtain⟨u,hu,hr⟩:=wU hcv hx;refine⟨b,o,u,rfl,?_,hr⟩;have:=cell_of_row w b o c e (0,0) hh;rw[this];simpa using hu
   split at hst
   ·cases hst;simp only[tL] at hc;refine key _ ?_;rw[uE,dd hc.1,dk (by simp;omega),fu,bu,bj (by omega)];rfl
   ·split at hst
    ·rename_i hlt;obtain⟨x,hx,e⟩:=bf.1 hst;cases e;exact key _ (by rw[uE,dk hlt];exact hx)
    ·split at hst
     ·rename_i hge;obtain⟨x,hx,e⟩:=bf.1 hst;cases e;exact key _ (by rw[uE,dd (by omega),dd (by simp;omega),du,hk,zn];exact hx)
     ·cases hst
  ·cases hst
 ·cases hst
def stA (P:Program) (Γ:Env) (H:tG) (nx:Nat) (t:TypeId) (p x:Operand):Option u4:=
 match evc Γ p,evc Γ x with
 |some (.cell n o),some y=>match tJ H n with
  |some (.abox pre k bs post)=>if u7 P t=some 1/\y.oneIn H=true then
   match P.underlying t with
   |some .bool=>match y with
    |.val (.bool v)=>some ⟨.c (.val undef),(n,.abox pre k (bs.set (o-pre.length) v) post)::tO H n,nx,[pre.length<=o,o<pre.length+k],id⟩
    |_=>none
   | _ => if o<pre.length then some ⟨.c (.val undef),(n,.abox (pre.set o y) k bs post) :: tO H n,nx,[],id⟩
       else if pre.length+k<=o/\o<pre.length+k+post.length then some ⟨.c (.val undef),(n,.abox pre k bs (post.set (o-(pre.length+k)) y))::tO H n,nx,[],id⟩ else none
   else none
  |_=>none
 |_,_=>none
theorem A4k {P:Program} {p:Operand} (hs:stA P Γ H nx t p x=some out):nx<=out.nx:=by
 unfold stA at hs;repeat' (split at hs)
 all_goals first|(cases hs;done)|(cases hs;exact bp _)
theorem A73 {P:Program} {C:FC} (h:tK C σ H w) (hE:tM C σ H w Γ a) {p:Operand} (hst:stA P Γ H nx t p x=some out) (hc:tL out.c) :
 ∃b off w',a.eval p=.pointer (some ⟨b,off,none⟩)/\(storeVar t ⟨b,off,none⟩ (a.eval x)).run P w=.ok () w'/\tK C σ out.H w'/\u6 C σ σ H out.H w w' Γ a/\out.v=.c (.val undef)/\out.f=id:=by
 unfold stA at hst;split at hst
 ·rename_i n o y hp hx;have hp:=tX hE hp;have hx:=tX hE hx;split at hst
  ·rename_i pre k bs post hm;split at hst
   ·rename_i hcond;obtain⟨hz,ho⟩:=hcond;obtain⟨hk,b,c,e,hs,hh,hcv⟩:=h.ent _ (tI hm);obtain⟨b',hb',hpv⟩:=hp;have hb2:hd (σ n)=.pointer (some ⟨b,0,none⟩):=hs.hd;rw[hb2] at hb';cases hb';have hone:=A0p h ho hx;have hlc:=vH hcv;have hl:(uE pre bs post).length=pre.length+(k+post.length):=by simp[uE,hk]
    have key:∀pre' bs' post',o<pre.length+(k+post.length)->bs'.length=k->uE pre' bs' post'=(uE pre bs post).set o y->∃b off w',a.eval p=.pointer (some ⟨b,off,none⟩)/\(storeVar t ⟨b,off,none⟩ (a.eval x)).run P w=.ok () w'/\
     tK C σ ((n,.abox pre' k bs' post')::tO H n) w'/\u6 C σ σ H ((n,.abox pre' k bs' post')::tO H n) w w' Γ a:=by
     intro pre' bs' post' hlt hk' hfl;have hst:=run_storeCells_at P b o e [a.eval x] 0 c w hh (by simp at hlc ⊢;omega) (by simpa using hone);simp only[ee] at hst;have hO:Ow C.G H σ b:=.inr ⟨_,tI hm,hs.own⟩;have:=z7 h hE hm (b:=b) hs.own (e':=.abox pre' k bs' post') (c':=(c.toList.take o++[a.eval x]++c.toList.drop (o+1)).toArray)
      ⟨hk',b,_,e,hs,setRow_heap w b c _ e _ hh,by
       rw[hfl];have:c.toList.take o++[a.eval x]++c.toList.drop (o+1)=c.toList.set o (a.eval x):=by rw[List.set_eq_take_append_cons_drop,if_pos (by omega)];simp
       rw[List.toList_toArray,this];exact A2i (A0Q (yU hO) (λ_ _ h=>h) hx) (wH (yU hO) (λ_ _ h=>h) hcv)⟩
     refine⟨b,o,_,hpv,?_,this.1,this.2.1⟩;have hcl:(a.eval x).cells = #[a.eval x]:=A0A hone;simp[storeVar,hcl,uK hz,hst]
    split at hst
    ·split at hst
     ·rename_i v _;cases hst;simp only[tL] at hc;obtain⟨b,off,w',g1,g2,g3,g4⟩:=key pre (bs.set (o-pre.length) v) post (by omega) (by simp[hk]) (A60 hc.1 (by omega));exact⟨b,off,w',g1,g2,g3,g4,rfl,rfl⟩
     ·cases hst
    ·split at hst
     ·rename_i hlt;cases hst;obtain⟨b,off,w',g1,g2,g3,g4⟩:=key (pre.set o y) bs post (by omega) hk (A62 hlt);exact⟨b,off,w',g1,g2,g3,g4,rfl,rfl⟩
     ·split at hst
      ·rename_i hge;cases hst;obtain⟨b,off,w',g1,g2,g3,g4⟩:=key pre bs (post.set (o-(pre.length+k)) y) (by omega) hk (A61 hk hge.1);exact⟨b,off,w',g1,g2,g3,g4,rfl,rfl⟩
      ·cases hst
   ·cases hst
  ·cases hst
 ·cases hst
structure Out where
 v:SV
 H:tG
 nx:Nat
 c:List Prop
def A0a:List (Option CV)->Option (List Nat)
 |[]=>some []
 |some (.h n)::l=>(A0a l).map (n::·)
 |_::_=>none
def A26 (Γ:Env):Option Operand->Option (Option (IntKind×Int))
 |none=>some none
 |some x=>(evi Γ x).map some
def A24 (H:tG):CV->Bool
 |.h m=>match tJ H m with
  |some (.box _)|some (.abox _ _ _ _)=>true
  |_=>false
 |_=>true
def A6u (P:Program) (t:TypeId):Bool:=
 match P.underlying t with
 |some (.struct fs)=>match fs[0]? with
  |some fd=>match P.underlying fd.type with
   |some (.pointer t')=>t'==t
   |_=>false
  |none=>false
 |_=>false
def yZ (P:Program) (Γ:Env) (H:tG) (nx:Nat) (o:Oper):Option Out:=
 match o.op with
 |.move x|.assign x=>(evo Γ x).map λv=>⟨v,H,nx,[]⟩
 |.pick c x y=>match evc Γ c with
  |some (.val (.bool true))=>(evo Γ x).map λv=>⟨v,H,nx,[]⟩
  |some (.val (.bool false))=>(evo Γ y).map λv=>⟨v,H,nx,[]⟩
  |_=>none
 |.alloc t=>match uL P t with
  |some z=>if tY nx Γ H=true/\A6u P t=false then some ⟨.c (.h nx),(nx,.box (z.cells.toList.map CV.val))::H,nx+1,[]⟩ else none
  |none=>none
 |.box _ x=>match (evo Γ x).bind SV.cells with
  |some l=>if tY nx Γ H=true/\l.all (CV.oneIn H)=true/\l.any (CV.has nx)=false then some ⟨.c (.h nx),(nx,.box l)::H,nx+1,[]⟩ else none
  |none=>none
 |.build t parts=>(A2M P Γ H t parts).map λv=>⟨v,H,nx,[]⟩
 |.buildSlice t len parts=>(A2N P Γ H nx t len parts).map λr=>⟨.c r.1,r.2,nx+1,[]⟩
 |.load t x=>match evc Γ x with
  |some p=>(A12 P H t p).map λv=>⟨v,H,nx,[]⟩
  |none=>none
 |.store t p x=>match evc Γ p,evo Γ x with
  |some p,some x=>(A2W P H t p x).map λH'=>⟨.c (.val undef),H',nx,[]⟩
  |_,_=>none
 |.nilCheck x=>match evc Γ x with
  |some p=>(A2U H p).map λr=>⟨.c r.1,H,nx,r.2⟩
  |none=>none
 |.binOp op t x y _=>match evo Γ x,evo Γ y with
  |some x,some y=>(A2L P H op t x y).map λr=>⟨r.1,H,nx,r.2⟩
  |_,_=>none
 |.unOp op _ x=>match evc Γ x with
  |some x=>(A2X op x).map λv=>⟨.c v,H,nx,[]⟩
  |none=>none
 |.convert s d x=>match evc Γ x with
  |some x=>(A2O P H s d x).map λv=>⟨.c v,H,nx,[]⟩
  |none=>none
 |.makeFunc (.func f) first caps=>if first.size=0 then (A0a (caps.toList.map (evc Γ))).map λl=>⟨.c (.clo f l),H,nx,[]⟩ else none
 |.makeSlice t l c=>(A2T P Γ H nx t l c).map λr=>⟨.c r.1,r.2.1,nx+1,r.2.2⟩
 |.slice t x lo hi none=>match evc Γ x,A26 Γ lo,A26 Γ hi with
  |some x,some lo,some hi=>(A2V P H t x (lo.map (·.2)) (hi.map (·.2))).map λr=>⟨.c r.1,H,nx,r.2⟩
  |_,_,_=>none
 |.slice t x none (some hi) (some mx)=>match evc Γ x,evi Γ hi,evi Γ mx,P.underlying t with
  |some x,some (_,h),some (_,m),some (.slice e)=>if h=0/\m=0/\(A0y H x).isSome=true/\(u7 P e).isSome=true then some ⟨.c .zc,H,nx,[]⟩ else none
  |_,_,_,_=>none
 |.fieldAddr s x f=>match evc Γ x with
  |some p=>if A24 H p=true then (A2Q P s f p).map λq=>⟨.c q,H,nx,[]⟩ else none
  |none=>none
 |.field t x f=>match evo Γ x,zX P t f with
  |some (.agg l),some fd=>(yS P fd.type l fd.offset).map λv=>⟨v,H,nx,[]⟩
  |_,_=>none
 |.indexAddr t x i=>match evc Γ x,evi Γ i with
  |some x,some (_,n)=>(A2S P H t x n).map λr=>⟨.c r.1,H,nx,r.2⟩
  |_,_=>none
 |.index t x i=>match evo Γ x,evi Γ i with
  |some x,some (_,n)=>(A2R P t x n).map λr=>⟨r.1,H,nx,r.2⟩
  |_,_=>none
 |.extract x i=>match evo Γ x with
  |some (.tup l)=>match l[i]? with
   |some (true,cs)=>some ⟨.agg cs,H,nx,[]⟩
   |some (false,[y])=>some ⟨.c y,H,nx,[]⟩
   |_=>none
  |_=>none
 |.call {callee:= .builtin b,args,argTypes}=>match b,args.toList with
  |.append,[s,x]=>(A2K P Γ H nx argTypes s x).map λr=>⟨.c r.1,r.2.1,nx+1,r.2.2⟩
  |.copy,[d,s]=>(A2P P Γ H argTypes d s).map λr=>⟨.c r.1,r.2,nx,[]⟩
  |.len,xs=>(A4m P Γ H argTypes xs).map λv=>⟨.c v,H,nx,[]⟩
  |.max,xs=>(A14 true Γ xs).map λv=>⟨.c v,H,nx,[]⟩
  |.min,xs=>(A14 false Γ xs).map λv=>⟨.c v,H,nx,[]⟩
  |_,_=>none
 |.range t x=>match P.underlying t,evc Γ x with
  |some .string,some (.val (.string s))=>if tY nx Γ H=true then some ⟨.c (.h nx),(nx,.it s 0 none)::H,nx+1,[]⟩ else none
  |_,_=>none
 |.next x true=>match evc Γ x with
  |some (.h m)=>match tJ H m with
   |some (.it s pos (some true))=>some ⟨.tup [(false,[.val (.bool true)]),(false,[.val (.int .i64 ((pos:Nat):Int))]),(false,[.val (.int .i32 (((gj s pos).1:Nat):Int))])],(m,.it s (pos+(gj s pos).2) none)::tO H m,nx,[]⟩
   |some (.it _ _ (some false))=>some ⟨.tup [(false,[.val (.bool false)])],H,nx,[]⟩
   |_=>none
  |_=>none
 |_=>none
def A4x (P:Program) (C:FC) (σ:Nat->Value) (H:tG) (nx:Nat) (Γ:Env) (a:Act) (w:World) (o:Oper) (out:Out):Prop:=
 ∃u w' σ',((execOp a.eval o).run P w=.ok (.value u) w'\/((execOp a.eval o).run P w=.ok .skip w'/\u=undef))/\tK C σ' out.H w'/\u6 C σ σ' H out.H w w' Γ a/\SVr (Ow C.G out.H σ') w' σ' out.v u/\∀n,n≠nx\/out.nx=nx->σ' n=σ n
theorem A37 {C:FC} {σ:Nat->Value} {H:tG} {w:World} {Γ:Env} {a:Act} (hE:tM C σ H w Γ a):∀{xs:List Operand} {l:List Nat},A0a (xs.map (evc Γ))=some l->xs.map a.eval=l.map λn=>hd (σ n)
 |[],l,h=>by cases h;rfl
 | x :: xs,l,h => by
   simp only[dj] at h;cases hx:evc Γ x with
   |none=>rw[hx] at h;cases h
   | some v =>
     rw[hx] at h;cases v<;>first
      | (simp only [A0a] at h
         obtain⟨m,hm,rfl⟩:=bf.1 h
         have hv:=tX hE hx
         simp only[CVr] at hv
         simp[A37 hE hm,hv])
      |cases h
theorem A4J {C:FC} (hE:tM C σ H w Γ a) {x:Option Operand} {r:Option (IntKind×Int)} (h:A26 Γ x=some r) :
 ∃k,x.map a.eval=(r.map (·.2)).map (dh k):=by
 cases x with
 |none=>cases h;exact⟨.i64,rfl⟩
 | some x =>
   obtain⟨⟨k,n⟩,he,rfl⟩:=bf.1 h;exact⟨k,by simp[vR hE he]⟩
theorem A4o {C:FC} (h:tK C σ H w) (hE:tM C σ H w Γ a) {out:Out} (hs:yZ P Γ H nx o=some out) (hc:tL out.c):A4x P C σ H nx Γ a w o out:=by
 unfold yZ at hs;split at hs
 ·rename_i x ho;obtain⟨v,hv,rfl⟩:=bf.1 hs;exact⟨_,w,σ,.inl (by simp[execOp,ho]),h,.refl hE,vF hE hv,λ_ _=>rfl⟩
 ·rename_i x ho;obtain⟨v,hv,rfl⟩:=bf.1 hs;exact⟨_,w,σ,.inl (by simp[execOp,ho]),h,.refl hE,vF hE hv,λ_ _=>rfl⟩
 ·rename_i c x y ho;split at hs
  ·rename_i hb;obtain⟨v,hv,rfl⟩:=bf.1 hs;have hcv:=tX hE hb;simp only[CVr] at hcv;exact⟨_,w,σ,.inl (by simp[execOp,ho,hcv,asBool]),h,.refl hE,vF hE hv,λ_ _=>rfl⟩
  ·rename_i hb;obtain⟨v,hv,rfl⟩:=bf.1 hs;have hcv:=tX hE hb;simp only[CVr] at hcv;exact⟨_,w,σ,.inl (by simp[execOp,ho,hcv,asBool]),h,.refl hE,vF hE hv,λ_ _=>rfl⟩
  ·cases hs
 ·rename_i t ho;split at hs
  ·rename_i z hz;split at hs
   ·rename_i hf;have hf:=hf.1;cases hs;have hal:=A3A h hE hf (l:=z.cells.toList.map CV.val) (vs:=z.cells.toList) wY (by simp[CV.has]) t;exact⟨_,_,_,.inl (by simp[execOp,ho,vl,wK hz,newVar,newRow]),hal.1,hal.2,A1B (O:=λ_=>False) (w:=w),λ_ hn=>tT (hn.resolve_right (by simp))⟩
   ·cases hs
  ·cases hs
 ·rename_i t x ho;split at hs
  ·rename_i l hl;split at hs
   ·rename_i hcond;obtain⟨hf,h1,h2⟩:=hcond;cases hs;obtain⟨sv,he,hcs⟩:=cz.1 hl;obtain⟨us,hu,hus⟩:=A3O h hcs h1 (vF hE he);have hal:=A3A h hE hf hus h2 t;exact⟨_,_,_,.inl (by simp[execOp,ho,Instr.box,newVar,newRow,hu]),hal.1,hal.2,A1B (O:=λ_=>False) (w:=w),λ_ hn=>tT (hn.resolve_right (by simp))⟩
   ·cases hs
  ·cases hs
 ·rename_i t parts ho;obtain⟨v,hv,rfl⟩:=bf.1 hs;obtain⟨u,hr,hu⟩:=A78 (P:=P) h hE hv;exact⟨u,w,σ,.inl (by simp[execOp,ho,hr]),h,.refl hE,hu,λ_ _=>rfl⟩
 ·rename_i t len parts ho;obtain⟨⟨v,H'⟩,hv,rfl⟩:=bf.1 hs;obtain⟨u,w',σ',hr,h1,h2,h3,h4⟩:=A77 (P:=P) h hE hv;exact⟨u,w',σ',.inl (by simp[execOp,ho,hr]),h1,h2,h3,λn hn=>h4 n (hn.resolve_right (by simp))⟩
 ·rename_i t x ho;split at hs
  ·rename_i p hp;obtain⟨v,hv,rfl⟩:=bf.1 hs;obtain⟨b,off,u,hpv,hr,hu⟩:=A4X (P:=P) h (tX hE hp) hv;exact⟨u,w,σ,.inl (by simp[execOp,ho,re,hpv,kv,hr]),h,.refl hE,hu,λ_ _=>rfl⟩
  ·cases hs
 ·rename_i t p x ho;split at hs
  ·rename_i p' x' hp hx;obtain⟨H',hv,rfl⟩:=bf.1 hs;obtain⟨b,off,w',hpv,hr,h1,h2⟩:=A6s (P:=P) h hE (tX hE hp) (vF hE hx) hv;exact⟨undef,w',σ,.inr ⟨by simp[execOp,ho,qj,hpv,kv,hr],rfl⟩,h1,h2,rfl,λ_ _=>rfl⟩
  ·cases hs
 ·rename_i x ho;split at hs
  ·rename_i p hp;obtain⟨⟨q,cs⟩,hv,rfl⟩:=bf.1 hs;obtain⟨hr,hq⟩:=A7W (P:=P) h hv hc (tX hE hp);have he:execOp a.eval o=A1z (a.eval x):=by
    simp only[execOp,ho,A1z];rfl
   exact⟨_,w,σ,.inl (by rw[he];exact hr),h,.refl hE,hq,λ_ _=>rfl⟩
  ·cases hs
 ·rename_i op t x y yt ho;split at hs
  ·rename_i x' y' hx hy;obtain⟨⟨v,cs⟩,hv,rfl⟩:=bf.1 hs;obtain⟨r,hr,hu⟩:=A76 (P:=P) h hv hc (vF hE hx) (vF hE hy) x y;refine⟨r,w,σ,.inl ?_,h,.refl hE,hu,λ_ _=>rfl⟩;simp only[execOp,ho];rw[fp,hr];rfl
  ·cases hs
 ·rename_i op t x ho;split at hs
  ·rename_i x' hx;obtain⟨v,hv,rfl⟩:=bf.1 hs;obtain⟨u,hr,hu⟩:=A7Z (P:=P) (w:=w) hv (tX hE hx);exact⟨u,w,σ,.inl (by simp[execOp,ho,hr]),h,.refl hE,hu,λ_ _=>rfl⟩
  ·cases hs
 ·rename_i s d x ho;split at hs
  ·rename_i x' hx;obtain⟨v,hv,rfl⟩:=bf.1 hs;obtain⟨u,hr,hu⟩:=A7B (P:=P) h hv (tX hE hx);exact⟨u,w,σ,.inl (by simp[execOp,ho,hr]),h,.refl hE,hu,λ_ _=>rfl⟩
  ·cases hs
 ·rename_i f first caps ho
  split at hs
  ·rename_i hf;obtain⟨l,hl,rfl⟩:=bf.1 hs;have hfirst:first = #[]:=Array.eq_empty_of_size_eq_zero hf
   have hcaps:=A37 hE hl;refine⟨.func (.func f) #[] (l.map λn=>hd (σ n)).toArray,w,σ,.inl ?_,h,.refl hE,rfl,λ_ _=>rfl⟩;have:caps.map a.eval=(l.map λn=>hd (σ n)).toArray:=by rw[<-hcaps];apply ip;simp
   simp[execOp,ho,Instr.makeFunc,hfirst,this]
  ·cases hs
 ·rename_i t l c ho;obtain⟨⟨v,H',cs⟩,hv,rfl⟩:=bf.1 hs;obtain⟨u,w',σ',hr,h1,h2,h3,h4⟩:=A7Q (P:=P) h hE hv hc;exact⟨u,w',σ',.inl (by simp[execOp,ho,hr]),h1,h2,h3,λn hn=>h4 n (hn.resolve_right (by simp))⟩
 ·rename_i t x lo hi ho;split at hs
  ·rename_i x' lo' hi' hx hlo hhi;obtain⟨⟨v,cs⟩,hv,rfl⟩:=bf.1 hs;obtain⟨kl,el⟩:=A4J hE hlo;obtain⟨kh,eh⟩:=A4J hE hhi;obtain⟨u,hr,hu⟩:=A7Y (P:=P) (kl:=kl) (kh:=kh) h hv hc (tX hE hx);refine⟨u,w,σ,.inl ?_,h,.refl hE,hu,λ_ _=>rfl⟩;simp only[execOp,ho,el,eh,vv];rw[fp,hr];rfl
  ·cases hs
 ·rename_i t x hi mx ho;split at hs
  ·rename_i x' k1 h' k2 m' e hx hhi hmx hu;split at hs
   ·rename_i hcond;obtain⟨rfl,rfl,hsl,hsz⟩:=hcond;cases hs;obtain⟨n,hn⟩:=fz.1 hsl;obtain⟨sz,hz⟩:=fz.1 hsz;obtain⟨A,cap,hv,_⟩:=A4j h hn (tX hE hx);refine⟨.slice A 0 0,w,σ,.inl ?_,h,.refl hE,⟨A,rfl⟩,λ_ _=>rfl⟩;simp only[execOp,ho,vv,fy,hv,vR hE hhi,vR hE hmx];rw[fp,A6r hu hz w];rfl
   ·cases hs
  ·cases hs
 ·rename_i s x f ho;split at hs
  ·rename_i p hp;split at hs
   ·rename_i hbox;obtain⟨q,hq,rfl⟩:=bf.1 hs;obtain⟨u,hr,hu⟩:=A7G (P:=P) (C:=C) (σ:=σ) (H:=H) (w:=w) hq (λm e=>by
     subst e;simp only[A24] at hbox;split at hbox
     ·rename_i cs hm;obtain⟨b,c,e,hs',_⟩:=h.ent _ (tI hm);exact⟨b,hs'.hd⟩
     ·rename_i hm;obtain⟨_,b,c,e,hs',_⟩:=h.ent _ (tI hm);exact⟨b,hs'.hd⟩
     ·cases hbox) (tX hE hp)
    exact⟨u,w,σ,.inl (by simp[execOp,ho,hr]),h,.refl hE,hu,λ_ _=>rfl⟩
   ·cases hs
  ·cases hs
 ·rename_i t x f ho;split at hs
  ·rename_i l fd hx hf;obtain⟨v,hv,rfl⟩:=bf.1 hs;obtain⟨vs,hxv,hvs⟩:=vF hE hx;obtain⟨fs,hu,hff⟩:=A3f hf;obtain⟨u,hr,hu'⟩:=A0r (P:=P) hv hvs;exact⟨u,w,σ,.inl (by simp[execOp,ho,Instr.field,run_underlying hu,hff,hxv,asAgg,hr]),h,.refl hE,hu',λ_ _=>rfl⟩
  ·cases hs
 ·rename_i t x i ho;split at hs
  ·rename_i x' k n hx hi;obtain⟨⟨q,cs⟩,hv,rfl⟩:=bf.1 hs;obtain⟨u,hr,hu⟩:=A7I (P:=P) (k:=k) h hv hc (tX hE hx);exact⟨u,w,σ,.inl (by simp[execOp,ho,vR hE hi,hr]),h,.refl hE,hu,λ_ _=>rfl⟩
  ·cases hs
 ·rename_i t x i ho;split at hs
  ·rename_i x' k n hx hi;obtain⟨⟨q,cs⟩,hv,rfl⟩:=bf.1 hs;obtain⟨u,hr,hu⟩:=A7J (P:=P) (C:=C) (σ:=σ) (H:=H) (w:=w) (k:=k) hv hc (vF hE hx);exact⟨u,w,σ,.inl (by simp[execOp,ho,vR hE hi,hr]),h,.refl hE,hu,λ_ _=>rfl⟩
  ·cases hs
 ·rename_i x i ho;split at hs
  ·rename_i l hx;obtain⟨vs,hxv,hvs⟩:=vF hE hx;have key:∀{l:List (Bool×List CV)} {vs:List Value} {i:Nat} {p:Bool×List CV},PVs (Ow C.G H σ) w σ l vs->l[i]? =some p->∃u,vs[i]? =some u/\PVr (Ow C.G H σ) w σ p u:=by
    intro l;induction l with
    |nil=>intro vs i p _ hp;simp at hp
    | cons q l ih =>
      intro vs i p hq hp;cases vs with
      |nil=>exact hq.elim
      | cons v vs =>
        cases i with
        |zero=>simp only[gh,dw] at hp;subst hp;exact⟨v,rfl,hq.1⟩
        |succ i=>simpa using ih hq.2 (by simpa using hp)
   split at hs
   ·rename_i cs hl;cases hs;obtain⟨u,hu,hr⟩:=key hvs hl;exact⟨u,w,σ,.inl (by simp[execOp,ho,hxv,xm,hu]),h,.refl hE,hr,λ_ _=>rfl⟩
   ·rename_i y hl;cases hs;obtain⟨u,hu,hr⟩:=key hvs hl;exact⟨u,w,σ,.inl (by simp[execOp,ho,hxv,xm,hu]),h,.refl hE,hr,λ_ _=>rfl⟩
   ·cases hs
  ·cases hs
 ·rename_i b args argTypes ho;split at hs
  ·rename_i s x hargs;obtain⟨⟨v,H',cs⟩,hv,rfl⟩:=bf.1 hs;obtain⟨u,w',σ',hr,h1,h2,h3,h4⟩:=A75 (P:=P) (ty:=o.type) h hE hv hc;have ha:args.map a.eval = #[a.eval s,a.eval x]:=by rw[<-gr (xs:=args),hargs];simp
   exact⟨u,w',σ',.inl (by simp[execOp,ho,resolve,invoke,builtin,ha,hr]),h1,h2,h3,λn hn=>h4 n (hn.resolve_right (by simp))⟩
  ·rename_i d s hargs;obtain⟨⟨v,H'⟩,hv,rfl⟩:=bf.1 hs;obtain⟨u,w',hr,h1,h2,h3⟩:=A7C (P:=P) (ty:=o.type) h hE hv;have ha:args.map a.eval = #[a.eval d,a.eval s]:=by rw[<-gr (xs:=args),hargs];simp
   exact⟨u,w',σ,.inl (by simp[execOp,ho,resolve,invoke,builtin,ha,hr]),h1,h2,h3,λ_ _=>rfl⟩
  ·rename_i xs;obtain⟨v,hv,rfl⟩:=bf.1 hs;unfold A4m at hv;split at hv
   ·rename_i t x ht hx;split at hv
    ·rename_i s hu he;cases hv;have hxv:=tX hE he;simp only[CVr] at hxv;have ha:args.map a.eval = #[a.eval x]:=by rw[<-gr (xs:=args),hx];simp
     have ht':argTypes = #[t]:=by rw[<-gr (xs:=argTypes),ht]
     exact⟨.int .i64 s.size,w,σ,.inl (by simp[execOp,ho,resolve,invoke,builtin,ha,hxv,ht',pr,run_underlying hu,goInt]),h,.refl hE,rfl,λ_ _=>rfl⟩
    ·rename_i e y hu he;obtain⟨n,hn,rfl⟩:=bf.1 hv;obtain⟨A,cap,hxv,_⟩:=A4j h hn (tX hE he);have ha:args.map a.eval = #[a.eval x]:=by rw[<-gr (xs:=args),hx];simp
     have ht':argTypes = #[t]:=by rw[<-gr (xs:=argTypes),ht]
     exact⟨.int .i64 n,w,σ,.inl (by simp[execOp,ho,resolve,invoke,builtin,ha,hxv,ht',pr,run_underlying hu,goInt]),h,.refl hE,rfl,λ_ _=>rfl⟩
    ·cases hv
   ·cases hv
  ·rename_i xs;obtain⟨v,hv,rfl⟩:=bf.1 hs;unfold A14 at hv;split at hv;·cases hv
   ·rename_i x rest hx;split at hv
    ·rename_i k n he;obtain⟨ns,hns,rfl⟩:=bf.1 hv;have h1:=A1l hE hns;have ha:(args.map a.eval).toList=.int k n::ns.map (dh k):=by rw[ma,hx,dj,vR hE he,h1]
     refine⟨.int k (ns.foldl mx2 n),w,σ,.inl ?_,h,.refl hE,rfl,λ_ _=>rfl⟩;simp only[execOp,ho,resolve,fp,ie,ed,invoke,builtin,Builtin.max_,ha,A3j]
    ·cases hv
  ·rename_i xs;obtain⟨v,hv,rfl⟩:=bf.1 hs;unfold A14 at hv;split at hv;·cases hv
   ·rename_i x rest hx;split at hv
    ·rename_i k n he;obtain⟨ns,hns,rfl⟩:=bf.1 hv;have h1:=A1l hE hns;have ha:(args.map a.eval).toList=.int k n::ns.map (dh k):=by rw[ma,hx,dj,vR hE he,h1]
     refine⟨.int k (ns.foldl mn2 n),w,σ,.inl ?_,h,.refl hE,rfl,λ_ _=>rfl⟩;simp only[execOp,ho,resolve,fp,ie,ed,invoke,builtin,Builtin.min_,ha,A3k]
    ·cases hv
  ·cases hs
 ·rename_i t x ho;split at hs
  ·rename_i s hu he;split at hs
   ·rename_i hf;cases hs;have hxv:=tX hE he;simp only[CVr] at hxv;have hal:=A5c h hE hf s 0;exact⟨_,_,_,.inl (by simp only[execOp,ho,hxv,run_range_string w t s hu,fp,ed,ie];rfl),hal.1,hal.2,A1B (O:=λ_=>False) (w:=w),λ_ hn=>tT (hn.resolve_right (by simp))⟩
   ·cases hs
  ·cases hs
 ·rename_i x ho;split at hs
  ·rename_i m he;have hxv:a.eval x=hd (σ m):=tX hE he;split at hs
   ·rename_i s pos hm;cases hs;obtain⟨b,e1,e2,e3,_⟩:=h.ent _ (tI hm);have hpos:=e3 rfl;have hrun:(pw (.pointer (some ⟨b,0,none⟩)) true o.type).run P w=.ok (.tuple #[.bool true,.int .i64 pos,.int .i32 (gj s pos).1]) {w with heap:=w.heap.setIfInBounds b (.stringIter s (pos+(gj s pos).2))}:=by
     simp only[pw,getObj,setObj,fp,Sem.run,e2,Result.andThen,hpos,if_true];simp[goInt]
    have hbl:b<w.heap.size:=(dg.1 e2).1;have hst:=A4q (w':={w with heap:=w.heap.setIfInBounds b (.stringIter s (pos+(gj s pos).2))}) (e':=.it s (pos+(gj s pos).2) none) h hE hm (by rw[show σ m=_ from e1];rfl)
     (λq hq=>Array.getElem?_setIfInBounds_ne (λe=>hq e.symm)) (by simp) rfl rfl rfl (λO=>⟨b,e1,Array.getElem?_setIfInBounds_self_of_lt hbl,λh=>(by cases h),λh=>(by cases h)⟩)
    refine⟨_,_,σ,.inl (by rw[show (execOp a.eval o)=_ from by simp only[execOp,ho];rfl,hxv,A3r e1];simp only[fp,hrun,ed,ie]),hst.1,hst.2,⟨[.bool true,.int .i64 pos,.int .i32 (gj s pos).1],rfl,rfl,rfl,rfl,trivial⟩,λ_ _=>rfl⟩
   ·rename_i s pos hm;cases hs;obtain⟨b,e1,e2,_,e3⟩:=h.ent _ (tI hm);have hpos:=e3 rfl;have hrun:(pw (.pointer (some ⟨b,0,none⟩)) true o.type).run P w=.ok (.tuple #[.bool false]) w:=by
     simp[pw,getObj,Sem.run,e2,show ¬pos<s.size by omega]
    exact⟨.tuple #[.bool false],w,σ,.inl (by rw[show (execOp a.eval o)=_ from by simp only[execOp,ho];rfl,hxv,A3r e1];simp only[fp,hrun,ed,ie]),h,.refl hE,⟨[.bool false],rfl,rfl,trivial⟩,λ_ _=>rfl⟩
   ·cases hs
  ·cases hs
 ·cases hs
def A2d:List CV->Option (List Value)
 |[]=>some []
 |.val v::l=>(A2d l).map (v::·)
 |_=>none
def A2c:SV->Option Value
 |.c (.val v)=>some v
 |.agg l=>(A2d l).map λvs=> .agg vs.toArray
 |_=>none
theorem A4s {O:Nat->Prop} {w:World} {σ:Nat->Value}:∀{l:List CV} {vs us:List Value},A2d l=some vs->CVs O w σ l us->us=vs
 |[],_,[],h,_=>by cases h;rfl
 | .val v :: l,_,u :: us,h,hc => by obtain⟨q,hq,rfl⟩:=bf.1 h;rw[A4s hq hc.2,show u=v from hc.1]
 |[],_,_::_,_,hc=>hc.elim
 |_::_,_,[],_,hc=>hc.elim
theorem A7f {s:SV} (h:A2c s=some v) (hc:SVr O w σ s u):u=v:=by
 unfold A2c at h;split at h;·cases h;exact hc
 ·obtain⟨q,hq,rfl⟩:=bf.1 h;obtain⟨vs,rfl,hv⟩:=hc;rw[A4s hq hv]
 ·cases h
def A11 (P:Program) (Γ:Env) (H:tG) (nx:Nat) (t:TypeId) (x:Operand):Option u4:=
 match P.underlying t,(evo Γ x).bind A2c with
 |some (.interface _),_=>none
 |some _,some v=>some ⟨.c (.val (.iface t v)),H,nx,[],id⟩
 |_,_=>none
theorem A7H {C:FC} (hE:tM C σ H w Γ a) (hs:A11 P Γ H nx t x=some out) :
 ∃v,(tf t (a.eval x)).run P w=.ok (.iface t v) w/\out=⟨.c (.val (.iface t v)),H,nx,[],id⟩:=by
 unfold A11 at hs;split at hs;·cases hs
 ·rename_i d v hni hu hv;cases hs;obtain⟨sv,h1,h2⟩:=cz.1 hv;have:=A7f h2 (vF hE h1);refine⟨v,?_,rfl⟩;rw[this];cases d with
  |interface ms=>exact(hni ms rfl).elim
  |_=>simp[tf,run_underlying hu]
 ·cases hs
def A0z (P:Program) (Γ:Env) (H:tG) (nx:Nat) (t:TypeId):Option u4:=
 match (uL P t).map (λz=>(Value.cells z).toList) with
 |some (.pointer none::vs)=>if tY nx Γ H=true then some ⟨.c (.h nx),(nx,.box (.slf nx t::vs.map CV.val))::H,nx+1,[],id⟩ else none
 |_=>none
theorem A74 {C:FC} (h:tK C σ H w) (hE:tM C σ H w Γ a) (ho:o.op=.alloc t) (hs:A0z P Γ H nx t=some out) :
 ∃u w' σ',(execOp a.eval o).run P w=.ok (.value u) w'/\tK C σ' out.H w'/\u6 C σ σ' H out.H w w' Γ a/\SVr (Ow C.G out.H σ') w' σ' out.v u/\(∀n,n≠nx->σ' n=σ n)/\out.nx=nx+1/\out.f=id:=by
 unfold A0z at hs;split at hs
 ·rename_i vs hz;split at hs
  ·rename_i hf;cases hs;obtain⟨z,hz,hc⟩:=bf.1 hz;have hal:=xA (w':=w.alloc (.cells z.cells t)) h hE hf (.box (.slf nx t::vs.map CV.val)) (.tuple [.pointer (some ⟨w.heap.size,0,none⟩),.iface t .nilIface].toArray) (λb hb=>uH w _ b hb) (by simp) rfl rfl rfl
    (λb hb=>by have:uU (.tuple [.pointer (some ⟨w.heap.size,0,none⟩),.iface t .nilIface].toArray) w.heap.size t:=.inr rfl;have:=this.bk.1 hb;omega)
    (λ_ _=>by refine⟨w.heap.size,z.cells,t,.inr (tQ _ _ _),heap_alloc_new w _,?_⟩;rw[hc];exact⟨⟨w.heap.size,tQ _ _ _,.inl rfl⟩,wY⟩)
   refine⟨.pointer (some ⟨w.heap.size,0,none⟩),w.alloc (.cells z.cells t),_,by simp[execOp,ho,vl,wK hz,newVar,newRow],hal.1,hal.2,?_,λ_ hn=>tT hn,rfl,rfl⟩;simp only[SVr,CVr];rw[tQ];rfl
  ·cases hs
 ·cases hs
def z6 (P:Program) (Γ:Env) (H:tG) (nx:Nat) (o:Oper):Option u4:=
 match o.op with
 |.makeMap _ none=>A0M P Γ H nx
 |.lookup t x k true=>A0L P Γ H nx t x k
 |.mapUpdate t x k y=>A0O P Γ H nx t x k y
 |.buildSlice t len parts=>A0K P Γ H nx t len parts
 |.load t x=>match vE P t,evc Γ x with
  |some false,some p=>match A1q H p with
   |some r=>some ⟨.c r.1,H,nx,r.2,id⟩
   |none=>match A1p H p with
    |some r=>some ⟨.c r.1,H,nx,r.2,id⟩
    |none=>(ldA P H t p).map λr=>⟨.c r.1,H,nx,r.2,id⟩
  |_,_=>none
 |.store t p x=>match A0J P Γ H nx t p x with
  |some r=>some r
  |none=>stA P Γ H nx t p x
 |.call {callee:= .builtin b,args,argTypes}=>match b,args.toList,argTypes.toList with
  |.append,[s,x],[t,tx]=>match zM P Γ H nx t tx s x with
   |some r=>some r
   |none=>if t=tx then
    match zL P Γ H nx t s x with
    |some r=>some r
    |none=>match zK P Γ H nx t s x with
     |some r=>some r
     |none=>yI P Γ H nx t t s x
    else yI P Γ H nx t tx s x
  |.copy,[d,s],[td,ts]=>zQ P Γ H nx td ts d s
  |.delete,[x,k],[t,_]=>A0N P Γ H nx t x k
  |.clear,[x],[t]=>A0I P Γ H nx t x
  |.len,[x],[t]=>A13 P Γ H nx t x
  |_,_,_=>none
 |.makeInterface t x=>A11 P Γ H nx t x
 |.alloc t=>A0z P Γ H nx t
 |.range t x=>A15 P Γ H nx t x
 |.entry x=>A10 Γ H nx x
 |_=>none
theorem A4p {C:FC} (h:tK C σ H w) (hE:tM C σ H w Γ a) (hs:z6 P Γ H nx o=some out) (hc:tL out.c):A2l P C σ H nx Γ a w o out/\nx<=out.nx:=by
 unfold z6 at hs;split at hs
 ·rename_i t ho;obtain⟨u,w',σ',g1,g2,g3,g4,g5,g6,g7⟩:=A7P (P:=P) (t:=t) h hE hs;exact⟨⟨u,w',σ',.inl (by simp[execOp,ho,g1]),g2,g3,g4,λn hn=>g5 n (hn.resolve_right (by omega)),by rw[g6];exact λ_ _ h=>h⟩,by omega⟩
 ·rename_i t x k ho;obtain⟨u,g1,g2,g4,g6,g7⟩:=A7N (P:=P) h hE hs;refine⟨⟨u,w,σ,.inl (by simp[execOp,ho,g1]),by rw[g2];exact h,by rw[g2];exact .refl hE,by rw[g2];exact g4,λ_ _=>rfl,by rw[g6];exact λ_ _ h=>h⟩,by omega⟩
 ·rename_i t x k y ho;obtain⟨w',g1,g2,g3,g4,g6,g7⟩:=A7V (P:=P) h hE hs hc;exact⟨⟨undef,w',σ,.inr ⟨by simp[execOp,ho,g1],rfl⟩,g2,g3,by rw[g4];rfl,λ_ _=>rfl,by rw[g6];exact λ_ _ h=>h⟩,by omega⟩
 ·rename_i t len parts ho;obtain⟨u,w',σ',g1,g2,g3,g4,g5,g6,g7⟩:=A7L (P:=P) h hE hs;exact⟨⟨u,w',σ',.inl (by simp[execOp,ho,g1]),g2,g3,g4,λn hn=>g5 n (hn.resolve_right (by omega)),by rw[g6];exact λ_ _ h=>h⟩,by omega⟩
 ·rename_i t x ho;split at hs
  ·rename_i p hag hp;have key:∀(q:CV) (cs:List Prop),(∃b off u,a.eval x=.pointer (some ⟨b,off,none⟩)/\w.cell? ⟨b,off,none⟩=some u/\CVr (Ow C.G H σ) w σ q u)->A2l P C σ H nx Γ a w o ⟨.c q,H,nx,cs,id⟩:=by
    rintro q cs ⟨b,off,u,hv,hcell,hq⟩;exact⟨u,w,σ,.inl (by simp[execOp,ho,re,hv,kv,loadVar,vY hag,hcell]),h,.refl hE,hq,λ_ _=>rfl,λ_ _ h=>h⟩
   split at hs
   ·rename_i r hr;cases hs;exact⟨key _ _ (A6J h hr hc (tX hE hp)),bp _⟩
   ·split at hs
    ·rename_i r hr;cases hs;exact⟨key _ _ (A6I h hr hc (tX hE hp)),bp _⟩
    ·obtain⟨r,hr,rfl⟩:=bf.1 hs;exact⟨key _ _ (A6H h hr hc (tX hE hp)),bp _⟩
  ·cases hs
 ·rename_i t p x ho;split at hs
  ·rename_i r hr;cases hs;obtain⟨b,off,w',σ',g1,g2,g3,g4,g5,g6,g7,g8⟩:=A7E (P:=P) h hE hr hc;exact⟨⟨undef,w',σ',.inr ⟨by simp[execOp,ho,qj,g1,kv,g2],rfl⟩,g3,g4,by rw[g5];rfl,g6,g8⟩,g7⟩
  ·obtain⟨b,off,w',g1,g2,g3,g4,g5,g6⟩:=A73 (P:=P) h hE hs hc;exact⟨⟨undef,w',σ,.inr ⟨by simp[execOp,ho,qj,g1,kv,g2],rfl⟩,g3,g4,by rw[g5];rfl,λ_ _=>rfl,by rw[g6];exact λ_ _ h=>h⟩,A4k hs⟩
 ·rename_i b args ats ho;split at hs
  ·rename_i s x t tx hargs hats;have ea:args = #[s,x]:=by apply ip;simpa using hargs
   have et:ats = #[t,tx]:=by apply ip;simpa using hats
   subst ea et;split at hs
   ·rename_i r hr;cases hs;obtain⟨u,w',σ',g1,g2,g3,g4,g5,g6,g7⟩:=A5i (P:=P) (ty:=o.type) h hE hr hc;exact⟨⟨u,w',σ',.inl (by simp[execOp,ho,resolve,invoke,builtin,g1]),g2,g3,g4,λn hn=>g5 n (hn.resolve_right (by omega)),by rw[g6];exact λ_ _ h=>h⟩,by omega⟩
   ·split at hs
    ·rename_i htt;subst htt;split at hs
     ·rename_i r hr;cases hs;obtain⟨u,w',σ',g1,g2,g3,g4,g5,g6,g7⟩:=A5g (P:=P) (ty:=o.type) h hE hr hc;exact⟨⟨u,w',σ',.inl (by simp[execOp,ho,resolve,invoke,builtin,g1]),g2,g3,g4,λn hn=>g5 n (hn.resolve_right (by omega)),by rw[g6];exact λ_ _ h=>h⟩,by omega⟩
     ·split at hs
      ·rename_i r hr;cases hs;obtain⟨u,w',σ',g1,g2,g3,g4,g5,g6,g7⟩:=A5e (P:=P) (ty:=o.type) h hE hr hc;exact⟨⟨u,w',σ',.inl (by simp[execOp,ho,resolve,invoke,builtin,g1]),g2,g3,g4,λn hn=>g5 n (hn.resolve_right (by omega)),g7⟩,by omega⟩
      ·obtain⟨u,w',σ',g1,g2,g3,g4,g5,g6,g7⟩:=A3D (P:=P) (ty:=o.type) h hE hs hc;exact⟨⟨u,w',σ',.inl (by simp[execOp,ho,resolve,invoke,builtin,g1]),g2,g3,g4,λn hn=>g5 n (hn.resolve_right (by omega)),by rw[g6];exact λ_ _ h=>h⟩,by omega⟩
    ·obtain⟨u,w',σ',g1,g2,g3,g4,g5,g6,g7⟩:=A3D (P:=P) (ty:=o.type) h hE hs hc;exact⟨⟨u,w',σ',.inl (by simp[execOp,ho,resolve,invoke,builtin,g1]),g2,g3,g4,λn hn=>g5 n (hn.resolve_right (by omega)),by rw[g6];exact λ_ _ h=>h⟩,by omega⟩
  ·rename_i d s td ts hargs hats;have ea:args = #[d,s]:=by apply ip;simpa using hargs
   have et:ats = #[td,ts]:=by apply ip;simpa using hats
   subst ea et;obtain⟨u,w',σ',g1,g2,g3,g4,g5,g6,g7⟩:=A5u (P:=P) (ty:=o.type) h hE hs hc;exact⟨⟨u,w',σ',.inl (by simp[execOp,ho,resolve,invoke,builtin,g1]),g2,g3,g4,λn hn=>g5 n (hn.resolve_right (by omega)),g7⟩,by omega⟩
  ·rename_i x k t t2 hargs hats;have ea:args = #[x,k]:=by apply ip;simpa using hargs
   have et:ats = #[t,t2]:=by apply ip;simpa using hats
   subst ea et;obtain⟨w',g1,g2,g3,g4,g6,g7⟩:=A7S (P:=P) (ty:=o.type) (t2:=t2) h hE hs;exact⟨⟨.tuple #[],w',σ,.inl (by simp[execOp,ho,resolve,invoke,builtin,g1]),g2,g3,by rw[g4];exact⟨[],rfl,trivial⟩,λ_ _=>rfl,by rw[g6];exact λ_ _ h=>h⟩,by omega⟩
  ·rename_i x t hargs hats;have ea:args = #[x]:=by apply ip;simpa using hargs
   have et:ats = #[t]:=by apply ip;simpa using hats
   subst ea et;obtain⟨w',g1,g2,g3,g4,g6,g7⟩:=A7A (P:=P) (ty:=o.type) h hE hs;exact⟨⟨.tuple #[],w',σ,.inl (by simp[execOp,ho,resolve,invoke,builtin,g1]),g2,g3,by rw[g4];exact⟨[],rfl,trivial⟩,λ_ _=>rfl,by rw[g6];exact λ_ _ h=>h⟩,by omega⟩
  ·rename_i x t hargs hats;have ea:args = #[x]:=by apply ip;simpa using hargs
   have et:ats = #[t]:=by apply ip;simpa using hats
   subst ea et;obtain⟨n,g1,g2⟩:=A7T (P:=P) (ty:=o.type) h hE hs hc;rw[g2];exact⟨⟨_,w,σ,.inl (by simp[execOp,ho,resolve,invoke,builtin,g1]),h,.refl hE,rfl,λ_ _=>rfl,λ_ _ h=>h⟩,bp _⟩
  ·cases hs
 ·rename_i t x ho;obtain⟨v,g1,rfl⟩:=A7H (P:=P) hE hs;exact⟨⟨_,w,σ,.inl (by simp[execOp,ho,g1]),h,.refl hE,rfl,λ_ _=>rfl,λ_ _ h=>h⟩,bp _⟩
 ·rename_i t ho;obtain⟨u,w',σ',g1,g2,g3,g4,g5,g6,g7⟩:=A74 (P:=P) h hE ho hs;exact⟨⟨u,w',σ',.inl g1,g2,g3,g4,λn hn=>g5 n (hn.resolve_right (by omega)),by rw[g7];exact λ_ _ h=>h⟩,by omega⟩
 ·rename_i t x ho;obtain⟨u,w',σ',g1,g2,g3,g4,g5,g6,g7⟩:=A7X (P:=P) h hE hs;exact⟨⟨u,w',σ',.inl (by simp[execOp,ho,g1]),g2,g3,g4,λn hn=>g5 n (hn.resolve_right (by omega)),by rw[g7];exact λ_ _ h=>h⟩,by omega⟩
 ·rename_i x ho;obtain⟨u,g1,g2,g3,g4,g5⟩:=A7F (P:=P) h hE hs;exact⟨⟨u,w,σ,.inl (by simp[execOp,ho,g1]),by rw[g2];exact h,by rw[g2];exact .refl hE,by rw[g2];exact g3,λ_ _=>rfl,by rw[g4];exact λ_ _ h=>h⟩,by omega⟩
 ·cases hs
theorem A7O {t tx:TypeId} {x k y:Operand} {len:Nat} {parts:Array (Nat×Operand)} (hs:A0M P Γ H nx=some out):nx<=out.nx:=by
 unfold A0M at hs;repeat' (split at hs)
 all_goals first
  |(cases hs;done)
  |(cases hs;simp;done)
  |(obtain⟨_,_,rfl⟩:=bf.1 hs;simp;done)
theorem A7M {tx:TypeId} {y:Operand} {len:Nat} {parts:Array (Nat×Operand)} (hs:A0L P Γ H nx t x k=some out):nx<=out.nx:=by
 unfold A0L at hs;repeat' (split at hs)
 all_goals first
  |(cases hs;done)
  |(cases hs;simp;done)
  |(obtain⟨_,_,rfl⟩:=bf.1 hs;simp;done)
theorem A7U {tx:TypeId} {len:Nat} {parts:Array (Nat×Operand)} (hs:A0O P Γ H nx t x k y=some out):nx<=out.nx:=by
 unfold A0O at hs;repeat' (split at hs)
 all_goals first
  |(cases hs;done)
  |(cases hs;simp;done)
  |(obtain⟨_,_,rfl⟩:=bf.1 hs;simp;done)
theorem A7R {tx:TypeId} {y:Operand} {len:Nat} {parts:Array (Nat×Operand)} (hs:A0N P Γ H nx t x k=some out):nx<=out.nx:=by
 unfold A0N at hs;repeat' (split at hs)
 all_goals first
  |(cases hs;done)
  |(cases hs;simp;done)
  |(obtain⟨_,_,rfl⟩:=bf.1 hs;simp;done)
theorem A7K {tx:TypeId} {x k y:Operand} {parts:Array (Nat×Operand)} (hs:A0K P Γ H nx t len parts=some out):nx<=out.nx:=by
 unfold A0K at hs;repeat' (split at hs)
 all_goals first
  |(cases hs;done)
  |(cases hs;simp;done)
  |(obtain⟨_,_,rfl⟩:=bf.1 hs;simp;done)
theorem A7D {tx:TypeId} {y:Operand} {len:Nat} {parts:Array (Nat×Operand)} (hs:A0J P Γ H nx t x k=some out):nx<=out.nx:=by
 unfold A0J at hs;repeat' (split at hs)
 all_goals first
  |(cases hs;done)
  |(cases hs;simp;done)
  |(obtain⟨_,_,rfl⟩:=bf.1 hs;simp;done)
theorem A5h {y:Operand} {len:Nat} {parts:Array (Nat×Operand)} (hs:zM P Γ H nx t tx x k=some out):nx<=out.nx:=by
 unfold zM at hs;repeat' (split at hs)
 all_goals first
  |(cases hs;done)
  |(cases hs;simp;done)
  |(obtain⟨_,_,rfl⟩:=bf.1 hs;simp;done)
theorem A5f {tx:TypeId} {y:Operand} {len:Nat} {parts:Array (Nat×Operand)} (hs:zL P Γ H nx t x k=some out):nx<=out.nx:=by
 unfold zL at hs;repeat' (split at hs)
 all_goals first
  |(cases hs;done)
  |(cases hs;simp;done)
  |(obtain⟨_,_,rfl⟩:=bf.1 hs;simp;done)
theorem A5d {tx:TypeId} {y:Operand} {len:Nat} {parts:Array (Nat×Operand)} (hs:zK P Γ H nx t x k=some out):nx<=out.nx:=by
 unfold zK at hs;repeat' (split at hs)
 all_goals first
  |(cases hs;done)
  |(cases hs;simp;done)
  |(obtain⟨_,_,rfl⟩:=bf.1 hs;simp;done)
theorem A5t {y:Operand} {len:Nat} {parts:Array (Nat×Operand)} (hs:zQ P Γ H nx t tx x k=some out):nx<=out.nx:=by
 unfold zQ at hs;repeat' (split at hs)
 all_goals first
  |(cases hs;done)
  |(cases hs;simp;done)
  |(obtain⟨_,_,rfl⟩:=bf.1 hs;simp;done)
theorem A79 {tx:TypeId} {k y:Operand} {len:Nat} {parts:Array (Nat×Operand)} (hs:A0I P Γ H nx t x=some out):nx<=out.nx:=by
 unfold A0I at hs;repeat' (split at hs)
 all_goals first
  |(cases hs;done)
  |(cases hs;simp;done)
  |(obtain⟨_,_,rfl⟩:=bf.1 hs;simp;done)
theorem A3C (hs:yI P Γ H nx t tx x k=some out):nx<=out.nx:=by
 unfold yI at hs;repeat' (split at hs)
 all_goals first
  |(cases hs;done)
  |(cases hs;simp;done)
  |(obtain⟨_,_,rfl⟩:=bf.1 hs;simp;done)
theorem A2Z (hs:z6 P Γ H nx o=some out):nx<=out.nx:=by
 unfold z6 at hs;split at hs;·exact A7O (t:=0) (tx:=0) (x:=.tmp 0) (k:=.tmp 0) (y:=.tmp 0) (len:=0) (parts:=#[]) hs
 ·exact A7M (tx:=0) (y:=.tmp 0) (len:=0) (parts:=#[]) hs
 ·exact A7U (tx:=0) (len:=0) (parts:=#[]) hs
 ·exact A7K (tx:=0) (x:=.tmp 0) (k:=.tmp 0) (y:=.tmp 0) hs
 ·split at hs
  ·split at hs;·cases hs;exact bp _
   ·split at hs;·cases hs;exact bp _
    ·obtain⟨_,_,rfl⟩:=bf.1 hs;exact bp _
  ·cases hs
 ·split at hs
  ·rename_i r hr;cases hs;exact A7D (tx:=0) (y:=.tmp 0) (len:=0) (parts:=#[]) hr
  ·exact A4k hs
 ·split at hs
  ·split at hs
   ·rename_i r hr;cases hs;exact A5h (y:=.tmp 0) (len:=0) (parts:=#[]) hr
   ·split at hs
    ·split at hs
     ·rename_i r hr;cases hs;exact A5f (tx:=0) (y:=.tmp 0) (len:=0) (parts:=#[]) hr
     ·split at hs
      ·rename_i r hr;cases hs;exact A5d (tx:=0) (y:=.tmp 0) (len:=0) (parts:=#[]) hr
      ·exact A3C hs
    ·exact A3C hs
  ·exact A5t (y:=.tmp 0) (len:=0) (parts:=#[]) hs
  ·exact A7R (tx:=0) (y:=.tmp 0) (len:=0) (parts:=#[]) hs
  ·exact A79 (tx:=0) (k:=.tmp 0) (y:=.tmp 0) (len:=0) (parts:=#[]) hs
  ·unfold A13 at hs;split at hs;·cases hs;exact bp _
   ·cases hs
  ·cases hs
 ·unfold A11 at hs;split at hs;·cases hs
  ·cases hs;exact bp _
  ·cases hs
 ·unfold A0z at hs;split at hs
  ·split at hs;·cases hs;exact Nat.le_succ _
   ·cases hs
  ·cases hs
 ·unfold A15 at hs;repeat' (split at hs)
  all_goals first
   |(cases hs;done)
   |(cases hs;simp;done)
 ·unfold A10 at hs;repeat' (split at hs)
  all_goals first
   |(cases hs;done)
   |(cases hs;simp;done)
 ·cases hs
structure St where
 Γ:Env
 H:tG
 nx:Nat
variable {s':St}
def A3U (P:Program) (N:Nat) (o:Oper) (s:St):Option (St×List Prop):=
 match yZ P s.Γ s.H s.nx o with
 |some out=>match o.dst with
  |some d=>if d<N then some (⟨(d,out.v)::s.Γ,out.H,out.nx⟩,out.c) else none
  |none=>some (⟨s.Γ,out.H,out.nx⟩,out.c)
 |none=>match z6 P s.Γ s.H s.nx o with
  |some out=>match o.dst with
   |some d=>if d<N then some (⟨(d,out.v)::vC out.f s.Γ,out.H,out.nx⟩,out.c) else none
   |none=>some (⟨vC out.f s.Γ,out.H,out.nx⟩,out.c)
  |none=>none
def A4i (N:Nat) (o:Oper) (s:St):Option (St×List Prop):=
 match o.dst with
 |some d=>if d<N then some (⟨(d,.c (.val undef))::s.Γ,s.H,s.nx⟩,[]) else none
 |none=>some (s,[])
def A0P (all:Array Oper) (o:Oper) (Γ:Env):Option Bool:=
 match o.guard with
 |none=>some true
 |some (j,want)=>match (all[j]?).bind (·.dst) with
  |some d=>match tJ Γ d with
   |some (.c (.val (.bool b)))=>some (b==want)
   |some (.c (.val (.tuple _)))=>some false
   |_=>none
  |none=>none
def A25 (P:Program) (N:Nat) (all:Array Oper) (o:Oper) (s:St):Option (St×List Prop):=
 match A0P all o s.Γ with
 |some true=>A3U P N o s
 |some false=>A4i N o s
 |none=>none
def xY (P:Program) (N:Nat) (all:Array Oper):Nat->List Oper->St->Option (St×List Prop)
 |0,_,s=>some (s,[])
 |_+1,[],s=>some (s,[])
 | n+1,o :: os,s => match A25 P N all o s with
    |some (s',ps)=>match xY P N all n os s' with
     |some (s'',qs)=>some (s'',ps++qs)
     |none=>none
    |none=>none
def VO (P:Program) (C:FC) (all:Array Oper) (rest:List Oper) (Q:Exit->Act->World->Prop) (Γ:Env) (H:tG):Prop:=∀a w,Sat C Γ H a w->wpList P all Q rest a w
theorem y8 {C:FC} (hs:Sat C Γ H a w) {all:Array Oper} {b:Bool} (h:A0P all o Γ=some b):gp o (yielded all a.tmps)=b:=by
 unfold A0P at h;split at h
 ·rename_i hg;cases h;simp[gp,hg]
 ·rename_i j want hg;split at h
  ·rename_i d hd;split at h
   ·rename_i b' hl;cases h;obtain⟨σ,hσ,hE,_⟩:=hs;obtain⟨hlt,hv⟩:=hE.1 d _ hl;have hv':a.tmps.getD d undef=.bool b':=hv;have ha:a.tmps[d]? =some (.bool b'):=by
     have hlt':d<a.tmps.size:=by rw[hE.2.1];exact hlt
     rw[jf hlt'];simp only[fc,jf hlt',gt] at hv';rw[hv']
    simp only[gp,hg,yielded,hd,kq,ha];cases b'<;>cases want<;>rfl
   ·rename_i u hl;cases h;obtain⟨σ,hσ,hE,_⟩:=hs;obtain⟨hlt,hv⟩:=hE.1 d _ hl;have hv':a.tmps.getD d undef=.tuple u:=hv;have ha:a.tmps[d]? =some (.tuple u):=by
     have hlt':d<a.tmps.size:=by rw[hE.2.1];exact hlt
     rw[jf hlt'];simp only[fc,jf hlt',gt] at hv';rw[hv']
    simp only[gp,hg,yielded,hd,kq,ha];rfl
   ·cases h
  ·cases h
theorem A2Y {out:Out} (hs:yZ P Γ H nx o=some out):nx<=out.nx:=by
 unfold yZ at hs;repeat' (split at hs)
 all_goals first
  |(cases hs;done)
  |(cases hs;simp;done)
  |(obtain⟨_,_,rfl⟩:=bf.1 hs;simp;done)
theorem A4I {C:FC} {all:Array Oper} {s:St} {ps:List Prop} (h:A25 P C.N all o s=some (s',ps)) (hn:C.n0<=s.nx) (hp:tL ps)
 (hr:VO P C all rest Q s'.Γ s'.H):VO P C all (o::rest) Q s.Γ s.H/\s.nx<=s'.nx:=by
 unfold A25 at h;have put_ok:∀{σ:Nat->Value} {H:tG} {w:World} {Γ:Env} {a:Act} {sv:SV} {u:Value} {Γ':Env},tM C σ H w Γ a->SVr (Ow C.G H σ) w σ sv u->
  (match o.dst with|some d=>if d<C.N then some ((d,sv)::Γ) else none|none=>some Γ)=some Γ'->tM C σ H w Γ' (a.put o.dst u):=by
  intro σ H w Γ a sv u Γ' hE hv hΓ;cases hd:o.dst with
  |none=>rw[hd] at hΓ;cases hΓ;exact hE
  | some d =>
    rw[hd] at hΓ;simp only at hΓ;split at hΓ
    ·rename_i hlt;cases hΓ;exact hE.put hlt hv
    ·cases hΓ
 split at h
 ·rename_i hw;unfold A3U at h;split at h
  ·rename_i out hout;have hnx:=A2Y hout;have key:(match o.dst with|some d=>if d<C.N then some ((d,out.v)::s.Γ) else none|none=>some s.Γ)=some s'.Γ/\s'.H=out.H/\s'.nx=out.nx/\ps=out.c:=by
    cases hd:o.dst with
    |none=>rw[hd] at h;cases h;exact⟨rfl,rfl,rfl,rfl⟩
    | some d =>
      rw[hd] at h;simp only at h ⊢;split at h
      ·rename_i hlt;cases h;rw[if_pos hlt];exact⟨rfl,rfl,rfl,rfl⟩
      ·cases h
   obtain⟨k1,k2,k3,rfl⟩:=key;refine⟨λa w hs=>?_,by omega⟩;have hwant:=y8 hs hw;obtain⟨σ,hσ,hE,hpin⟩:=hs;obtain⟨u,w',σ',hrun,h1,h2,h3,h4⟩:=A4o hσ hE hout hp;unfold wpList;rw[if_pos hwant];refine .inl ?_;have hsat:Sat C s'.Γ s'.H (a.put o.dst u) w':=by rw[k2];exact⟨σ',h1,put_ok h2.env h3 k1,λn hlt=>(h4 n (.inl (by omega))).trans (hpin n hlt)⟩
   rcases hrun with hrun|⟨hrun,rfl⟩
   ·unfold mb;rw[hrun];exact hr _ _ hsat
   ·unfold mb;rw[hrun];exact hr _ _ hsat
  ·split at h
   ·rename_i out hout;have key:(match o.dst with|some d=>if d<C.N then some ((d,out.v)::vC out.f s.Γ) else none|none=>some (vC out.f s.Γ))=some s'.Γ/\s'.H=out.H/\s'.nx=out.nx/\ps=out.c:=by
     cases hd:o.dst with
     |none=>rw[hd] at h;cases h;exact⟨rfl,rfl,rfl,rfl⟩
     | some d =>
       rw[hd] at h;simp only at h ⊢;split at h
       ·rename_i hlt;cases h;rw[if_pos hlt];exact⟨rfl,rfl,rfl,rfl⟩
       ·cases h
    obtain⟨k1,k2,k3,rfl⟩:=key;have hnx:s.nx<=out.nx:=A2Z hout;refine⟨λa w hs=>?_,by omega⟩;have hwant:=y8 hs hw;obtain⟨σ,hσ,hE,hpin⟩:=hs;obtain⟨⟨u,w',σ',hrun,h1,h2,h3,h4,h5⟩,_⟩:=A4p hσ hE hout hp;unfold wpList;rw[if_pos hwant];refine .inl ?_;have hsat:Sat C s'.Γ s'.H (a.put o.dst u) w':=by rw[k2];exact⟨σ',h1,put_ok (A0T h2.env h5) h3 k1,λn hlt=>(h4 n (.inl (by omega))).trans (hpin n hlt)⟩
    rcases hrun with hrun|⟨hrun,rfl⟩
    ·unfold mb;rw[hrun];exact hr _ _ hsat
    ·unfold mb;rw[hrun];exact hr _ _ hsat
   ·cases h
 ·rename_i hw;unfold A4i at h;have key:(match o.dst with|some d=>if d<C.N then some ((d,.c (.val undef))::s.Γ) else none|none=>some s.Γ)=some s'.Γ/\s'.H=s.H/\s'.nx=s.nx:=by
   cases hd:o.dst with
   |none=>rw[hd] at h;cases h;exact⟨rfl,rfl,rfl⟩
   | some d =>
     rw[hd] at h;simp only at h ⊢;split at h
     ·rename_i hlt;cases h;rw[if_pos hlt];exact⟨rfl,rfl,rfl⟩
     ·cases h
  obtain⟨k1,k2,k3⟩:=key;refine⟨λa w hs=>?_,by omega⟩;have hwant:=y8 hs hw;obtain⟨σ,hσ,hE,hpin⟩:=hs;unfold wpList;rw[if_neg (by rw[hwant];simp)];refine hr _ _ ?_;rw[k2];exact⟨σ,hσ,put_ok (sv:=.c (.val undef)) hE rfl k1,hpin⟩
 ·cases h
theorem xZ {C:FC} {all:Array Oper} {Q:Exit->Act->World->Prop}:∀{n:Nat} {os:List Oper} {s s':St} {ps:List Prop},xY P C.N all n os s=some (s',ps)->C.n0<=s.nx->tL ps->
 (VO P C all (os.drop n) Q s'.Γ s'.H->VO P C all os Q s.Γ s.H)/\s.nx<=s'.nx
 |0,os,s,s',ps,h,_,_=>by cases h;exact⟨λh=>h,bp _⟩
 |n+1,[],s,s',ps,h,_,_=>by cases h;exact⟨λh=>h,bp _⟩
 | n+1,o :: os,s,s',ps,h,hn,hp => by
   simp only[xY] at h;split at h
   ·rename_i s1 ps1 h1;split at h
    ·rename_i s2 ps2 h2;cases h;rw[A0b] at hp;have hle:s.nx<=s1.nx:=by
      have:=A4I (Q:=λ_ _ _=>True) (rest:=[]) h1 hn hp.1 (λa w _=>trivial);exact this.2
     have ih:=xZ (Q:=Q) h2 (by omega) hp.2;exact⟨λhr=>(A4I h1 hn hp.1 (ih.1 hr)).1,by omega⟩
    ·cases h
   ·cases h
def wpL (P:Program):List Code->(Exit->Act->World->Prop)->Act->World->Prop
 |[],Q=>Q .normal
 |c::cs,Q=>c.wp P (Exit.then (wpL P cs Q) Q)
def VL (P:Program) (C:FC) (cs:List Code) (Q:Exit->Act->World->Prop) (Γ:Env) (H:tG):Prop:=∀a w,Sat C Γ H a w->wpL P cs Q a w
def vM (C:FC) (Q:Exit->Act->World->Prop) (e:Exit) (Γ:Env) (H:tG):Prop:=∀a w,Sat C Γ H a w->Q e a w
theorem A7g {x y:Code} (h:wpL P (x::y::cs) Q a w):wpL P (.seq x y::cs) Q a w:=by simp only[wpL] at h ⊢;refine wp_seq (wp_mono h λe a w he=>?_);cases e<;>exact he
theorem A5U {C:FC} {x y:Code} (h:VL P C (x::y::cs) Q Γ H):VL P C (.seq x y::cs) Q Γ H:=λa w hs=>A7g (h a w hs)
theorem A5V {C:FC} (h:VL P C cs Q Γ H):VL P C (.skip::cs) Q Γ H:=λa w hs=>wp_skip (h a w hs)
theorem xK {C:FC} {id:Nat} {ops:Array Oper} (h:VO P C ops ops.toList (Exit.then (wpL P cs Q) Q) Γ H):VL P C (.region id ops false::cs) Q Γ H:=
 λa w hs=>wp_region_list (h a w hs)
theorem wI {C:FC} {all:Array Oper} (h:VL P C cs Q Γ H):VO P C all [] (Exit.then (wpL P cs Q) Q) Γ H:=λa w hs=>h a w hs
def wF (Γ:Env) (ts:List Nat):Env:=ts.filterMap λt=>(tJ Γ t).map λv=>(t,v)
def uT (H:tG) (ns:List Nat):tG:=ns.filterMap λn=>(tJ H n).map λe=>(n,e)
theorem A1t {Γ:Env}:∀{ts:List Nat} {t:Nat} {v:SV},tJ (wF Γ ts) t=some v->tJ Γ t=some v
 |[],_,_,h=>by simp[wF,tJ] at h
 | u :: ts,t,v,h => by
   unfold wF at h;rw[dc] at h;cases hu:tJ Γ u with
   |none=>rw[hu] at h;exact A1t h
   | some v' =>
     rw[hu] at h;simp only[fy,tJ] at h;by_cases e:u=t;·rw[if_pos e] at h;cases h;rw[<-e];exact hu
     ·rw[if_neg e] at h;exact A1t h
theorem A06 {ns:List Nat} {p:Nat×Ent} (h:p∈uT H ns):p.1∈ns/\tJ H p.1=some p.2:=by obtain⟨n,hn,he⟩:=ez.1 h;obtain⟨e,hl,rfl⟩:=bf.1 he;exact⟨hn,hl⟩
def rn (inv:List (Nat×Nat)) (n:Nat):Nat:=(tJ inv n).getD n
def CV.ren (inv:List (Nat×Nat)):CV->CV
 |.val v=> .val v
 |.imm k x=> .imm k x
 |.h n=> .h (rn inv n)
 |.cell n o=> .cell (rn inv n) o
 |.elt n sz i o=> .elt (rn inv n) sz i o
 |.ielt k x=> .ielt k x
 |.sub n sz lo len=> .sub (rn inv n) sz lo len
 |.clo f caps=> .clo f (caps.map (rn inv))
 |.zc=> .zc
 |.slf n t=> .slf (rn inv n) t
 |.elm n i=> .elm (rn inv n) i
variable {pre post:List CV}
def SV.ren (inv:List (Nat×Nat)):SV->SV
 |.c x=> .c (x.ren inv)
 |.agg l=> .agg (l.map (CV.ren inv))
 |.tup l=> .tup (l.map λp=>(p.1,p.2.map (CV.ren inv)))
def Ent.ren (inv:List (Nat×Nat)):Ent->Ent
 |.box cs=> .box (cs.map (CV.ren inv))
 |.row k xs=> .row k xs
 |.it s pos k=> .it s pos k
 |.map l=> .map l
 |.lit cs=> .lit (cs.map (CV.ren inv))
 |.sets ls last=> .sets ls (last.map (rn inv))
 |.arow m xs=> .arow m xs
 |.aown xs=> .aown xs
 |.apend i zs xs=> .apend i zs xs
 |.brow e xs=> .brow e xs
 |.mit l c=> .mit l c
 |.abox pre k bs post=> .abox (pre.map (CV.ren inv)) k bs (post.map (CV.ren inv))
theorem A1C:∀{s:CV} {v:Value},CVr O w σ (s.ren inv) v↔CVr O w (λn=>σ (rn inv n)) s v
 |.val _,_=>il
 |.imm _ _,_=>il
 |.h _,_=>il
 |.cell _ _,_=>il
 |.elt _ _ _ _,_=>il
 |.ielt _ _,_=>il
 |.sub _ _ _ _,_=>il
 |.clo _ caps,_=>by simp only[CVr,CV.ren,nb];exact il
 |.zc,_=>il
 |.slf _ _,_=>il
 |.elm _ _,_=>il
theorem yA {O:Nat->Prop} {w:World} {σ:Nat->Value} {inv:List (Nat×Nat)}:∀{l:List CV} {vs:List Value},CVs O w σ (l.map (CV.ren inv)) vs↔CVs O w (λn=>σ (rn inv n)) l vs
 |[],[]=>il
 |[],_::_=>il
 |_::_,[]=>il
 |_::_,_::_=>and_congr A1C yA
theorem zB {O:Nat->Prop} {w:World} {σ:Nat->Value} {inv:List (Nat×Nat)}:∀{l:List (Bool×List CV)} {vs:List Value},PVs O w σ (l.map λp=>(p.1,p.2.map (CV.ren inv))) vs↔PVs O w (λn=>σ (rn inv n)) l vs
 |[],[]=>il
 |[],_::_=>il
 |_::_,[]=>il
 |(true,_)::_,_::_=>and_congr (exists_congr λ_=>and_congr il yA) zB
 |(false,[])::_,_::_=>and_congr il zB
 |(false,[_])::_,_::_=>and_congr A1C zB
 |(false,_::_::_)::_,_::_=>and_congr il zB
theorem A0Y:∀{s:SV} {v:Value},SVr O w σ (s.ren inv) v↔SVr O w (λn=>σ (rn inv n)) s v
 |.c _,_=>A1C
 |.agg _,_=>exists_congr λ_=>and_congr il yA
 |.tup _,_=>exists_congr λ_=>and_congr il zB
theorem A0S:∀{e:Ent},uB O w σ (rn inv n) (e.ren inv)↔uB O w (λn=>σ (rn inv n)) n e
 |.box _=>exists_congr λ_=>exists_congr λ_=>exists_congr λ_=>and_congr il (and_congr il yA)
 |.row _ _=>il
 |.it _ _ _=>il
 |.map _=>il
 |.lit _=>by simp only[uB,Ent.ren,du,yA]
 |.sets _ last=>by cases last<;>simp[uB,Ent.ren,uO]
 |.arow _ _=>il
 |.aown _=>il
 |.apend _ _ _=>il
 |.brow _ _=>il
 |.mit _ _=>il
 | .abox pre k bs post => by
   have e:uE (pre.map (CV.ren inv)) bs (post.map (CV.ren inv))=(uE pre bs post).map (CV.ren inv):=by simp[uE,CV.ren]
   simp only[uB,Ent.ren,e,yA]
def wR (inv:List (Nat×Nat)) (Γ:Env):Env:=Γ.map λp=>(p.1,p.2.ren inv)
def uF (inv:List (Nat×Nat)) (H:tG):tG:=H.map λp=>(rn inv p.1,p.2.ren inv)
theorem A47 {inv:List (Nat×Nat)}:∀{Γ:Env} {t:Nat} {v:SV},tJ Γ t=some v->tJ (wR inv Γ) t=some (v.ren inv)
 |[],_,_,h=>by simp[tJ] at h
 | (u,s) :: Γ,t,v,h => by
   simp only[tJ,wR,dj] at h ⊢;by_cases e:u=t;·rw[if_pos e] at h ⊢;cases h;rfl
   ·rw[if_neg e] at h ⊢;exact A47 h
theorem A5E {C:FC} {Γt:Env} {Ht:tG} (inv:List (Nat×Nat)) (hΓ:wR inv Γt=wF Γ (Γt.map di)) (hH:uF inv Ht=uT H (Ht.map λp=>rn inv p.1))
 (hn1:((Ht.map λp=>rn inv p.1)).Nodup) (hn2:(Ht.map di).Nodup) (hpin:∀p∈inv,C.n0<=p.1) (h:Sat C Γ H a w):Sat C Γt Ht a w:=by
 obtain⟨σ,hσ,hE,hp⟩:=h;have hsub:∀p∈uF inv Ht,p∈H:=λp hp=>by rw[hH] at hp;exact tI (A06 hp).2
 have hkeys:(uF inv Ht).map di=Ht.map λp=>rn inv p.1:=by simp[uF]
 have hσ2:=hσ.sub hsub (by rw[hkeys];exact hn1);have hE2:=hE.sub hsub;have how:Ow C.G Ht (λn=>σ (rn inv n))=Ow C.G (uF inv Ht) σ:=by
  funext b;apply propext;constructor
  ·rintro (hg|⟨p,hp,hb⟩);·exact .inl hg
   ·exact .inr ⟨(rn inv p.1,p.2.ren inv),cj.2 ⟨p,hp,rfl⟩,hb⟩
  ·rintro (hg|⟨q,hq,hb⟩);·exact .inl hg
   ·obtain⟨p,hp,rfl⟩:=cj.1 hq;exact .inr ⟨p,hp,hb⟩
 have hmem:∀p∈Ht,(rn inv p.1,p.2.ren inv)∈uF inv Ht:=λp hp=>cj.2 ⟨p,hp,rfl⟩;refine⟨λn=>σ (rn inv n),⟨λp hp=>?_,hn2,λp hp q hq hpq b hb hb'=>?_,λp hp b hb=>hσ2.mine _ (hmem p hp) b hb,hσ2.fr⟩,⟨λt sv hl=>?_,hE2.2⟩,λn hn=>?_⟩
 ·rw[how];exact A0S.1 (hσ2.ent _ (hmem p hp))
 ·have hne:rn inv p.1≠rn inv q.1:=by
   intro e;apply hpq;have hi:=ku.1 hn1;obtain⟨i,hi1,rfl⟩:=fe hp;obtain⟨j,hj1,rfl⟩:=fe hq;rcases nn i j with hlt|rfl|hgt;·exact((fw.1 hi i j hi1 hj1 hlt) e).elim
   ·rfl
   ·exact((fw.1 hi j i hj1 hi1 hgt) e.symm).elim
  exact hσ2.disj _ (hmem p hp) _ (hmem q hq) hne b hb hb'
 ·have h1:=A47 (inv:=inv) hl;rw[hΓ] at h1;have h2:=hE2.1 t _ (A1t h1);rw[how];exact⟨h2.1,A0Y.1 h2.2⟩
 ·have:rn inv n=n:=by
   unfold rn;cases hl:tJ inv n with
   |none=>rfl
   |some m=>have:=hpin _ (tI hl);simp at this;omega
  show σ (rn inv n)=_;rw[this];exact hp n hn
theorem A1L {C:FC} {c:Operand} {x y:Code} (b:Bool) (hc:evc Γ c=some (.val (.bool b))) (h1:b=true->VL P C (x::cs) Q Γ H) (h2:b=false->VL P C (y::cs) Q Γ H) :
 VL P C (.cond c x y::cs) Q Γ H:=by
 intro a w hs;have hs':=hs;obtain⟨σ,hσ,hE,_⟩:=hs;have he:=tX hE hc;simp only[CVr] at he;exact wp_cond_split he (λe=>h1 e a w hs') (λe=>h2 e a w hs')
def QB (id:Nat) (K:Act->World->Prop) (Q:Exit->Act->World->Prop):Exit->Act->World->Prop
 |.exit i,a,w=>if i=id then K a w else Q (.exit i) a w
 |.normal,a,w=>K a w
 |e,a,w=>Q e a w
theorem A5L {C:FC} {id:Nat} (h:VL P C [c] (QB id (wpL P cs Q) Q) Γ H):VL P C (.block id c::cs) Q Γ H:=by intro a w hs;have:=h a w hs;simp only[wpL] at this ⊢;refine wp_block (wp_mono this λe a w he=>?_);cases e<;>exact he
theorem A34 {C:FC} {id:Nat} (h:vM C Q (.exit id) Γ H):VL P C (.exit id::cs) Q Γ H:=λa w hs=>wp_exit (h a w hs)
theorem A5S {C:FC} (h:vM C Q .ret Γ H):VL P C (.ret::cs) Q Γ H:=λa w hs=>wp_ret (h a w hs)
theorem zI {C:FC} (h:vM C Q .normal Γ H):VL P C [] Q Γ H:=h
theorem A58 {C:FC} {id:Nat} (h:VL P C cs Q Γ H):vM C (QB id (wpL P cs Q) Q) (.exit id) Γ H:=λa w hs=>by simp only[QB,if_true];exact h a w hs
theorem A57 {C:FC} {id:Nat} (h:VL P C cs Q Γ H):vM C (QB id (wpL P cs Q) Q) .normal Γ H:=λa w hs=>h a w hs
theorem A2s {C:FC} {id:Nat} {K:Act->World->Prop} (hne:i≠id) (h:vM C Q (.exit i) Γ H):vM C (QB id K Q) (.exit i) Γ H:=λa w hs=>by simp only[QB,if_neg hne];exact h a w hs
def QL {X:Type} (C:FC) (Γ:X->Env) (H:X->tG) (pred:Nat->X->Prop) (k:Nat) (Q:Exit->Act->World->Prop):Exit->Act->World->Prop
 |.normal,a,w=> ∃x,pred k x/\Sat C (Γ x) (H x) a w
 |e,a,w=>Q e a w
theorem A5Q {C:FC} {X:Type} (Γ:X->Env) (H:X->tG) (pred:Nat->X->Prop) {body:Code} (k0:Nat) (x0:X) (h0:pred k0 x0) (hz:∀x,¬pred 0 x)
 (round:∀k x,pred (k+1) x->VL P C [body] (QL C Γ H pred k Q) (Γ x) (H x)):VL P C (.loop body::cs) Q (Γ x0) (H x0):=by
 intro a w hs;refine wp_loop_ghost (λk a w=>∃x,pred k x/\Sat C (Γ x) (H x) a w) k0 ⟨x0,h0,hs⟩ ?_;rintro k a w ⟨x,hx,hs⟩;cases k with
 |zero=>exact(hz x hx).elim
 | succ k =>
   have:=round k x hx a w hs;simp only[wpL] at this;refine wp_mono this λe a w he=>?_;cases e with
   |normal=>obtain⟨x',hx',hs'⟩:=he;exact⟨k,Nat.lt_succ_self _,x',hx',hs'⟩
   |exit i=>exact he
   |goto l=>exact he
   |ret=>exact he
   |panic c=>exact he
   |outgrown=>exact he
theorem y9 {O:Nat->Prop} {w:World} {σ:Nat->Value}:∀{l1 l2:List CV} {vs:List Value},CVs O w σ (l1++l2) vs↔∃v1 v2,vs=v1++v2/\CVs O w σ l1 v1/\CVs O w σ l2 v2
 | [],l2,vs => ⟨fun h => ⟨[],vs,rfl,trivial,h⟩,fun ⟨v1,v2,e,h1,h2⟩ => by
   cases v1 with
   |nil=>rw[e];exact h2
   |cons _ _=>exact h1.elim⟩
 | s :: l1,l2,[] => ⟨fun h => h.elim,fun ⟨v1,v2,e,h1,h2⟩ => by
   cases v1 with
   |nil=>exact h1.elim
   |cons _ _=>cases e⟩
 | s :: l1,l2,v :: vs => by
   constructor
   ·rintro⟨h,h'⟩;obtain⟨v1,v2,e,h1,h2⟩:=y9.1 h';exact⟨v::v1,v2,by rw[e];rfl,⟨h,h1⟩,h2⟩
   ·rintro⟨v1,v2,e,h1,h2⟩;cases v1 with
    |nil=>exact h1.elim
    | cons u us =>
      injection e with e1 e2;subst e1;exact⟨h1.1,y9.2 ⟨us,v2,e2,h1.2,h2⟩⟩
theorem A5z {f:CV->CV} {vs:List Value} (hf:∀s v,CVr O w σ s v->CVr O w σ (f s) v) (h:CVs O w σ (uE pre bs post) vs):CVs O w σ (uE (pre.map f) bs (post.map f)) vs:=by obtain⟨v1,v2,rfl,h1,h2⟩:=y9.1 h;obtain⟨v3,v4,rfl,h3,h4⟩:=y9.1 h2;exact y9.2 ⟨v1,_,rfl,wV hf h1,y9.2 ⟨v3,v4,rfl,h3,wV hf h4⟩⟩
theorem A2F {C:FC} (f:CV->CV) (h1:tK C σ H w) (h2:tM C σ H w Γ a)
 (hf':∀s v,CVr (Ow C.G H σ) w σ s v->CVr (Ow C.G H σ) w σ (f s) v):tK C σ (vO f H) w/\tM C σ (vO f H) w (vC f Γ) a:=by
 have how:Ow C.G (vO f H) σ=Ow C.G H σ:=by
  funext b;apply propext;constructor
  ·rintro (hg|⟨p,hp,hb⟩);·exact .inl hg
   ·obtain⟨q,hq,rfl⟩:=cj.1 hp;exact .inr ⟨q,hq,hb⟩
  ·rintro (hg|⟨q,hq,hb⟩);·exact .inl hg
   ·exact .inr ⟨_,cj.2 ⟨q,hq,rfl⟩,hb⟩
 refine⟨⟨λp hp=>?_,?_,?_,?_,h1.fr⟩,⟨λt sv hl=>?_,h2.2⟩⟩
 ·obtain⟨q,hq,rfl⟩:=cj.1 hp;rw[how];have:=h1.ent q hq;cases hq2:q.2 with
  | box cs =>
    rw[hq2] at this;obtain⟨b,c,e,e1,e2,e3⟩:=this;exact⟨b,c,e,e1,e2,wV hf' e3⟩
  | lit cs =>
    rw[hq2] at this;obtain⟨b,c,e,e1,e0,e2,e3⟩:=this;exact⟨b,c,e,by simpa using e1,by simpa using e0,e2,wV hf' e3⟩
  | abox pre k bs post =>
    rw[hq2] at this;obtain⟨hk,b,c,e,e1,e2,e3⟩:=this;exact⟨hk,b,c,e,e1,e2,A5z hf' e3⟩
  |_=>rw[hq2] at this;exact this
 ·have:(vO f H).map di=H.map di:=by simp[vO]
  rw[this];exact h1.nd
 ·intro p hp q hq hpq;obtain⟨p',hp',rfl⟩:=cj.1 hp;obtain⟨q',hq',rfl⟩:=cj.1 hq;exact h1.disj p' hp' q' hq' hpq
 ·intro p hp;obtain⟨p',hp',rfl⟩:=cj.1 hp;exact h1.mine p' hp'
 ·obtain⟨u,hu,rfl⟩:=A1s (f:=SV.map f) (l:=Γ) hl;obtain⟨h3,h4⟩:=h2.1 t u hu;rw[how];refine⟨h3,?_⟩;cases u with
  |c x=>exact hf' _ _ h4
  |agg l=>obtain⟨vs,e,hv⟩:=h4;exact⟨vs,e,wV hf' hv⟩
  |tup l=>obtain⟨vs,e,hv⟩:=h4;exact⟨vs,e,A0W hf' hv⟩
theorem shut {C:FC} (m:Nat) (f:CV->CV) (hs:Sat C Γ H a w)
 (hf:∀σ,tK C σ H w->∀s v,CVr (Ow C.G (tO H m) σ) w σ s v->CVr (Ow C.G (tO H m) σ) w σ (f s) v):Sat C (vC f Γ) (vO f (tO H m)) a w:=by
 obtain⟨σ,hσ,hE,hp⟩:=hs;have hsub:∀p∈tO H m,p∈H:=λp hp=>(uC.1 hp).1;obtain⟨h1,h2⟩:=A2F f (hσ.sub hsub (A08 hσ.nd)) (hE.sub hsub) (hf σ hσ);exact⟨σ,h1,h2,hp⟩
def A0x (m:Nat) (k:Kd) (xs:List k.ty):CV->CV
 |.h n=>if n=m then .imm (.slice k) xs else .h n
 |.sub n sz lo len=>if n=m/\sz=k.sz then .imm (.slice k) ((xs.drop lo).take len) else .sub n sz lo len
 |s=>s
def shutBox (m:Nat) (k:Kd) (x:k.ty):CV->CV
 |.h n=>if n=m then .ielt k x else .h n
 |s=>s
theorem A2v {O':Nat->Prop} {k:Kd} {xs:List k.ty} (h:tV O w k xs v) (hb:∀b,Bk v b->¬O' b) (ho:∀b,b<w.heap.size->¬O b->¬O' b):(Kd.slice k).R O' w xs [v]:=by
 obtain⟨A,cap,rfl,h⟩:=h;rcases h with⟨rfl,rfl⟩|⟨hp,hl,b,off,c,e,rfl,hh,hs,hr⟩;·exact⟨A,0,rfl,bp _,λi hi=>absurd hi (by simp)⟩
 ·refine⟨_,cap,rfl,hl,λi hi=>?_⟩;obtain⟨cs,hR,hc⟩:=hr i hi;refine⟨b,off,cs,rfl,hb b (by simp only[Bk,blk];rw[if_neg (by omega)]),uX (λ_ _ _=>rfl) ho hR,λj hj=>?_⟩;rw[cell_of_row w b _ c e (0,0) hh];exact hc j hj
theorem A68 {k:Kd} {xs:List k.ty} {l:Nat} (h:(Kd.slice k).R O w xs [.slice A l cap]) {lo:Nat} {A':Option Addr} {cap':Nat} (hlen:len<=cap') (hlo:lo+len<=l)
 (hcap:0<cap'->lo+cap'<=cap/\∃b off,A=some ⟨b,off,none⟩/\A'=some ⟨b,off+lo*k.sz,none⟩):(Kd.slice k).R O w ((xs.drop lo).take len) [.slice A' len cap']:=by
 obtain⟨A2,cap2,e,hl,hr⟩:=h;simp only[ia,and_true] at e;injection e with e1 e2 e3;subst e1 e3;have hlen':((xs.drop lo).take len).length=len:=by simp;omega
 refine⟨A',cap',by rw[hlen'],by rw[hlen'];exact hlen,λi hi=>?_⟩;rw[hlen'] at hi;obtain⟨b,off,c,rfl,hb,hR,hc⟩:=hr (lo+i) (by omega);obtain⟨_,b',off',e4,rfl⟩:=hcap (by omega);injection e4 with e4;injection e4 with e5 e6 _;subst e5 e6;refine⟨b,off+lo*k.sz,c,rfl,hb,by simpa using hR,λj hj=>?_⟩;rw[<-hc j hj];congr 2;rw[ey];omega
theorem A3c {C:FC} (h:tK C σ H w) {e:Ent} (hm:tJ H m=some e):∀b,Bk (σ m) b->¬Ow C.G (tO H m) σ b:=by
 rintro b hb (hg|⟨p,hp,hb'⟩);·exact(h.mine _ (tI hm) b hb).1 hg
 ·have hp':=uC.1 hp;exact h.disj p hp'.1 _ (tI hm) hp'.2 b hb' hb
theorem A3b {C:FC}:∀b,b<w.heap.size->¬Ow C.G H σ b->¬Ow C.G (tO H m) σ b:=by
 rintro b _ ho (hg|⟨p,hp,hb⟩);·exact ho (.inl hg)
 ·exact ho (.inr ⟨p,(uC.1 hp).1,hb⟩)
def Kd.rd1 (k:Kd) (s:SV):Option k.ty:=(s.cells).bind λl=>k.rd l
def SV.ofK (one:Bool) (k:Kd) (x:k.ty):Option SV:=
 if one then match k.svs x with
  |[y]=>some (.c y)
  |_=>none
 else some (.agg (k.svs x))
def SV.isC:SV->Bool
 |.c _=>true
 |_=>false
inductive Gh where
 |shut (m:Nat)
 |shutBox (m:Nat) (k:Kd)
 |read (t:Nat) (k:Kd)
 |readCell (m i:Nat) (k:Kd)
 |own (t:Nat)
 |nilSlot (t:Nat) (k:Kd)
 |nilCell (m i:Nat) (k:Kd)
 |arr (m:Nat) (k:Kd) (n:Nat)
def A0c (m nx sz:Nat):CV->CV
 |.h n=>if n=m then .elt nx sz 0 0 else .h n
 |s=>s
def CV.isNil:CV->Bool
 |.val (.slice none 0 0)=>true
 |.zc=>true
 |_=>false
def A00 (g:Gh) (s:St):Option St:=
 match g with
 |.shut m=>match tJ s.H m with
  |some (.row k xs)=>some ⟨vC (A0x m k xs) s.Γ,vO (A0x m k xs) (tO s.H m),s.nx⟩
  |_=>none
 |.shutBox m k=>match tJ s.H m with
  |some (.box cs)=>(k.rd cs).map λx=>⟨vC (Pal.shutBox m k x) s.Γ,vO (Pal.shutBox m k x) (tO s.H m),s.nx⟩
  |_=>none
 |.read t k=>match tJ s.Γ t with
  |some sv=>match k.rd1 sv with
   |some x=>(SV.ofK sv.isC k x).map λv=>⟨(t,v)::s.Γ,s.H,s.nx⟩
   |none=>none
  |none=>none
 |.readCell m i k=>match tJ s.H m with
  |some (.box cs)=>match cs[i]? with
   |some y=>match k.rd [y] with
    |some x=>match k.svs x with
     |[z]=>some ⟨s.Γ,(m,.box (cs.set i z))::tO s.H m,s.nx⟩
     |_=>none
    |none=>none
   |none=>none
  |_=>none
 |.own t=>match tJ s.Γ t with
  |some (.c (.sub m sz lo len))=>match tJ s.H m with
   |some (.row k xs)=>if sz=k.sz/\tY s.nx s.Γ s.H=true then some ⟨(t,.c (.h s.nx))::s.Γ,(s.nx,.row k ((xs.drop lo).take len))::tO s.H m,s.nx+1⟩ else none
   |_=>none
  |_=>none
 |.nilSlot t k=>match tJ s.Γ t with
  |some (.c y)=>if y.isNil/\tY s.nx s.Γ s.H=true then some ⟨(t,.c (.h s.nx))::s.Γ,(s.nx,.row k [])::s.H,s.nx+1⟩ else none
  |_=>none
 |.nilCell m i k=>match tJ s.H m with
  |some (.box cs)=>match cs[i]? with
   |some y=>if y.isNil/\tY s.nx s.Γ s.H=true then some ⟨s.Γ,(s.nx,.row k [])::(m,.box (cs.set i (.h s.nx)))::tO s.H m,s.nx+1⟩ else none
   |none=>none
  |_=>none
 |.arr m k n=>match tJ s.H m with
  |some (.box cs)=>match rdN k n cs with
   |some xs=>if (0<n/\n<=9223372036854775807)/\tY s.nx s.Γ s.H=true then some ⟨vC (A0c m s.nx k.sz) s.Γ,vO (A0c m s.nx k.sz) ((s.nx,.row k xs)::tO s.H m),s.nx+1⟩ else none
   |none=>none
  |_=>none
theorem yC {C:FC} {t:Nat} {sv:SV} (hE:tM C σ H w Γ a) (ht:t<C.N) (hv:SVr (Ow C.G H σ) w σ sv (a.tmps.getD t undef)):tM C σ H w ((t,sv)::Γ) a:=by
 refine⟨λu s hl=>?_,hE.2⟩;simp only[tJ] at hl;by_cases e:t=u
 ·subst e;rw[if_pos rfl] at hl;cases hl;exact⟨ht,hv⟩
 ·rw[if_neg e] at hl;exact hE.1 u s hl
theorem A2j {O:Nat->Prop} {w:World} {σ:Nat->Value} {z:CV}:∀{l:List CV} {vs:List Value} {i:Nat} {u:Value},CVs O w σ l vs->vs[i]? =some u->CVr O w σ z u->CVs O w σ (l.set i z) vs
 |[],[],_,_,_,_,_=>trivial
 |_::_,_::_,0,u,h,hu,hz=>by simp only[gh,dw] at hu;subst hu;exact⟨hz,h.2⟩
 |_::_,_::_,i+1,u,h,hu,hz=>⟨h.1,A2j h.2 (by simpa using hu) hz⟩
 |[],_::_,_,_,h,_,_=>h.elim
 |_::_,[],_,_,h,_,_=>h.elim
theorem A40 {y:CV} (h:y.isNil=true) (hv:CVr O w σ y v):∃A,v=.slice A 0 0:=by
 unfold CV.isNil at h;split at h;·cases hv;exact⟨none,rfl⟩
 ·exact hv
 ·cases h
theorem A0d {C:FC} (h:tK C σ H w) (hE:tM C σ H w Γ a) {cs:List CV} (hm:tJ H m=some (.box cs)) {z:CV}
 (hz:∀b c e u,uU (σ m) b e->w.heap[b]? =some (.cells c e (0,0))->CVs (Ow C.G H σ) w σ cs c.toList->c.toList[i]? =some u->CVr (Ow C.G H σ) w σ z u) (hi:i<cs.length) :
 tK C σ ((m,.box (cs.set i z))::tO H m) w/\tM C σ ((m,.box (cs.set i z))::tO H m) w Γ a:=by
 obtain⟨b,c,e,hs,hh,hc⟩:=h.ent _ (tI hm);have hl:=vH hc;have hil:i<c.toList.length:=by omega
 have hself:w.setRow b c=w:=setRow_self w b c e (0,0) hh;have:=z7 h hE hm (b:=b) (uU.own hs) (e':=.box (cs.set i z)) (c':=c)
  (by rw[hself];exact⟨b,c,e,hs,hh,A2j hc (bj hil) (hz b c e _ hs hh hc (bj hil))⟩)
 rw[hself] at this;exact⟨this.1,this.2.1.env⟩
theorem A64 {C:FC} {g:Gh} {s:St} (hg:A00 g s=some s') (hn:C.n0<=s.nx) (h:Sat C s.Γ s.H a w):Sat C s'.Γ s'.H a w:=by
 unfold A00 at hg;split at hg
 ·rename_i m;split at hg
  ·rename_i k xs hm;cases hg;refine shut m _ h λσ hσ t v ht=>?_;have hrow:tV (Ow C.G s.H σ) w k xs (σ m):=hσ.ent _ (tI hm);have himm:=A2v hrow (A3c hσ hm) A3b;cases t with
   | h n =>
     simp only[A0x];split;·rename_i e;subst e;cases ht;simp only[CVr];rw[v8 hrow];exact himm
     ·exact ht
   | sub n sz lo len =>
     simp only[A0x];split
     ·rename_i e;obtain⟨rfl,rfl⟩:=e;obtain⟨A,l,cap,A',cap',hsl,rfl,hlen,hlo,hcap⟩:=ht;rw[(v8 hrow).symm.trans hsl] at himm;exact A68 himm hlen hlo hcap
     ·exact ht
   |_=>exact ht
  ·cases hg
 ·rename_i m k;split at hg
  ·rename_i cs hm;obtain⟨x,hx,rfl⟩:=bf.1 hg;refine shut m _ h λσ hσ t v ht=>?_;cases t with
   | h n =>
     simp only[Pal.shutBox];split
     ·rename_i e;subst e;cases ht;obtain⟨b,c,e,hs,hh,hc⟩:=hσ.ent _ (tI hm);have hR:=xU hx hc;refine⟨b,0,c.toList,uU.hd hs,A3c hσ hm b (uU.own hs),uX (λ_ _ _=>rfl) A3b hR,λj hj=>?_⟩;rw[cell_of_row w b _ c e (0,0) hh];simp
     ·exact ht
   |_=>exact ht
  ·cases hg
 ·rename_i t k;split at hg
  ·rename_i sv hl;split at hg
   ·rename_i x hx;obtain⟨v,hv,rfl⟩:=bf.1 hg;obtain⟨σ,hσ,hE,hp⟩:=h;obtain⟨ht,hsv⟩:=hE.1 t sv hl;refine⟨σ,hσ,yC hE ht ?_,hp⟩;obtain⟨l,hcl,hrd⟩:=cz.1 hx;unfold SV.ofK at hv;cases sv with
    | c y =>
      cases hcl;simp only[SV.isC,if_true] at hv;split at hv
      ·rename_i z hz;cases hv;have hR:=xU (O:=Ow C.G s.H σ) (w:=w) (σ:=σ) (vs:=[a.tmps.getD t undef]) hrd ⟨hsv,trivial⟩;have:=wL (σ:=σ) hR;rw[hz] at this;exact this.1
      ·cases hv
    | agg l' =>
      cases hcl;simp only[SV.isC,iq,if_false] at hv;cases hv;obtain⟨vs,e,hvs⟩:=hsv;exact⟨vs,e,wL (xU hrd hvs)⟩
    |tup _=>cases hcl
   ·cases hg
  ·cases hg
 ·rename_i m i k;split at hg
  ·rename_i cs hm;split at hg
   ·rename_i y hy;split at hg
    ·rename_i x hx;split at hg
     ·rename_i z hz;cases hg;obtain⟨σ,hσ,hE,hp⟩:=h;have:=A0d (i:=i) (z:=z) hσ hE hm (λ_ _ _ u _ _ hcs hu=>by
       obtain⟨u',hu',hr⟩:=wU hcs hy;rw[hu] at hu';cases hu';have hR:=xU (O:=Ow C.G s.H σ) (w:=w) (σ:=σ) (vs:=[u]) hx ⟨hr,trivial⟩;have:=wL (σ:=σ) hR;rw[hz] at this;exact this.1) (dt.1 hy).1
      exact⟨σ,this.1,this.2,hp⟩
     ·cases hg
    ·cases hg
   ·cases hg
  ·cases hg
 ·rename_i t;split at hg
  ·rename_i m sz lo len hl;split at hg
   ·rename_i k xs hm;split at hg
    ·rename_i hcond;obtain⟨rfl,hf⟩:=hcond;cases hg;obtain⟨σ,hσ,hE,hp⟩:=h;obtain⟨ht,hsv⟩:=hE.1 t _ hl;obtain⟨A,l,cap,A',cap',hsl,hv,hlen,hlo,hcap⟩:=hsv;have hrow:tV (Ow C.G s.H σ) w k xs (σ m):=hσ.ent _ (tI hm);rw[v8 hrow] at hsl;have hlen':((xs.drop lo).take len).length=len:=by
      rw[hsl] at hrow;have:=(zF hrow).1;simp;omega
     have hsw:=y7 (w':=w) hσ hE hm hf k ((xs.drop lo).take len) (.slice A' len cap') (λ_ _ _=>rfl) (bp _) rfl rfl rfl
      (λb hb=>by
       refine .inl ?_;cases A' with
       |none=>simp[Bk,blk] at hb
       | some ad =>
         simp only[Bk,blk] at hb;split at hb;·cases hb
         ·rename_i hne;obtain⟨h1,b',off',rfl,e2⟩:=hcap (by omega);rw[hsl];simp only[Bk,blk];rw[if_neg (by omega)];injection e2 with e2;rw[e2] at hb;exact hb)
      (λO' _ hanti=>by
       rw[hsl] at hrow;obtain⟨A2,cap2,e2,hr⟩:=hrow;injection e2 with e3 e4 e5;subst e3 e5;refine⟨A',cap',by rw[hlen'],?_⟩;rcases Nat.eq_zero_or_pos cap' with rfl|hpos;·exact .inl ⟨rfl,bx (by rw[hlen'];omega)⟩
       ·obtain⟨h1,b,off,rfl,rfl⟩:=hcap hpos;rcases hr with⟨rfl,_⟩|⟨_,hlc,b',off',c,e,e6,hh,hsz,hr⟩;·omega
        ·injection e6 with e6;injection e6 with e7 e8 _;subst e7 e8;have hmul:(lo+cap')*k.sz<=cap*k.sz:=dl _ h1;rw[ey] at hmul;refine .inr ⟨⟨hpos,by omega⟩,by rw[hlen'];exact hlen,b,_,c,e,rfl,hh,by omega,λi hi=>?_⟩;rw[hlen'] at hi;obtain⟨cs,hR,hc⟩:=hr (lo+i) (by omega);refine⟨cs,uX (λ_ _ _=>rfl) hanti (by simpa using hR),λj hj=>?_⟩;rw[<-hc j hj];congr 1;rw[ey];omega)
     refine⟨_,hsw.1,yC hsw.2.env ht ?_,λn hlt=>?_⟩;·rw[hv];exact vT (O:=λ_=>False) (w:=w)
     ·rw[tT (by omega)];exact hp n hlt
    ·cases hg
   ·cases hg
  ·cases hg
 ·rename_i t k;split at hg
  ·rename_i y hl;split at hg
   ·rename_i hcond;obtain⟨hy,hf⟩:=hcond;cases hg;obtain⟨σ,hσ,hE,hp⟩:=h;obtain⟨ht,hsv⟩:=hE.1 t _ hl;obtain⟨A,hA⟩:=A40 hy hsv;have hal:=xL (w':=w) hσ hE hf k [] (.slice A 0 0) (λ_ _=>rfl) (bp _) rfl rfl rfl (λb hb=>by cases A<;>simp[Bk,blk] at hb) (λO' _=>⟨A,0,rfl,.inl ⟨rfl,rfl⟩⟩);refine⟨_,hal.1,yC hal.2.env ht ?_,λn hlt=>?_⟩;·rw[hA];exact vT (O:=λ_=>False) (w:=w)
    ·rw[tT (by omega)];exact hp n hlt
   ·cases hg
  ·cases hg
 ·rename_i m i k;split at hg
  ·rename_i cs hm;split at hg
   ·rename_i y hy;split at hg
    ·rename_i hcond;obtain⟨hnil,hf⟩:=hcond;cases hg;obtain⟨σ,hσ,hE,hp⟩:=h;have hmn:m≠s.nx:=(uI hf _ (tI hm)).1;obtain⟨b,c,e,hs,hh,hc⟩:=hσ.ent _ (tI hm);obtain⟨u,hu,hr⟩:=wU hc hy;obtain⟨A,hA⟩:=A40 hnil hr;have hal:=xL (w':=w) hσ hE hf k [] (.slice A 0 0) (λ_ _=>rfl) (bp _) rfl rfl rfl (λb hb=>by cases A<;>simp[Bk,blk] at hb) (λO' _=>⟨A,0,rfl,.inl ⟨rfl,rfl⟩⟩);have hm':tJ ((s.nx,Ent.row k [])::s.H) m=some (.box cs):=by
      simp only[tJ];rw[if_neg (λe=>hmn e.symm)];exact hm
     have hbt:=A0d (i:=i) (z:=.h s.nx) hal.1 hal.2.env hm' (λb2 c2 e2 u' hs2 hh2 _ hu'=>by
      have hs3:hd (σ m)=.pointer (some ⟨b2,0,none⟩):=by have:=uU.hd hs2;rwa[tT hmn] at this
      have hs4:hd (σ m)=.pointer (some ⟨b,0,none⟩):=uU.hd hs;rw[hs3] at hs4;injection hs4 with hs4;injection hs4 with hs4;injection hs4 with hs4 _ _;subst hs4;rw[hh] at hh2;injection hh2 with hh2;injection hh2 with hc3 _ _;subst hc3;rw[hu] at hu';cases hu';show u=hd (upd σ s.nx _ s.nx);rw[tQ,hA];rfl) (dt.1 hy).1
     have hperm:∀p,p∈((s.nx,Ent.row k [])::(m,Ent.box (cs.set i (.h s.nx)))::tO s.H m)->p∈(m,Ent.box (cs.set i (.h s.nx)))::tO ((s.nx,Ent.row k [])::s.H) m:=by
      intro p hp;have herase:tO ((s.nx,Ent.row k [])::s.H) m=(s.nx,Ent.row k [])::tO s.H m:=by unfold tO;rw[List.filter_cons,if_pos (by simpa using λe=>hmn e.symm)]
      rw[herase];simp only[bv] at hp ⊢;rcases hp with h1|h1|h1;·exact .inr (.inl h1)
      ·exact .inl h1
      ·exact .inr (.inr h1)
     have hnd:(((s.nx,Ent.row k [])::(m,Ent.box (cs.set i (.h s.nx)))::tO s.H m).map di).Nodup:=by
      simp only[dj,dy,bv,not_or];refine⟨⟨λe=>hmn e.symm,λhh=>?_⟩,λhh=>?_,A08 hσ.nd⟩
      ·obtain⟨p,hp,e⟩:=cj.1 hh;exact(uI hf p (uC.1 hp).1).1 e
      ·obtain⟨p,hp,e⟩:=cj.1 hh;exact(uC.1 hp).2 e
     exact⟨_,hbt.1.sub hperm hnd,hbt.2.sub hperm,λn hlt=>by rw[tT (by omega)];exact hp n hlt⟩
    ·cases hg
   ·cases hg
  ·cases hg
 ·rename_i m k n;split at hg
  ·rename_i cs hm;split at hg
   ·rename_i xs hxs;split at hg
    ·rename_i hcond;obtain⟨hn0,hf⟩:=hcond;cases hg;obtain⟨σ,hσ,hE,hp⟩:=h;have hmn:m≠s.nx:=(uI hf _ (tI hm)).1;obtain⟨b,c,e,hs,hh,hcv⟩:=hσ.ent _ (tI hm);have hs':uU (σ m) b e:=hs;obtain⟨hl1,hl2,hl3⟩:=A0B hxs hcv;have hsw:=y7 (w':=w) hσ hE hm hf k xs (.slice (some ⟨b,0,none⟩) n n) (λ_ _ _=>rfl) (bp _) rfl rfl rfl
      (λb' hb'=>by simp only[Bk,blk] at hb';rw[if_neg (by omega)] at hb';refine .inl ?_;exact hs'.bk.2 (fg hb').symm)
      (λO' _ hanti=>by
       refine⟨some ⟨b,0,none⟩,n,by rw[hl1],.inr ⟨hn0,by omega,b,0,c,e,rfl,hh,?_,λi hi=>?_⟩⟩
       ·have:c.toList.length=c.size:=by simp
        omega
       ·obtain⟨q,hR,hq⟩:=hl3 i hi;refine⟨q,uX (λ_ _ _=>rfl) hanti hR,λj hj=>?_⟩;rw[<-hq j hj,ew];simp)
     have hσm:hd (upd σ s.nx (.slice (some ⟨b,0,none⟩) n n) m)=.pointer (some ⟨b,0,none⟩):=by rw[tT hmn];exact hs'.hd
     have hrt:=A2F (A0c m s.nx k.sz) hsw.1 hsw.2.env (λt v ht=>by
      cases t with
      | h q =>
        simp only[A0c];split
        ·rename_i e;subst e;refine⟨b,0,n,n,by rw[tQ];rfl,hn0.1,?_⟩;rw[show v=_ from ht,hσm];simp
        ·exact ht
      |_=>exact ht)
     exact⟨_,hrt.1,hrt.2,λq hlt=>by rw[tT (by omega)];exact hp q hlt⟩
    ·cases hg
   ·cases hg
  ·cases hg
def xS:List Gh->St->Option St
 |[],s=>some s
 | g :: gs,s => match A00 g s with
     |some s'=>xS gs s'
     |none=>none
theorem A3n {g:Gh} {s:St} (h:A00 g s=some s'):s.nx<=s'.nx:=by
 unfold A00 at h;repeat' (split at h)
 all_goals first
  |(cases h;done)
  |(cases h;simp;done)
  |(obtain⟨_,_,rfl⟩:=bf.1 h;simp;done)
theorem A3p {C:FC}:∀{gs:List Gh} {s s':St} {a:Act} {w:World},xS gs s=some s'->C.n0<=s.nx->Sat C s.Γ s.H a w->Sat C s'.Γ s'.H a w
 |[],s,s',a,w,h,_,hs=>by cases h;exact hs
 | g :: gs,s,s',a,w,h,hn,hs => by
   simp only[xS] at h;split at h
   ·rename_i s1 h1;have:=A3n h1;exact A3p h (by omega) (A64 h1 hn hs)
   ·cases h
theorem A5N {C:FC} (gs:List Gh) (nx:Nat) (s':St) (h:xS gs ⟨Γ,H,nx⟩=some s') (hn:C.n0<=nx) (hr:VL P C cs Q s'.Γ s'.H):VL P C cs Q Γ H:=
 λa w hs=>hr a w (A3p h hn hs)
theorem A5O {C:FC} (m:Nat) {s:ByteArray} {pos:Nat} {k:Option Bool} (b:Bool) (hb:decide (pos<s.size)=b) (hm:tJ H m=some (.it s pos k))
 (h:VL P C cs Q Γ ((m,.it s pos (some b))::tO H m)):VL P C cs Q Γ H:=by
 rintro a w ⟨σ,hσ,hE,hp⟩;obtain⟨b0,e1,e2,e3,e4⟩:=hσ.ent _ (tI hm);have hst:=A4q (w':=w) (e':=.it s pos (some b)) hσ hE hm (by rw[show σ m=_ from e1];rfl) (λ_ _=>rfl) rfl rfl rfl rfl (λO=>⟨b0,e1,e2,λh=>by
  injection h with h;subst h;simpa using hb,λh=>by
  injection h with h;subst h;simpa using hb⟩)
 exact h a w ⟨σ,hst.1,hst.2.env,hp⟩
theorem A6n (hu:P.underlying t=some (.slice e)):(Op.equalIn (n+1) t (.slice A len cap) (.slice none 0 0)).run P w=.ok A.isNone w:=by cases A<;>simp[Op.equalIn,run_underlying hu]
theorem A35 {C:FC} {all:Array Oper} (t:Nat) {k:Kd} {xs:List k.ty} (ho:o.op=.binOp .eql ts x (.const (.slice none 0 0)) ty) (hg:o.guard=none) (hd:o.dst=some t)
 (hu:P.underlying ts=some (.slice e)) (ht:t<C.N) (hx:evc Γ x=some (.imm (.slice k) xs))
 (h1:xs=[]->VO P C all rest Q ((t,.c (.val (.bool true)))::Γ) H) (h2:VO P C all rest Q ((t,.c (.val (.bool false)))::Γ) H):VO P C all (o::rest) Q Γ H:=by
 rintro a w ⟨σ,hσ,hE,hp⟩;obtain⟨A,cap,hv,hl,hr⟩:=tX hE hx;have hv':a.eval x=.slice A xs.length cap:=by simpa using hv
 have hrun:∃b:Bool,(execOp a.eval o).run P w=.ok (.value (.bool b)) w/\(b=true->xs=[]):=by
  refine⟨A.isNone,?_,λh=>?_⟩
  ·have h1:(eqGuard .eql ts x (.const (.slice none 0 0)) (.slice A xs.length cap) (.slice none 0 0)).run P w=.ok () w:=by simp[eqGuard]
   have h2:(binOp .eql ts (.slice A xs.length cap) (.slice none 0 0)).run P w=.ok (.bool A.isNone) w:=by simp[binOp,Op.equal,Op.maxDepth,A6n hu]
   have h3:a.eval (.const (.slice none 0 0))=.slice none 0 0:=rfl;simp[execOp,ho,hv',h1,h2,h3]
  ·cases xs with
   |nil=>rfl
   |cons y ys=>obtain⟨b,off,c,hA,_⟩:=hr 0 (by simp);rw[hA] at h;cases h
 obtain⟨b,hrun,hb⟩:=hrun;have hw:gp o (yielded all a.tmps)=true:=by simp[gp,hg]
 unfold wpList;rw[if_pos hw];refine .inl ?_;unfold mb;rw[hrun];have hsat:Sat C ((t,.c (.val (.bool b)))::Γ) H (a.put o.dst (.bool b)) w:=by rw[hd];exact⟨σ,hσ,hE.put ht rfl,hp⟩
 cases b with
 |true=>exact h1 (hb rfl) _ _ hsat
 |false=>exact h2 _ _ hsat
theorem A5Y {C:FC} {all:Array Oper} (t:Nat) {c:CV} (ho:o.op=.move x) (hg:o.guard=none) (hd:o.dst=some t) (ht:t<C.N) (hx:evc Γ x=some c)
 (h:VO P C all rest Q ((t,.c c)::Γ) H):VO P C all (o::rest) Q Γ H:=by
 rintro a w ⟨σ,hσ,hE,hp⟩;have hr:=tX hE hx;have hrun:(execOp a.eval o).run P w=.ok (.value (a.eval x)) w:=by simp[execOp,ho]
 have hw:gp o (yielded all a.tmps)=true:=by simp[gp,hg]
 unfold wpList;rw[if_pos hw];refine .inl ?_;unfold mb;rw[hrun];have hsat:Sat C ((t,.c c)::Γ) H (a.put o.dst (a.eval x)) w:=by rw[hd];exact⟨σ,hσ,hE.put ht hr,hp⟩
 exact h _ _ hsat
theorem A5R {C:FC} {id:Nat} (t:Nat) {k:Kd} {xs:List k.ty} (ho:o.op=.binOp .eql ts x (.const (.slice none 0 0)) ty) (hg:o.guard=none) (hd:o.dst=some t)
 (hu:P.underlying ts=some (.slice e)) (ht:t<C.N) (hx:evc Γ x=some (.imm (.slice k) xs))
 (h1:xs=[]->VL P C cs Q ((t,.c (.val (.bool true)))::Γ) H) (h2:VL P C cs Q ((t,.c (.val (.bool false)))::Γ) H):VL P C (.region id #[o] false::cs) Q Γ H:=
 xK (A35 t ho hg hd hu ht hx (λh=>wI (h1 h)) (wI h2))
def SVs (O:Nat->Prop) (w:World) (σ:Nat->Value):List SV->List Value->Prop
 |[],[]=>True
 |s::l,v::vs=>SVr O w σ s v/\SVs O w σ l vs
 |_,_=>False
def cx (N:Nat) (G:Nat->Prop) (σ:Nat->Value) (H:tG) (w:World) (n0:Nat):FC:={N,G,B:=w,O0:=λb=>∃p∈H,Bk (σ p.1) b,n0,σ0:=σ}
theorem tK.cxN {N N':Nat} {G:Nat->Prop} {σ0:Nat->Value} {H0:tG} {w0:World} (h:tK (cx N G σ0 H0 w0 n0) σ H w):tK (cx N' G σ0 H0 w0 n0) σ H w:=
 ⟨h.ent,h.nd,h.disj,h.mine,⟨h.fr.os,h.fr.tape,h.fr.output,h.fr.size,h.fr.block,h.fr.gsize⟩⟩
def Spec (P:Program) (f:FuncId) (n0:Nat) (args:List SV) (H:tG) (res:SV) (H':tG):Prop:=
 ∀ (G:Nat→Prop) (σ:Nat→Value) (w:World) (vs:List Value),tK (cx 0 G σ H w n0) σ H w→SVs (Ow G H σ) w σ args vs→
   Calls P f vs.toArray w λe w'=>∃v σ',e=.returned v/\tK (cx 0 G σ H w n0) σ' H' w'/\SVr (Ow G H' σ') w' σ' res v/\∀n,n<n0->σ' n=σ n
def QF (P:Program) (C:FC) (fn:Func) (res:SV) (H':tG):Exit->Act->World->Prop:=
 bodyPost P fn λe w'=>∃v σ',e=.returned v/\tK C σ' H' w'/\SVr (Ow C.G H' σ') w' σ' res v/\∀n,n<C.n0->σ' n=C.σ0 n
def xO:Nat->List SV->Env
 |_,[]=>[]
 |i,s::l=>(i,s)::xO (i+1) l
theorem A30 {O:Nat->Prop} {w:World} {σ:Nat->Value}:∀{l:List SV} {vs:List Value},SVs O w σ l vs->l.length=vs.length
 |[],[],_=>rfl
 |_::_,_::_,h=>by simp[A30 h.2]
 |[],_::_,h=>h.elim
 |_::_,[],h=>h.elim
theorem A46 {O:Nat->Prop} {w:World} {σ:Nat->Value}:∀{l:List SV} {vs:List Value} {i t:Nat} {sv:SV},SVs O w σ l vs->tJ (xO i l) t=some sv->∃j,t=i+j/\∃v,vs[j]? =some v/\SVr O w σ sv v
 |[],_,_,_,_,_,h=>by simp[xO,tJ] at h
 | s :: l,v :: vs,i,t,sv,hs,h => by
   simp only[xO,tJ] at h;by_cases e:i=t
   ·rw[if_pos e] at h;cases h;exact⟨0,by omega,v,rfl,hs.1⟩
   ·rw[if_neg e] at h;obtain⟨j,hj,v',hv,hr⟩:=A46 hs.2 h;exact⟨j+1,by omega,v',by simpa using hv,hr⟩
 |_::_,[],_,_,_,hs,_=>hs.elim
theorem A5I {fn:Func} {args:List SV} {res:SV} (hf:P.funcs[f]? =some fn) (hb:fn.body=some c) (hlen:args.length<=fn.ntmps)
 (h:∀C:FC,C.N=fn.ntmps->C.n0=n0->VL P C [c] (QF P C fn res H') (xO 0 args) H):Spec P f n0 args H res H':=by
 intro G σ w vs hsat hargs;have hl:=A30 hargs;have:=h (cx fn.ntmps G σ H w n0) rfl rfl {tmps:=vs.toArray++pq (fn.ntmps-vs.length) undef,defers:=[]} w
  ⟨σ,hsat.cxN,⟨λt sv hl2=>by
   obtain⟨j,rfl,v,hv,hr⟩:=A46 hargs hl2;obtain⟨hj,hv'⟩:=dt.1 hv;refine⟨by show _<fn.ntmps;omega,?_⟩;rw[ew];have:(vs.toArray++pq (fn.ntmps-vs.length) undef).getD j undef=v:=by rw[fc,ff (by simpa using hj)];simp[hv]
   rw[this];exact hr,by simp[cx];omega,rfl⟩,λn _=>rfl⟩
 refine calls_of_wp hf hb ?_;simp only[wpL] at this;refine wp_mono (by simpa using this) λe a w' he=>?_;have he':QF P (cx fn.ntmps G σ H w n0) fn res H' e a w':=by cases e<;>exact he
 unfold QF at he';cases e with
 |normal=>obtain⟨hd,v,hr,v',σ',e1,h1,h2,h3⟩:=he';exact⟨hd,v,hr,v',σ',e1,h1.cxN,h2,h3⟩
 |ret=>obtain⟨hd,v,hr,v',σ',e1,h1,h2,h3⟩:=he';exact⟨hd,v,hr,v',σ',e1,h1.cxN,h2,h3⟩
 |panic ch=>obtain⟨_,v',σ',e1,_⟩:=he';cases e1
 |outgrown=>obtain⟨v',σ',e1,_⟩:=he';cases e1
 |exit i=>exact he'.elim
 |goto l=>exact he'.elim
def SV.comp:SV->Option (Bool×List CV)
 |.c x=>some (false,[x])
 |.agg l=>some (true,l)
 |.tup _=>none
def A0u (P:Program) (Γ:Env) (H:tG):ResultVar->Option (Bool×List CV)
 |.tmp t=>(tJ Γ t).bind SV.comp
 |.cell a t=>match tJ Γ a with
  |some (.c p)=>if A24 H p=true then (A12 P H t p).bind SV.comp else none
  |_=>none
def yT (P:Program) (Γ:Env) (H:tG) (rs:List ResultVar):Option SV:=
 match rs.mapM (A0u P Γ H) with
 |some [(false,[x])]=>some (.c x)
 |some [(true,l)]=>some (.agg l)
 |some [_]=>none
 |some l=>some (.tup l)
 |none=>none
theorem A3Q {s:SV} {p:Bool×List CV} (h:s.comp=some p) (hv:SVr O w σ s v):PVr O w σ p v:=by
 cases s with
 |c x=>cases h;exact hv
 |agg l=>cases h;exact hv
 |tup l=>cases h
theorem A4b {C:FC} {σ:Nat->Value} {H:tG} {w:World} {Γ:Env} {a:Act} (h:tK C σ H w) (hE:tM C σ H w Γ a) {g:ResultVar->Sem Value} (hg1:∀t,g (.tmp t)=pure (a.tmps.getD t undef))
 (hg2:∀a' t,g (.cell a' t)=do loadVar t (<-asAddr (a.tmps.getD a' undef))):∀{rs:List ResultVar} {ps:List (Bool×List CV)},rs.mapM (A0u P Γ H)=some ps->
 ∃vs,(rs.mapM g).run P w=.ok vs w/\PVs (Ow C.G H σ) w σ ps vs
 |[],ps,hs=>by cases hs;exact⟨[],rfl,trivial⟩
 | r :: rs,ps,hs => by
   rw[mu] at hs;obtain⟨q,hq,hs⟩:=cz.1 hs;obtain⟨qs,hqs,hs⟩:=cz.1 hs;cases hs;obtain⟨vs,hvs,hr⟩:=A4b h hE hg1 hg2 hqs;have key:∃v,(g r).run P w=.ok v w/\PVr (Ow C.G H σ) w σ q v:=by
    cases r with
    | tmp t =>
      obtain⟨sv,hl,hc⟩:=cz.1 hq;exact⟨_,by rw[hg1];rfl,A3Q hc (hE.1 t sv hl).2⟩
    | cell a' t =>
      simp only[A0u] at hq;split at hq
      ·rename_i p hl;split at hq
       ·obtain⟨sv,hl2,hc⟩:=cz.1 hq;obtain⟨b,off,u,hv,hrun,hu⟩:=A4X (P:=P) h (hE.1 a' _ hl).2 hl2;refine⟨u,?_,A3Q hc hu⟩;rw[hg2];simp only[fp,hv,asAddr,ie,ed,hrun]
       ·cases hq
      ·cases hq
   obtain⟨v,hv,hpv⟩:=key;refine⟨v::vs,?_,hpv,hr⟩;rw[mu];simp only[fp,hv,ed,hvs,ie]
theorem A6g {C:FC} (h:tK C σ H w) (hE:tM C σ H w Γ a) {fn:Func} {res:SV} (hr:yT P Γ H fn.results.toList=some res) :
 ∃v,(results fn a.tmps).run P w=.ok v w/\SVr (Ow C.G H σ) w σ res v:=by
 unfold yT at hr;have key:∀ps,fn.results.toList.mapM (A0u P Γ H)=some ps->∃vs:List Value,(results fn a.tmps).run P w=.ok (if h:vs.length=1 then vs[0] else .tuple vs.toArray) w/\PVs (Ow C.G H σ) w σ ps vs:=by
  intro ps hps;have e:fn.results=fn.results.toList.toArray:=by simp
  unfold results;rw[e,List.mapM_toArray];simp only[fp,Sem.run_map];obtain⟨vs,hvs,hp⟩:=A4b (P:=P) (g:=λx=>Go.results.match_1 (λ_=>Sem Value) x (λt=>pure (a.tmps.getD t undef)) (λa' t=>do loadVar t (<-asAddr (a.tmps.getD a' undef)))) h hE (λ_=>rfl) (λ_ _=>rfl) hps;refine⟨vs,?_,hp⟩;rw[hvs];simp
 split at hr
 ·rename_i x hps;cases hr;obtain⟨vs,hrun,hp⟩:=key _ hps;match vs,hp with
  |[v],hp=>exact⟨v,by simpa using hrun,hp.1⟩
  |[],hp=>exact hp.elim
  |_::_::_,hp=>exact hp.2.elim
 ·rename_i l hps;cases hr;obtain⟨vs,hrun,hp⟩:=key _ hps;match vs,hp with
  |[v],hp=>exact⟨v,by simpa using hrun,hp.1⟩
  |[],hp=>exact hp.elim
  |_::_::_,hp=>exact hp.2.elim
 ·cases hr
 ·rename_i l hn1 hn2 hn3 hps;cases hr;obtain⟨vs,hrun,hp⟩:=key _ hps;refine⟨_,hrun,?_⟩;have:vs.length≠1:=by
   intro e;match vs,hp,e with
   | [v],hp,_ =>
     match l,hp with
     |[q],hp=>exact hn3 q rfl
     |[],hp=>exact hp.elim
     |_::_::_,hp=>exact hp.2.elim
  rw[dif_neg this];exact⟨vs,rfl,hp⟩
 ·cases hr
def uS (P:Program) (f:FuncId):Bool:=
 match P.funcs[f]? with
 | some fn => !(fn.name == "runtime.NumGoroutine") && fn.body.isSome
 |none=>false
def A1y (P:Program) (t:TypeId) (name:String):Option FuncId:=
 match P.info? t,P.underlying t with
 |some i,some d=>match i.methods.find? (·.name==name) with
  |some m=>match m.path.toList,m.func,d with
   |_,_,.pointer _=>none
   |[],some (f,false),_=>if 0<P.types.size then some f else none
   |_,_,_=>none
  |none=>none
 |_,_=>none
def A23:Value->SV
 |.agg c=> .agg (c.toList.map CV.val)
 |v=> .c (.val v)
theorem A2k {O:Nat->Prop} {w:World} {σ:Nat->Value}:∀{l:List Value},CVs O w σ (l.map CV.val) l
 |[]=>trivial
 |_::_=>⟨rfl,A2k⟩
theorem A6a:SVr O w σ (A23 v) v:=by
 unfold A23;split
 ·rename_i c;exact⟨c.toList,by simp,A2k⟩
 ·exact rfl
theorem A6T {name:String} (h:A1y P t name=some f):∃n,P.types.size+wu=n+1/\(method (n+1) t v name).run P w=.ok (f,v) w:=by
 unfold A1y at h;split at h
 ·rename_i i d hi hu;split at h
  ·rename_i m hm;split at h;·cases h
   ·rename_i d1 _ _ d2 f' hp hf hnp;split at h
    ·rename_i hpos;cases h;refine⟨P.types.size+wu-1,by omega,?_⟩;have hti:(typeInfo t).run P w=.ok i w:=by simp[typeInfo,hi]
     have hr : (receiverAt t (.val v) false (if m.path.isEmpty then some ((name.splitOn ".").getLastD name) else none)).run P w = .ok v w := by
      cases d1 with
      |pointer e=>exact(hnp e rfl).elim
      |_=>simp[receiverAt,run_underlying hu,Place.get]
     simp only[method,fp,hti,ed,hm,hp,follow,ie,hf,hr]
    ·cases h
   ·cases h
  ·cases h
 ·cases h
def A1T (P:Program) (Γ:Env) (o:Oper):Option (FuncId×List SV):=
 match o.op with
 |.call {callee:= .value fop,args,..}=>match evc Γ fop with
  |some (.clo f caps)=>(args.toList.mapM (evo Γ)).map λl=>(f,l++caps.map λn=> .c (.h n))
  |_=>none
 |.call {callee:= .invoke recv name,args,..}=>match evc Γ recv with
  |some (.val (.iface t v))=>match A1y P t name with
   |some f=>(args.toList.mapM (evo Γ)).map λl=>(f,A23 v::l)
   |none=>none
  |_=>none
 |_=>none
theorem A1d {C:FC} {σ:Nat->Value} {H:tG} {w:World} {Γ:Env} {a:Act} (hE:tM C σ H w Γ a):∀{xs:List Operand} {l:List SV},xs.mapM (evo Γ)=some l->SVs (Ow C.G H σ) w σ l (xs.map a.eval)
 |[],l,h=>by cases h;trivial
 | x :: xs,l,h => by rw[mu] at h;obtain⟨q,hq,h⟩:=cz.1 h;obtain⟨qs,hqs,h⟩:=cz.1 h;cases h;exact⟨vF hE hq,A1d hE hqs⟩
theorem A2y {O:Nat->Prop} {w:World} {σ:Nat->Value}:∀{l m:List SV} {vs us:List Value},SVs O w σ l vs->SVs O w σ m us->SVs O w σ (l++m) (vs++us)
 |[],_,[],_,_,h2=>h2
 |_::_,_,_::_,_,h1,h2=>⟨h1.1,A2y h1.2 h2⟩
 |[],_,_::_,_,h,_=>h.elim
 |_::_,_,[],_,h,_=>h.elim
theorem A2z {O:Nat->Prop} {w:World} {σ:Nat->Value}:∀{l:List Nat},SVs O w σ (l.map λn=>.c (.h n)) (l.map λn=>hd (σ n))
 |[]=>trivial
 |_::_=>⟨rfl,A2z⟩
theorem A5q {C:FC} (hE:tM C σ H w Γ a) {args:List SV} (h:A1T P Γ o=some (f,args)) (hc:uS P f=true) :
 ∃vs,(execOp a.eval o).run P w=.ok (.enter f vs.toArray) w/\SVs (Ow C.G H σ) w σ args vs:=by
 unfold A1T at h;split at h
 ·rename_i fop args0 ts ho;split at h
  ·rename_i f' caps hf;obtain⟨l,hl,e⟩:=bf.1 h;cases e;have hfv:=tX hE hf;simp only[CVr] at hfv;refine⟨args0.toList.map a.eval++caps.map (λn=>hd (σ n)),?_,A2y (A1d hE hl) A2z⟩;unfold uS at hc;split at hc
   ·rename_i fn hfn;simp only[bq,iz] at hc;have h1 : (fn.name == "runtime.NumGoroutine") = false := hc.1;have h2:fn.body.isNone=false:=by
     have:=hc.2;cases hb:fn.body<;>simp_all
    have hargs : #[]++args0.map a.eval++(caps.map λn=>hd (σ n)).toArray=(args0.toList.map a.eval++caps.map λn=>hd (σ n)).toArray:=by apply ip;simp
    simp only[execOp,ho,resolve,hfv,Deferred.ofValue,fp,ie,ed,invoke,callFunc,run_program,hfn,h1,h2,iq,if_false,hargs]
   ·cases hc
  ·cases h
 ·rename_i recv name args0 ts ho;split at h
  ·rename_i t v hf;split at h
   ·rename_i f' hm;obtain⟨l,hl,e⟩:=bf.1 h;cases e;have hfv:a.eval recv=.iface t v:=tX hE hf;refine⟨v::args0.toList.map a.eval,?_,⟨A6a,A1d hE hl⟩⟩;obtain⟨n,hn,hmr⟩:=A6T (w:=w) (v:=v) hm;unfold uS at hc;split at hc
    ·rename_i fn hfn;simp only[bq,iz] at hc;have h1 : (fn.name == "runtime.NumGoroutine") = false := hc.1;have h2:fn.body.isNone=false:=by
      have:=hc.2;cases hb:fn.body<;>simp_all
     have hx:(#[vn t v]++args0.map a.eval).extract 1 (#[vn t v]++args0.map a.eval).size=args0.map a.eval:=by cases args0;simp[List.take_of_length_le]
     have h0:(#[vn t v]++args0.map a.eval)[0]? =some (.iface t v):=by rw[ff (Nat.zero_lt_one)];rfl
     have hargs : #[v]++args0.map a.eval=(v::args0.toList.map a.eval).toArray:=by apply ip;simp only[Array.toList_append,ma,List.singleton_append]
     simp only[execOp,ho,resolve,fp,ie,ed,invoke,h0,hx,callMethod,hfv,run_program,hn,hmr,callFunc,hfn,h1,h2,iq,if_false,hargs]
    ·cases hc
   ·cases h
  ·cases h
 ·cases h
def CV.names:CV->List Nat
 |.h n|.cell n _|.elt n _ _ _|.sub n _ _ _|.slf n _|.elm n _=>[n]
 |.clo _ caps=>caps
 |_=>[]
def SV.names:SV->List Nat
 |.c x=>x.names
 |.agg l=>l.flatMap CV.names
 |.tup l=>l.flatMap λp=>p.2.flatMap CV.names
def Ent.names:Ent->List Nat
 |.box cs=>cs.flatMap CV.names
 |.lit cs=>cs.flatMap CV.names
 |.sets _ last=>last.toList
 |.abox pre _ _ post=>pre.flatMap CV.names++post.flatMap CV.names
 |_=>[]
theorem A2g {s:CV} (h:s.has n=true):n∈s.names:=by cases s<;>simp_all [CV.has,CV.names]
theorem yH {l:List CV} (h:l.any (CV.has n)=true):n∈l.flatMap CV.names:=by rw[kk] at h;obtain⟨s,hs,hh⟩:=h;exact ll.2 ⟨s,hs,A2g hh⟩
theorem A5A {s:SV} (h:s.has n=true):n∈s.names:=by
 cases s with
 |c x=>exact A2g h
 |agg l=>exact yH h
 | tup l =>
   simp only[SV.has,kk] at h;obtain⟨p,hp,hh⟩:=h;exact ll.2 ⟨p,hp,yH (kk.2 hh)⟩
theorem A4y {e:Ent} (h:e.has n=true):n∈e.names:=by
 cases e with
 |box cs=>exact yH h
 |lit cs=>exact yH h
 |sets _ last=>cases last<;>simp_all [Ent.has,Ent.names]
 | abox _ _ _ _ =>
   rcases fl _ _▸h with h|h;·exact pk _ (yH h)
   ·exact nk _ (yH h)
 |_=>cases h
def A2E (ρ:List (Nat×Nat)) (n0 nx:Nat) (Γ:Env) (H H0:tG) (res:SV) (H':tG):Bool:=
 decide (ρ.map di).Nodup&&decide ((ρ.filter λp=>decide (n0<=p.1)).map gl).Nodup&&
 (ρ.filter λp=>decide (n0<=p.1)).all (λp=>decide (nx<=p.2)&&tY p.2 Γ H)&&
 (ρ.filter λp=>decide (p.1<n0)).all (λp=>((ρ.filter λq=>decide (n0<=q.1)).all λq=>p.2 !=q.2))&&
 (res.names++H'.flatMap λp=>p.1::p.2.names).all (λn=>(tJ ρ n).isSome)&&
 decide (H0.map λp=>rn ρ p.1).Nodup&&decide (H0.map di).Nodup&&decide ((uF ρ H'++tW H (H0.map λp=>rn ρ p.1)).map di).Nodup
theorem A3v {l:List (Nat×α)} {f:Nat×α->Nat} (hn:(l.map f).Nodup) {p q:Nat×α} (hp:p∈l) (hq:q∈l) (e:f p=f q):p=q:=by
 have hi:=ku.1 hn;obtain⟨i,hi1,rfl⟩:=fe hp;obtain⟨j,hj1,rfl⟩:=fe hq;rcases nn i j with hlt|rfl|hgt;·exact((fw.1 hi i j hi1 hj1 hlt) e).elim
 ·rfl
 ·exact((fw.1 hi j i hj1 hi1 hgt) e.symm).elim
theorem A32 {O O':Nat->Prop} {w:World} {σ:Nat->Value} {ρ:List (Nat×Nat)} (ho:∀b,b<w.heap.size->¬O b->¬O' b):∀{l:List SV} {vs:List Value},SVs O w σ (l.map (SV.ren ρ)) vs->SVs O' w (λn=>σ (rn ρ n)) l vs
 |[],[],_=>trivial
 |_::_,_::_,h=>⟨wP (λ_ _ _=>rfl) ho (A0Y.1 h.1),A32 ho h.2⟩
 |[],_::_,h=>h.elim
 |_::_,[],h=>h.elim
theorem A5K {C:FC} (h:tK C σ H w) (hE:tM C σ H w Γ a) (hpin:∀n,n<C.n0->σ n=C.σ0 n) {args0:List SV} {H0 H0':tG} {res0:SV}
 (hspec:Spec P f n0 args0 H0 res0 H0') (ρ:List (Nat×Nat)) {vs:List Value} (hargs:SVs (Ow C.G H σ) w σ (args0.map (SV.ren ρ)) vs) (hH0:uF ρ H0=uT H (H0.map λp=>rn ρ p.1)) (hnx:C.n0<=nx)
 (hok:A2E ρ n0 nx Γ H H0 res0 H0'=true) :
 Calls P f vs.toArray w λe w'=>∃v σ',e=.returned v/\tK C σ' (uF ρ H0'++tW H (H0.map λp=>rn ρ p.1)) w'/\u6 C σ σ' H (uF ρ H0'++tW H (H0.map λp=>rn ρ p.1)) w w' Γ a/\
  SVr (Ow C.G (uF ρ H0'++tW H (H0.map λp=>rn ρ p.1)) σ') w' σ' (res0.ren ρ) v/\(∀n,n∉(ρ.filter λp=>decide (n0<=p.1)).map gl->σ' n=σ n)/\∀n,n<C.n0->σ' n=C.σ0 n:=by
 simp only[A2E,bq,decide_eq_true_eq] at hok;obtain⟨⟨⟨⟨⟨⟨⟨hr1,hr2⟩,hr3⟩,hr4⟩,hr5⟩,hr6⟩,hr7⟩,hr8⟩:=hok;generalize hHr:tW H (H0.map λp=>rn ρ p.1)=Hr at *;have hrsub:∀p∈Hr,p∈H/\∀q∈H0,p.1≠rn ρ q.1:=by intro p hp;rw[<-hHr] at hp;have:=wE.1 hp;exact⟨this.1,λq hq e=>this.2 (cj.2 ⟨q,hq,e.symm⟩)⟩
 have h0sub:∀p∈H0,(rn ρ p.1,p.2.ren ρ)∈H:=by intro p hp;have:(rn ρ p.1,p.2.ren ρ)∈uF ρ H0:=cj.2 ⟨p,hp,rfl⟩;rw[hH0] at this;exact tI (A06 this).2
 have hinj:∀p∈H0,∀q∈H0,p.1≠q.1->rn ρ p.1≠rn ρ q.1:=by intro p hp q hq hne e;exact hne (by rw[A3v (f:=λp=>rn ρ p.1) hr6 hp hq e])
 let σc:Nat->Value:=λn=>σ (rn ρ n);let Gc:Nat->Prop:=Ow C.G Hr σ;have hsubO:∀b,Ow Gc H0 σc b->Ow C.G H σ b:=by
  rintro b ((hg|⟨p,hp,hb⟩)|⟨p,hp,hb⟩);·exact .inl hg
  ·exact .inr ⟨p,(hrsub p hp).1,hb⟩
  ·exact .inr ⟨_,h0sub p hp,hb⟩
 have hanti0:∀b,b<w.heap.size->¬Ow C.G H σ b->¬Ow Gc H0 σc b:=λb _ ho ho'=>ho (hsubO b ho');have hstart:tK (cx 0 Gc σc H0 w n0) σc H0 w:=by
  refine⟨λp hp=>?_,hr7,λp hp q hq hpq b hb hb'=>?_,λp hp b hb=>⟨?_,.inl ⟨p,hp,hb⟩⟩,⟨rfl,rfl,rfl,bp _,λ_ _ _=>rfl,λb hb=>?_⟩⟩;·exact yB (λ_ _ _=>rfl) hanti0 (λ_ _=>rfl) (A0S.1 (h.ent _ (h0sub p hp)))
  ·exact h.disj _ (h0sub p hp) _ (h0sub q hq) (hinj p hp q hq hpq) b hb hb'
  ·rintro (hg|⟨q,hq,hb'⟩);·exact(h.mine _ (h0sub p hp) b hb).1 hg
   ·exact h.disj q (hrsub q hq).1 _ (h0sub p hp) ((hrsub q hq).2 p hp) b hb' hb
  ·have:Ow C.G H σ b:=by
    rcases hb with hg|⟨p,hp,hb⟩;·exact .inl hg
    ·exact .inr ⟨p,(hrsub p hp).1,hb⟩
   exact A54 h this
 refine(hspec Gc σc w vs hstart (A32 hanti0 hargs)).mono ?_;rintro e w' ⟨v,σ',rfl,hs',hv',hpin'⟩;let new:=ρ.filter λp=>decide (n0<=p.1);have hnew:∀p∈new,p∈ρ/\n0<=p.1:=λp hp=>by simpa[new] using hp
 let σ2:Nat->Value:=λm=>match new.find? (λp=>p.2==m) with
  |some p=>σ' p.1
  |none=>σ m
 have hs2new:∀p∈new,σ2 p.2=σ' p.1:=by
  intro p hp;have:∃q,new.find? (λq=>q.2==p.2)=some q:=by
   cases hq:new.find? (λq=>q.2==p.2) with
   |some q=>exact⟨q,rfl⟩
   |none=>have:=tr.1 hq p hp;simp at this
  obtain⟨q,hq⟩:=this;have hqm:=List.mem_of_find?_eq_some hq;have hqe:q.2=p.2:=by simpa using List.find?_some hq
  have hi:=ku.1 hr2;have:q=p:=by
   obtain⟨i,hi1,e1⟩:=fe hqm;obtain⟨j,hj1,e2⟩:=fe hp;rcases nn i j with hlt|heq|hgt
   ·have:=fw.1 hi i j hi1 hj1 hlt;rw[e1,e2] at this;exact(this hqe).elim
   ·subst heq;rw[<-e1,<-e2]
   ·have:=fw.1 hi j i hj1 hi1 hgt;rw[e1,e2] at this;exact(this hqe.symm).elim
  show (match new.find? (λq=>q.2==p.2) with|some p=>σ' p.1|none=>σ p.2)=_;rw[hq,this]
 have hs2old:∀m,(∀p∈new,p.2≠m)->σ2 m=σ m:=by
  intro m hm;have:new.find? (λp=>p.2==m)=none:=tr.2 λp hp=>by simpa using hm p hp
  show (match new.find? (λq=>q.2==m) with|some p=>σ' p.1|none=>σ m)=_;rw[this]
 have hfree:∀p∈new,nx<=p.2/\tY p.2 Γ H=true:=by intro p hp;have:=cn.1 hr3 p hp;simpa using this
 have hcov:∀n,(tJ ρ n).isSome=true->σ2 (rn ρ n)=σ' n:=by
  intro n hn;obtain⟨m,hm⟩:=fz.1 hn;have hmem:=tI hm;have e:rn ρ n=m:=by simp[rn,hm]
  rw[e];by_cases hlt:n<n0
  ·rw[hs2old m (λp hp e2=>by
    have h4:=cn.1 hr4 (n,m) (by simp[hmem,hlt]);have:=cn.1 h4 p hp;simp at this;exact this e2.symm)]
   rw[hpin' n hlt];show _=σ (rn ρ n);rw[e]
  ·exact hs2new (n,m) (by simp[new,hmem];omega)
 have hcovN:∀n∈res0.names++H0'.flatMap (λp=>p.1::p.2.names),σ2 (rn ρ n)=σ' n:=λn hn=>hcov n (by simpa using cn.1 hr5 n hn);have hkey:∀p∈H0',σ2 (rn ρ p.1)=σ' p.1:=λp hp=>hcovN _ (nk _ (ll.2 ⟨p,hp,by simp⟩));have hentn:∀p∈H0',∀n,p.2.has n=true->σ2 (rn ρ n)=σ' n:=λp hp n hn=>hcovN _ (nk _ (ll.2 ⟨p,hp,by simp[A4y hn]⟩));have hold:∀p∈Hr,σ2 p.1=σ p.1:=λp hp=>hs2old _ λq hq e=>(uI (hfree q hq).2 p (hrsub p hp).1).1 e.symm;have holdn:∀p∈Hr,∀n,p.2.has n=true->σ2 n=σ n:=λp hp n hn=>hs2old _ λq hq e=>by have:=(uI (hfree q hq).2 p (hrsub p hp).1).2;rw[e,hn] at this;cases this
 have how:Ow C.G (uF ρ H0'++Hr) σ2=Ow Gc H0' σ':=by
  funext b;apply propext;constructor
  ·rintro (hg|⟨p,hp,hb⟩);·exact .inl (.inl hg)
   ·rcases cf.1 hp with hp|hp
    ·obtain⟨q,hq,rfl⟩:=cj.1 hp;exact .inr ⟨q,hq,by rw[<-hkey q hq];exact hb⟩
    ·exact .inl (.inr ⟨p,hp,by rw[<-hold p hp];exact hb⟩)
  ·rintro ((hg|⟨p,hp,hb⟩)|⟨q,hq,hb⟩);·exact .inl hg
   ·exact .inr ⟨p,nk _ hp,by rw[hold p hp];exact hb⟩
   ·exact .inr ⟨_,pk _ (cj.2 ⟨q,hq,rfl⟩),by show Bk (σ2 (rn ρ q.1)) b;rw[hkey q hq];exact hb⟩
 have hsame:∀b,b<w.heap.size->(∀p∈H0,¬Bk (σ (rn ρ p.1)) b)->w'.heap[b]? =w.heap[b]?:=λb hb hno=>hs'.fr.block b hb λ⟨p,hp,e⟩=>hno p hp e;have hso:uA (Ow C.G H σ) w w':=λb hb ho=>hsame b hb λp hp e=>ho (.inr ⟨_,h0sub p hp,e⟩);have hanti:∀b,b<w.heap.size->¬Ow C.G H σ b->¬Ow C.G (uF ρ H0'++Hr) σ2 b:=by
  intro b hb ho ho';rw[how] at ho';rcases ho' with (hg|⟨p,hp,e⟩)|⟨q,hq,e⟩;·exact ho (.inl hg)
  ·exact ho (.inr ⟨p,(hrsub p hp).1,e⟩)
  ·rcases (hs'.mine q hq b e).2 with⟨p,hp,e2⟩|hle;·exact ho (.inr ⟨_,h0sub p hp,e2⟩)
   ·exact absurd hle (by show ¬w.heap.size<=b;omega)
 refine⟨v,σ2,rfl,⟨λp hp=>?_,hr8,λp hp q hq hpq b hb hb'=>?_,λp hp b hb=>?_,?_⟩,⟨?_,hso,hanti⟩,?_,λn hn=>hs2old n λp hp e=>hn (cj.2 ⟨p,hp,e⟩),λn hn=>?_⟩
 ·rcases cf.1 hp with hp|hp
  ·obtain⟨q,hq,rfl⟩:=cj.1 hp;rw[how];refine A0S.2 ?_;exact A0R (hkey q hq) (hentn q hq) (hs'.ent q hq)
  ·refine A0R (hold p hp) (holdn p hp) (yB hso hanti (λb hb=>hsame b (xC (h.ent p (hrsub p hp).1) b hb) λq hq e=>?_) (h.ent p (hrsub p hp).1));exact h.disj p (hrsub p hp).1 _ (h0sub q hq) ((hrsub p hp).2 q hq) b hb e
 ·rcases cf.1 hp with hp|hp<;>rcases cf.1 hq with hq|hq
  ·obtain⟨p',hp',rfl⟩:=cj.1 hp;obtain⟨q',hq',rfl⟩:=cj.1 hq;rw[hkey p' hp'] at hb;rw[hkey q' hq'] at hb';exact hs'.disj p' hp' q' hq' (λe=>hpq (by rw[e])) b hb hb'
  ·obtain⟨p',hp',rfl⟩:=cj.1 hp;rw[hkey p' hp'] at hb;rw[hold q hq] at hb';exact(hs'.mine p' hp' b hb).1 (.inr ⟨q,hq,hb'⟩)
  ·obtain⟨q',hq',rfl⟩:=cj.1 hq;rw[hkey q' hq'] at hb';rw[hold p hp] at hb;exact(hs'.mine q' hq' b hb').1 (.inr ⟨p,hp,hb⟩)
  ·rw[hold p hp] at hb;rw[hold q hq] at hb';exact h.disj p (hrsub p hp).1 q (hrsub q hq).1 hpq b hb hb'
 ·rcases cf.1 hp with hp|hp
  ·obtain⟨q,hq,rfl⟩:=cj.1 hp;rw[hkey q hq] at hb;obtain⟨h1,h2⟩:=hs'.mine q hq b hb;refine⟨λhg=>h1 (.inl hg),?_⟩;rcases h2 with⟨p,hp,e⟩|hle;·exact(h.mine _ (h0sub p hp) b e).2
   ·exact .inr (fo h.fr.size hle)
  ·rw[hold p hp] at hb;exact h.mine p (hrsub p hp).1 b hb
 ·refine⟨hs'.fr.os.trans h.fr.os,hs'.fr.tape.trans h.fr.tape,hs'.fr.output.trans h.fr.output,fo h.fr.size hs'.fr.size,λb hb ho=>?_,h.fr.gsize⟩;rw[hsame b (Nat.lt_of_lt_of_le hb h.fr.size) λp hp e=>?_];·exact h.fr.block b hb ho
  ·rcases (h.mine _ (h0sub p hp) b e).2 with h1|h1;·exact ho h1
   ·omega
 ·refine hE.step hso hanti λt sv hl m hm=>hs2old _ λq hq e=>?_;have:=(hfree q hq).2;simp only[tY,bq,cn] at this;have:=this.1 _ (tI hl);rw[e,hm] at this;cases this
 ·rw[how];refine A0Y.2 (A1J (λn hn=>hcovN n (pk _ (A5A hn))) hv')
 ·rw[hs2old n λp hp e=>by have:=(hfree p hp).1;omega];exact hpin n hn
def St.pick (ts ns:List Nat) (s:St):St:=⟨wF s.Γ ts,uT s.H ns,s.nx⟩
theorem vV {p:Prop} [Decidable p] {x:Option α} {r:α} (h:(if p then x else none)=some r):p/\x=some r:=by
 split at h;·exact⟨by assumption,h⟩
 ·cases h
theorem A4H {x:Option α} {f:α->Option β} {r:β} (h:x.bind f=some r):∃y,x=some y/\f y=some r:=cz.1 h
def QP {Y R:Type} (C:FC) (r:R) (ι:Y->R) (Γm:Y->Env) (Hm:Y->tG) (Q:Exit->Act->World->Prop):Exit->Act->World->Prop
 |.normal,a,w=> ∃y,ι y=r/\Sat C (Γm y) (Hm y) a w
 |e,a,w=>Q e a w
theorem A5a {C:FC} {Y R:Type} (r:R) (ι:Y->R) (Γm:Y->Env) (Hm:Y->tG) (h1:VL P C [c] (QP C r ι Γm Hm Q) Γ H) (h2:∀y,ι y=r->VL P C cs Q (Γm y) (Hm y)) :
 VL P C (c::cs) Q Γ H:=by
 intro a w hs;have:=h1 a w hs;simp only[wpL] at this ⊢;refine wp_mono this λe a w he=>?_;cases e<;>first|(obtain⟨y,hy,he⟩:=he;exact h2 y hy _ _ he)|exact he
structure uW where
 f:FuncId
 m0:Nat
 args0:List SV
 H0:tG
 res0:SV
 H1:tG
 ρ:List (Nat×Nat)
 nx':Nat
structure wZ where
 v:SV
 H:tG
 nx:Nat
 ν:List Nat
 c:List Prop
 sl:List SV
 sr:List SV
 hl:List tG
 hr:List tG
 f:CV->CV
variable {d:wZ}
def isN (o:Oper):Bool:=
 match o.op with
 |.move _|.assign _|.pick _ _ _|.build _ _|.load _ _|.nilCheck _|.binOp _ _ _ _ _|.unOp _ _ _|.convert _ _ _|.makeFunc _ _ _|.slice _ _ _ _ _|.fieldAddr _ _ _|.field _ _ _|.indexAddr _ _ _|.index _ _ _|.extract _ _|.makeInterface _ _|.lookup _ _ _ _=>true
 |.call {callee:= .builtin .len,..}|.call {callee:= .builtin .max,..}|.call {callee:= .builtin .min,..}=>true
 |_=>false
def A16 (P:Program) (calls:List (Nat×uW)) (all:Array Oper) (R:Env) (H:tG) (nx i:Nat) (o:Oper):Option wZ:=
 match A0P all o R with
 |some false=>some ⟨.c (.val undef),H,nx,[],[],[],[],[],[],id⟩
 |some true=>match tJ calls i with
  |some ci=>match A1T P R o with
   |some (f,args)=>if f=ci.f/\nx<=ci.nx'/\A2E ci.ρ ci.m0 nx R H ci.H0 ci.res0 ci.H1=true then
    some ⟨ci.res0.ren ci.ρ,uF ci.ρ ci.H1++tW H (ci.H0.map λp=>rn ci.ρ p.1),ci.nx',(ci.ρ.filter λp=>decide (ci.m0<=p.1)).map gl,[],ci.args0.map (SV.ren ci.ρ),args,[uF ci.ρ ci.H0],[uT H (ci.H0.map λp=>rn ci.ρ p.1)],id⟩ else none
   |none=>none
  |none=>match yZ P R H nx o with
   |some out=>some ⟨out.v,out.H,out.nx,if out.nx=nx then [] else [nx],out.c,[],[],[],[],id⟩
   |none=>(z6 P R H nx o).map λout=>⟨out.v,out.H,out.nx,if out.nx=nx then [] else [nx],out.c,[],[],[],[],out.f⟩
 |none=>none
def Tri (P:Program) (C:FC) (all:Array Oper) (R:Env) (H:tG) (o:Oper) (v:SV) (H':tG) (ν:List Nat):Prop:=
 ∀ σ a w,tK C σ H w→tM C σ H w R a→(∀ n,n<C.n0→σ n=C.σ0 n)→
   (gp o (yielded all a.tmps)=false/\v=.c (.val undef)/\H'=H)\/
   (gp o (yielded all a.tmps)=true/\
    ∀(K:Act->World->Prop) (Q:Exit->Act->World->Prop),(∀u w' σ',tK C σ' H' w'->SVr (Ow C.G H' σ') w' σ' v u->uA (Ow C.G H σ) w w'->(∀b,b<w.heap.size->¬Ow C.G H σ b->¬Ow C.G H' σ' b)->
     (∀n,n∉ν->σ' n=σ n)->(∀n,n<C.n0->σ' n=C.σ0 n)->K (a.put o.dst u) w')->o.wp P a w K Q)
def yE (P:Program) (C:FC) (all:Array Oper) (R:Env) (H:tG) (o:Oper) (v:SV) (H':tG) (ν:List Nat) (f:CV->CV):Prop:=
 ∀ σ a w,tK C σ H w→tM C σ H w R a→(∀ n,n<C.n0→σ n=C.σ0 n)→
   (gp o (yielded all a.tmps)=false/\v=.c (.val undef)/\H'=H/\f=id)\/
   (gp o (yielded all a.tmps)=true/\
    ∀(K:Act->World->Prop) (Q:Exit->Act->World->Prop),(∀u w' σ',tK C σ' H' w'->SVr (Ow C.G H' σ') w' σ' v u->uA (Ow C.G H σ) w w'->(∀b,b<w.heap.size->¬Ow C.G H σ b->¬Ow C.G H' σ' b)->
     (∀n,n∉ν->σ' n=σ n)->(∀n,n<C.n0->σ' n=C.σ0 n)->(∀s v,CVr (Ow C.G H' σ') w' σ' s v->CVr (Ow C.G H' σ') w' σ' (f s) v)->K (a.put o.dst u) w')->o.wp P a w K Q)
theorem yE.tri {C:FC} {all:Array Oper} {v:SV} {ν:List Nat} {f:CV->CV} (h:yE P C all R H o v H' ν f):Tri P C all R H o v H' ν:=λσ a w hσ hE hp=>
 (h σ a w hσ hE hp).imp (λh=>⟨h.1,h.2.1,h.2.2.1⟩) λh=>⟨h.1,λK Q hK=>h.2 K Q λu w' σ' h1 h2 h3 h4 h5 h6 _=>hK u w' σ' h1 h2 h3 h4 h5 h6⟩
theorem A7a {C:FC} {calls:List (Nat×uW)} {all:Array Oper} (hcalls:∀p∈calls,Spec P p.2.f p.2.m0 p.2.args0 p.2.H0 p.2.res0 p.2.H1/\uS P p.2.f=true)
 (h:A16 P calls all R H nx i o=some d) (hnx:C.n0<=nx) (hc:tL d.c) (hs:d.sl=d.sr) (hh:d.hl=d.hr):yE P C all R H o d.v d.H d.ν d.f/\nx<=d.nx:=by
 unfold A16 at h;split at h
 ·rename_i hw;cases h;refine⟨λσ a w hσ hE hp=>.inl ⟨y8 ⟨σ,hσ,hE,hp⟩ hw,rfl,rfl,rfl⟩,bp _⟩
 ·rename_i hw;split at h
  ·rename_i ci hci;split at h
   ·rename_i f args hcall;split at h
    ·rename_i hcond;obtain⟨rfl,hle,hok⟩:=hcond;cases h;simp only at hs hh;obtain⟨hspec,hcb⟩:=hcalls _ (tI hci);refine⟨λσ a w hσ hE hp=>.inr ⟨y8 ⟨σ,hσ,hE,hp⟩ hw,λK Q hK=>?_⟩,hle⟩;obtain⟨vs,hrun,hvs⟩:=A5q (P:=P) hE hcall hcb;unfold mb;rw[hrun,Oper.upon_enter];rw[<-hs] at hvs;refine(A5K hσ hE hp hspec ci.ρ hvs (by simpa using hh) hnx hok).mono ?_;rintro e w' ⟨v,σ',rfl,h1,h2,h3,h5,h6⟩;exact hK v w' σ' h1 h3 h2.so h2.anti h5 h6 λ_ _ h=>h
    ·cases h
   ·cases h
  ·split at h
   ·rename_i out hout;cases h;refine⟨λσ a w hσ hE hp=>.inr ⟨y8 ⟨σ,hσ,hE,hp⟩ hw,λK Q hK=>?_⟩,A2Y hout⟩;obtain⟨u,w',σ',hrun,h1,h2,h3,h4⟩:=A4o hσ hE hout hc;have hk:=hK u w' σ' h1 h3 h2.so h2.anti (λn hn=>h4 n (by
     by_cases e:out.nx=nx;·exact .inr e
     ·rw[if_neg e] at hn;exact .inl (by simpa using hn))) (λn hlt=>(h4 n (.inl (by omega))).trans (hp n hlt)) λ_ _ h=>h
    rcases hrun with hrun|⟨hrun,rfl⟩
    ·unfold mb;rw[hrun];exact hk
    ·unfold mb;rw[hrun];exact hk
   ·obtain⟨out,hout,rfl⟩:=bf.1 h;refine⟨λσ a w hσ hE hp=>.inr ⟨y8 ⟨σ,hσ,hE,hp⟩ hw,λK Q hK=>?_⟩,A2Z hout⟩;obtain⟨⟨u,w',σ',hrun,h1,h2,h3,h4,h5⟩,_⟩:=A4p hσ hE hout hc;have hk:=hK u w' σ' h1 h3 h2.so h2.anti (λn hn=>h4 n (by
     by_cases e:out.nx=nx;·exact .inr e
     ·rw[if_neg e] at hn;exact .inl (by simpa using hn))) (λn hlt=>(h4 n (.inl (by omega))).trans (hp n hlt)) h5
    rcases hrun with hrun|⟨hrun,rfl⟩
    ·unfold mb;rw[hrun];exact hk
    ·unfold mb;rw[hrun];exact hk
 ·cases h
def vP (kn:List (Nat×Bool)) (o:Oper) (d:wZ):wZ:=
 match o.dst with
 |some t=>match tJ kn t,d.v with
  |some c,.c (.val (.bool b))=>⟨.c (.val (.bool c)),d.H,d.nx,d.ν,(b=c)::d.c,d.sl,d.sr,d.hl,d.hr,d.f⟩
  |_,_=>d
 |none=>d
def yY (P:Program) (calls:List (Nat×uW)) (kn:List (Nat×Bool)) (all:Array Oper) (R:Env) (H:tG) (nx i:Nat) (o:Oper):Option wZ:=
 (A16 P calls all R H nx i o).map (vP kn o)
theorem A6v (h:tL (vP kn o d).c):(vP kn o d).v=d.v/\tL d.c/\(vP kn o d).H=d.H/\(vP kn o d).nx=d.nx/\(vP kn o d).ν=d.ν/\
 (vP kn o d).sl=d.sl/\(vP kn o d).sr=d.sr/\(vP kn o d).hl=d.hl/\(vP kn o d).hr=d.hr/\(vP kn o d).f=d.f:=by
 unfold vP at h ⊢;split
 ·split
  ·rename_i hd _ _ c b hk hv;rw[hd] at h;simp only[hk,hv] at h;rw[zJ] at h;exact⟨by rw[hv,h.1],h.2,rfl,rfl,rfl,rfl,rfl,rfl,rfl,rfl⟩
  ·rename_i hd _ _ hno;rw[hd] at h;simp only at h;refine⟨rfl,?_,rfl,rfl,rfl,rfl,rfl,rfl,rfl,rfl⟩;exact h
 ·rename_i hd;rw[hd] at h;exact⟨rfl,h,rfl,rfl,rfl,rfl,rfl,rfl,rfl,rfl⟩
theorem A4n {C:FC} {calls:List (Nat×uW)} {all:Array Oper} (hcalls:∀p∈calls,Spec P p.2.f p.2.m0 p.2.args0 p.2.H0 p.2.res0 p.2.H1/\uS P p.2.f=true)
 (h:yY P calls kn all R H nx i o=some d) (hnx:C.n0<=nx) (hc:tL d.c) (hs:d.sl=d.sr) (hh:d.hl=d.hr):yE P C all R H o d.v d.H d.ν d.f/\nx<=d.nx:=by
 obtain⟨d0,h0,rfl⟩:=bf.1 h;obtain⟨e1,e2,e3,e4,e5,e6,e7,e8,e9,e10⟩:=A6v hc;rw[e6,e7] at hs;rw[e8,e9] at hh;rw[e1,e3,e4,e5,e10];exact A7a hcalls h0 hnx e2 hs hh
theorem A7b {calls:List (Nat×uW)} {all:Array Oper} (h:yY P calls kn all R H nx i o=some d):nx<=d.nx:=by
 obtain⟨d0,h0,rfl⟩:=bf.1 h;have e:(vP kn o d0).nx=d0.nx:=by
  unfold vP;split;·split<;>rfl
  ·rfl
 rw[e];unfold A16 at h0;split at h0;·cases h0;exact bp _
 ·split at h0
  ·split at h0
   ·split at h0
    ·rename_i hc;cases h0;exact hc.2.1
    ·cases h0
   ·cases h0
  ·split at h0
   ·rename_i out hout;cases h0;exact A2Y hout
   ·obtain⟨out,hout,rfl⟩:=bf.1 h0;exact A2Z hout
 ·cases h0
def wJ (o:Oper):List Nat:=(o.after.toList.filter (Region.binds .any)).map (·.on)
def A05 (o:Oper) (acc:List Nat):Nat:=(wJ o).foldl (λs e=>s|||(2 ^ e|||acc.getD e 0)) 0
def uJ:List Oper->List Nat->List Nat
 |[],acc=>acc
 |o::os,acc=>uJ os (acc++[A05 o acc])
theorem A4r {acc:List Nat} {j:Nat}:∀{es:List Nat} {s:Nat},(es.foldl (λs e=>s|||(2 ^ e|||acc.getD e 0)) s).testBit j=true->s.testBit j=true\/∃e∈es,j=e\/(acc.getD e 0).testBit j=true
 |[],s,h=> .inl h
 | e :: es,s,h => by
   rcases A4r (es:=es) h with h|⟨e',he',h⟩
   ·rw[wx,wx,fl,fl] at h;rcases h with h|h|h;·exact .inl h
    ·refine .inr ⟨e,by simp,.inl ?_⟩;rw[Nat.testBit_two_pow] at h;exact(of_decide_eq_true h).symm
    ·exact .inr ⟨e,by simp,.inr h⟩
   ·exact .inr ⟨e',by simp[he'],h⟩
def w7 (ops:List Oper) (D:Nat->Bool):Prop:=∀i o,ops[i]? =some o->D i=true->∀e∈wJ o,D e=true
theorem A4C {D:Nat->Bool}:∀{os:List Oper} {acc:List Nat} {all:List Oper} (_:w7 all D) (_:∀i o,os[i]? =some o->all[acc.length+i]? =some o)
 (_:∀i j,D i=true->(acc.getD i 0).testBit j=true->D j=true),∀i j,D i=true->((uJ os acc).getD i 0).testBit j=true->D j=true
 |[],acc,all,hcl,hos,hacc=>hacc
 | o :: os,acc,all,hcl,hos,hacc => by
   refine A4C (os:=os) (acc:=acc++[A05 o acc]) hcl (λi o' h=>by have:=hos (i+1) o' (by simpa using h);rw[cy];simpa[lc,Nat.add_comm 1 i] using this) (λi j hi hj=>?_)
   rcases nn i acc.length with hlt|heq|hgt
   ·refine hacc i j hi ?_;simpa[bb,dk hlt] using hj
   ·subst heq;have hj':(A05 o acc).testBit j=true:=by simpa[bb] using hj
    rcases A4r hj' with h|⟨e,he,h⟩;·simp at h
    ·have hDe:=hcl acc.length o (by simpa using hos 0 o rfl) hi e he;rcases h with rfl|h;·exact hDe
     ·exact hacc e j hDe h
   ·have:(acc++[A05 o acc]).getD i 0=0:=by simp[bb,li (show (acc++[A05 o acc]).length<=i by simp;omega)]
    rw[this] at hj;simp at hj
def anc (ms:List Nat) (i j:Nat):Bool:=(ms.getD i 0).testBit j
theorem yG {ops:List Oper} (hcl:w7 ops D) (hi:D i=true) (h:anc (uJ ops []) i j=true):D j=true:=
 A4C (os:=ops) (acc:=[]) hcl (by simp) (by simp) i j hi h
def wA (ops:List Oper) (t:Nat):Option Nat:=ops.findIdx? λo=>o.dst==some t
def A0G (all:Array Oper) (o:Oper):List Nat:=
 (o.op.operands.toList.filterMap λx=>match x with|.tmp t=>some t|_=>none)++
 (match o.guard with|some (j,_)=>((all[j]?).bind (·.dst)).toList|none=>[])
def A4d (ms:List Nat) (ops:List Oper) (vs:List SV) (Γ0:Env) (i t:Nat):Option (Nat×SV):=
 match wA ops t with
 |none=>(tJ Γ0 t).map λv=>(t,v)
 |some j=>if j=i then none else if anc ms i j=true then (vs[j]?).map λv=>(t,v) else if anc ms j i=true then (tJ Γ0 t).map λv=>(t,v) else none
def A0g (ms:List Nat) (ops:List Oper) (vs:List SV) (Γ0:Env) (i:Nat) (ts:List Nat):Option Env:=ts.mapM (A4d ms ops vs Γ0 i)
def yO (H:tG) (f:CV->CV):List (Nat×Nat):=H.filterMap λp=>match f (.h p.1) with
 |.h m=>if m=p.1 then none else some (p.1,m)
 |_=>none
theorem A6K:yO H id=[]:=by unfold yO;rw[List.filterMap_eq_nil_iff];intro p _;simp
def A1K (P:Program) (C:FC) (all:Array Oper) (R:Env) (H:tG) (o:Oper) (v:SV) (H':tG) (ν:List Nat) (L:List (Nat×Nat)):Prop:=
 ∀ σ a w,tK C σ H w→tM C σ H w R a→(∀ n,n<C.n0→σ n=C.σ0 n)→
   (gp o (yielded all a.tmps)=false/\v=.c (.val undef)/\H'=H/\L=[])\/
   (gp o (yielded all a.tmps)=true/\
    ∀(K:Act->World->Prop) (Q:Exit->Act->World->Prop),(∀u w' σ',tK C σ' H' w'->SVr (Ow C.G H' σ') w' σ' v u->uA (Ow C.G H σ) w w'->(∀b,b<w.heap.size->¬Ow C.G H σ b->¬Ow C.G H' σ' b)->
     (∀n,n∉ν->σ' n=σ n)->(∀n,n<C.n0->σ' n=C.σ0 n)->(∀l∈L,hd (σ' l.2)=hd (σ' l.1))->K (a.put o.dst u) w')->o.wp P a w K Q)
theorem yE.triL {C:FC} {all:Array Oper} {v:SV} {ν:List Nat} {f:CV->CV} (h:yE P C all R H o v H' ν f):A1K P C all R H o v H' ν (yO H f):=λσ a w hσ hE hp=>
 (h σ a w hσ hE hp).imp (λh=>⟨h.1,h.2.1,h.2.2.1,by rw[h.2.2.2];exact A6K⟩) λh=>⟨h.1,λK Q hK=>h.2 K Q λu w' σ' h1 h2 h3 h4 h5 h6 h7=>hK u w' σ' h1 h2 h3 h4 h5 h6 λl hl=>by
  obtain⟨p,_,hp⟩:=ez.1 hl;split at hp
  ·rename_i m hm;split at hp;·cases hp
   ·cases hp;have:=h7 (.h p.1) _ rfl;rw[hm] at this;exact this.symm
  ·cases hp⟩
def reL:List (Nat×Nat)->CV->CV
 |[],s=>s
 |l::L,s=>reL L (reH l.1 l.2 s)
theorem A4Q {O:Nat->Prop} {w:World} {σ:Nat->Value}:∀{L:List (Nat×Nat)},(∀l∈L,hd (σ l.2)=hd (σ l.1))->∀s v,CVr O w σ s v->CVr O w σ (reL L s) v
 |[],_,_,_,h=>h
 |l::L,hL,s,v,h=>A4Q (L:=L) (λl' hl=>hL l' (cg _ hl)) _ v (xV (hL l de) h)
def xX (L:List (Nat×Nat)) (Γ:Env):Env:=match L with
 |[]=>Γ
 |L=>vC (reL L) Γ
theorem A4R {C:FC} {L:List (Nat×Nat)} (hL:∀l∈L,hd (σ l.2)=hd (σ l.1)) (h:tM C σ H w Γ a):tM C σ H w (xX L Γ) a:=by
 unfold xX;split;·exact h
 ·exact A0T h (A4Q hL)
structure DR where
 vs:List SV
 nxs:List Nat
 W:List Nat
 nx:Nat
 ls:List (List (Nat×Nat))
def A04 (ms W:List Nat) (ls:List (List (Nat×Nat))) (i:Nat):List (Nat×Nat):=W.flatMap λj=>if anc ms i j=true then ls.getD j [] else []
def A1a (ms:List Nat) (ops:List Oper) (r:DR) (Γ0:Env) (i:Nat) (ts:List Nat):Option Env:=(A0g ms ops r.vs Γ0 i ts).map (xX (A04 ms r.W r.ls i))
def A6e (calls:List (Nat×uW)) (i:Nat):Bool:=
 match tJ calls i with
 |some ci=>ci.H0.isEmpty&&ci.H1.isEmpty
 |none=>false
def A1X (P:Program) (calls:List (Nat×uW)) (kn:List (Nat×Bool)) (all:Array Oper) (ops:List Oper) (ms:List Nat) (Γ0:Env):Nat->List Oper->tG->DR->Option DR
 |_,[],_,r=>some r
 |i,o::os,H,r=>match A1a ms ops r Γ0 i (A0G all o) with
  |some R=>match yY P calls kn all R H r.nx i o with
   |some d=>if (A0P all o R==some true&&!isN o&&!A6e calls i)=true then A1X P calls kn all ops ms Γ0 (i+1) os d.H ⟨r.vs++[d.v],r.nxs++[r.nx],r.W++[i],d.nx,r.ls++[yO H d.f]⟩
    else A1X P calls kn all ops ms Γ0 (i+1) os H ⟨r.vs++[d.v],r.nxs++[r.nx],r.W,r.nx,r.ls++[yO H d.f]⟩
   |none=>none
  |none=>none
def A3w (n:Nat):List Nat->List Nat
 |[]=>[n]
 |m::l=>if n<=m then n::m::l else m::A3w n l
def A5r (H:tG):tG:=uT H ((H.map di).foldr A3w [])
def A1i (P:Program) (calls:List (Nat×uW)) (kn:List (Nat×Bool)) (all:Array Oper) (ops:List Oper) (ms:List Nat) (Γ0:Env) (r:DR) (m:List Nat):List Nat->tG->Option tG
 |[],H=>some (A5r H)
 | j :: l,H => if m.contains j then
     match ops[j]?,r.nxs[j]? with
     |some o,some nx=>match A1a ms ops r Γ0 j (A0G all o) with
      |some R=>match yY P calls kn all R H nx j o with
       |some d=>A1i P calls kn all ops ms Γ0 r m l d.H
       |none=>none
      |none=>none
     |_,_=>none
  else A1i P calls kn all ops ms Γ0 r m l H
def A3s (ms W:List Nat):List Nat->List (List Nat)->List (List Nat)
 |[],ks=>ks
 |w::l,ks=>A3s ms W l (ks++(ks.filter λm=>W.all λj=> !anc ms w j||m.contains j).map (·++[w]))
abbrev Tab:=List (List Nat×tG)
def wC:Tab->List Nat->Option tG
 |[],_=>none
 |(k,H)::l,m=>if k=m then some H else wC l m
def A07 (W m:List Nat) (i:Nat):List Nat:=W.filter λj=>m.contains j||j==i
def xP (ms W m:List Nat) (i:Nat):Bool:=!m.contains i&&W.all λj=>(!anc ms i j||m.contains j)&&(!m.contains j||!anc ms j i)
structure CR where
 c:List Prop
 e1:List SV×List SV
 e2:List tG×List tG
def zW (N:Nat) (o:Oper):Bool:=match o.dst with|some t=>decide (t<N)|none=>true
def zO (P:Program) (N:Nat) (calls:List (Nat×uW)) (kn:List (Nat×Bool)) (all:Array Oper) (ops:List Oper) (ms:List Nat) (Γ0:Env) (r:DR) (T:Tab) (i:Nat) (m:List Nat) (H:tG):Option CR:=
 match ops[i]?,r.vs[i]?,r.nxs[i]? with
 |some o,some v,some nx=>match A1a ms ops r Γ0 i (A0G all o) with
  |some R=>match yY P calls kn all R H nx i o with
   |some d=>match wC T (A07 r.W m i) with
    |some H'=>if zW N o=true/\decide (H'.map di).Nodup=true /\
     (d.ν.all λn=>(Γ0.all λp=>!p.2.has n)&&(gy ops.length).all λj=>j==i||anc ms j i||!((r.vs.getD j (.c .zc)).has n))=true/\
     yO H d.f=r.ls.getD i []/\(d.ν.all λn=>r.W.all λj=>j==i||(r.ls.getD j []).all λl=>l.1 !=n&&l.2 !=n)=true then
     some ⟨d.c,(d.v::d.sl,v::d.sr),(uT d.H (H'.map di)::d.hl,H'::d.hr)⟩ else none
    |none=>none
   |none=>none
  |none=>none
 |_,_,_=>none
def A27 (ms W:List Nat) (T:Tab) (n:Nat):List (Nat×List Nat×tG):=(gy n).flatMap λi=>(T.filter λp=>xP ms W p.1 i).map λp=>(i,p.1,p.2)
structure DA where
 s:St
 c:List Prop
 e1:List (List SV×List SV)
 e2:List (List tG×List tG)
def A1f (ops:List Oper) (vs:List SV) (Γ0:Env):Env:=((gy ops.length).filterMap λj=>((ops[j]?).bind (·.dst)).bind λd=>(vs[j]?).map λv=>(d,v))++Γ0
def A3g (l:List CR):List Prop:=l.flatMap (·.c)
def A1Y (P:Program) (N:Nat) (calls:List (Nat×uW)) (kn:List (Nat×Bool)) (all:Array Oper) (Γ0:Env) (H0:tG) (nx0:Nat):Option DA:=
 let ops:=all.toList
 let ms:=uJ ops []
 match A1X P calls kn all ops ms Γ0 0 ops H0 ⟨[],[],[],nx0,[]⟩ with
 | some r =>
   match (A3s ms r.W r.W [[]]).mapM (λm=>(A1i P calls kn all ops ms Γ0 r m r.W H0).map λH=>(m,H)) with
   | some T =>
     if decide (ops.filterMap (·.dst)).Nodup=true/\r.vs.length=ops.length/\(r.nxs.all λn=>decide (nx0<=n))=true/\
      ((gy ops.length).all λi=>match ops[i]? with|some o=>(wJ o).all λe=>decide (e<i)|none=>true)=true/\
      (r.W.all λm=>decide (m<ops.length))=true/\((gy ops.length).all λi=>!anc ms i i)=true/\((gy ops.length).all λi=>T.any λp=>xP ms r.W p.1 i)=true then
      match (A27 ms r.W T ops.length).mapM (λp=>zO P N calls kn all ops ms Γ0 r T p.1 p.2.1 p.2.2),wC T [],wC T r.W with
      |some l,some Hb,some He=>if decide (Hb.map di).Nodup=true then some ⟨⟨xX (r.W.flatMap λj=>r.ls.getD j []) (A1f ops r.vs Γ0),He,r.nx⟩,A3g l,([],[])::l.map (·.e1),([uT H0 (Hb.map di)],[Hb])::l.map (·.e2)⟩ else none
      |_,_,_=>none
     else none
   |none=>none
 |none=>none
theorem A49 {α β:Type} {f:α->Option β}:∀{l:List α} {r:List β},l.mapM f=some r->∀x∈l,∃y∈r,f x=some y
 |[],_,_,x,hx=>by cases hx
 | a :: l,r,h,x,hx => by
   rw[mu] at h;obtain⟨q,hq,h⟩:=cz.1 h;obtain⟨qs,hqs,h⟩:=cz.1 h;cases h;rcases bv.1 hx with rfl|hx;·exact⟨q,by simp,hq⟩
   ·obtain⟨y,hy,e⟩:=A49 hqs x hx;exact⟨y,by simp[hy],e⟩
theorem A4A {α β:Type} {f:α->Option β}:∀{l:List α} {r:List β},l.mapM f=some r->∀y∈r,∃x∈l,f x=some y
 |[],_,h,y,hy=>by cases h;cases hy
 | a :: l,r,h,y,hy => by
   rw[mu] at h;obtain⟨q,hq,h⟩:=cz.1 h;obtain⟨qs,hqs,h⟩:=cz.1 h;cases h;rcases bv.1 hy with rfl|hy;·exact⟨a,by simp,hq⟩
   ·obtain⟨x,hx,e⟩:=A4A hqs y hy;exact⟨x,by simp[hx],e⟩
theorem A38:∀{ps:List Prop},tL ps->∀p∈ps,p
 |[],_,p,hp=>by cases hp
 | q :: ps,h,p,hp => by
   rw[zJ] at h;rcases bv.1 hp with rfl|hp;·exact h.1
   ·exact A38 h.2 p hp
theorem A39:∀{ps:List Prop},(∀p∈ps,p)->tL ps
 |[],_=>trivial
 |p::ps,h=>zJ.2 ⟨h p (by simp),A39 λq hq=>h q (by simp[hq])⟩
theorem A1w {l:List (α×α)} (h:l.map di=l.map gl):∀p∈l,p.1=p.2:=by intro p hp;obtain⟨i,hi,rfl⟩:=fe hp;have:=congrArg (λq=>q[i]?) h;simpa[hi] using this
theorem A45:∀{T:Tab} {m:List Nat} {H:tG},wC T m=some H->(m,H)∈T
 | (k,H') :: l,m,H,h => by
   rw[wC] at h;split at h;·rename_i e;cases h;subst e;simp
   ·exact cg _ (A45 h)
structure A1F (P:Program) (C:FC) (all:Array Oper) (ops:List Oper) (ms:List Nat) (Γ0:Env) (vs:List SV) (W:List Nat) (T:Tab) (ls:List (List (Nat×Nat))):Prop where
 op:∀i o,ops[i]? =some o->∃v R,vs[i]? =some v/\A0g ms ops vs Γ0 i (A0G all o)=some R/\(∀t,o.dst=some t->t<C.N)/\
  ∀ m H,wC T m=some H→xP ms W m i=true→∃ Hd H' ν,wC T (A07 W m i)=some H'∧A1K P C all (xX (A04 ms W ls i) R) H o v Hd ν (ls.getD i [])∧(∀ p∈H',p∈Hd)∧(H'.map di).Nodup∧
    (∀n∈ν,(∀p∈Γ0,p.2.has n=false)/\(∀j,j<ops.length->j≠i->anc ms j i=false->(vs.getD j (.c .zc)).has n=false)/\∀j∈W,j≠i->∀l∈ls.getD j [],l.1≠n/\l.2≠n)
variable {C:FC} {all:Array Oper} {ms W:List Nat} {Γ0:Env} {vs:List SV} {T:Tab} {ls:List (List (Nat×Nat))}
def vN (ops:List Oper) (vs:List SV) (Γ0:Env) (D:Nat->Bool) (t:Nat):Option SV:=
 match wA ops t with
 |some j=>if D j=true then vs[j]? else tJ Γ0 t
 |none=>tJ Γ0 t
def Inv (C:FC) (ops:List Oper) (vs:List SV) (Γ0:Env) (W:List Nat) (T:Tab) (ls:List (List (Nat×Nat))) (D:Nat->Bool) (a:Act) (w:World):Prop:=
 ∃ σ H,wC T (W.filter D)=some H∧tK C σ H w∧a.tmps.size=C.N∧a.defers=[]∧(∀ n,n<C.n0→σ n=C.σ0 n)∧(∀ j∈W,D j=true→∀ l∈ls.getD j [],hd (σ l.2)=hd (σ l.1))∧
   ∀t sv,vN ops vs Γ0 D t=some sv->t<C.N/\SVr (Ow C.G H σ) w σ sv (a.tmps.getD t undef)
theorem A6t {ops:List Oper} (hcl:w7 ops D) (ho:ops[i]? =some o) (hi:D i=false) (hready:∀e∈wJ o,D e=true) {ts:List Nat} (hR:A0g (uJ ops []) ops vs Γ0 i ts=some R) :
 ∀p∈R,vN ops vs Γ0 D p.1=some p.2:=by
 have hcl':w7 ops (λj=>D j||j==i):=by
  intro j o' hj hDj e he;simp only[fl,beq_iff_eq] at hDj ⊢;rcases hDj with hDj|rfl;·exact .inl (hcl j o' hj hDj e he)
  ·rw[ho] at hj;cases hj;exact .inl (hready e he)
 intro p hp;obtain⟨t,_,ht⟩:=A4A hR p hp;unfold A4d at ht;unfold vN;split at ht
 ·rename_i hd;obtain⟨v,hv,rfl⟩:=bf.1 ht;simp only[hd];exact hv
 ·rename_i j hd;split at ht;·cases ht
  ·rename_i hji;split at ht
   ·rename_i ha;obtain⟨v,hv,rfl⟩:=bf.1 ht;simp only[hd];have hDj:=yG (D:=λj=>D j||j==i) hcl' (i:=i) (by simp) ha;simp only[fl,beq_iff_eq] at hDj;rw[if_pos (hDj.resolve_right hji)];exact hv
   ·split at ht
    ·rename_i ha;obtain⟨v,hv,rfl⟩:=bf.1 ht;simp only[hd];rw[if_neg];exact hv;intro hDj;have:=yG hcl hDj ha;rw[hi] at this;cases this
    ·cases ht
theorem A6L {ops:List Oper} (hcl:w7 ops D) (ho:ops[i]? =some o) (hready:∀e∈wJ o,D e=true) (hirr:anc (uJ ops []) i i=false) {l:Nat×Nat} (hl:l∈A04 (uJ ops []) W ls i):∃j∈W,D j=true/\l∈ls.getD j []:=by
 have hcl':w7 ops (λj=>D j||j==i):=by
  intro j o' hj hDj e he;simp only[fl,beq_iff_eq] at hDj ⊢;rcases hDj with hDj|rfl;·exact .inl (hcl j o' hj hDj e he)
  ·rw[ho] at hj;cases hj;exact .inl (hready e he)
 obtain⟨j,hj,hl⟩:=ll.1 hl;split at hl
 ·rename_i ha;have hDj:=yG (D:=λj=>D j||j==i) hcl' (i:=i) (by simp) ha;simp only[fl,beq_iff_eq] at hDj;refine⟨j,hj,hDj.resolve_right λe=>?_,hl⟩;subst e;rw[ha] at hirr;cases hirr
 ·cases hl
theorem A6W:W.filter (λj=>D j||j==i)=A07 W (W.filter D) i:=by
 unfold A07;refine List.filter_congr λj hj=>?_;congr 1;cases h:D j with
 |true=>simpa using⟨hj,h⟩
 |false=>simp[h]
theorem A5y {ops:List Oper} (hcl:w7 ops D) (ho:ops[i]? =some o) (hi:D i=false) (hready:∀e∈wJ o,D e=true) (hirr:anc (uJ ops []) i i=false):xP (uJ ops []) W (W.filter D) i=true:=by
 have hcl':w7 ops (λj=>D j||j==i):=by
  intro j o' hj hDj e he;simp only[fl,beq_iff_eq] at hDj ⊢;rcases hDj with hDj|rfl;·exact .inl (hcl j o' hj hDj e he)
  ·rw[ho] at hj;cases hj;exact .inl (hready e he)
 unfold xP;rw[bq,cn];refine⟨by simp[hi],λj hj=>?_⟩;simp only[bq,fl,iz];refine⟨?_,?_⟩
 ·cases ha:anc (uJ ops []) i j with
  |false=>exact .inl rfl
  | true =>
    have:=yG (D:=λj=>D j||j==i) hcl' (i:=i) (by simp) ha;simp only[fl,beq_iff_eq] at this;rcases this with h|h;·exact .inr (by simpa using⟨hj,h⟩)
    ·subst h;rw[ha] at hirr;cases hirr
 ·cases hd:D j with
  |false=>exact .inl (by simp[hd])
  | true =>
    refine .inr ?_;cases ha:anc (uJ ops []) j i with
    |false=>rfl
    |true=>have:=yG hcl hd ha;rw[hi] at this;cases this
section
variable {P:Program} {C:FC} {ops:Array Oper} {W:List Nat} {Γ0:Env} {vs:List SV} {T:Tab} {ls:List (List (Nat×Nat))}
def DL (listed:Array Bool) (i:Nat):Bool:=listed.getD i false
theorem A1E {listed:Array Bool} (hi:i<listed.size):DL (listed.setIfInBounds i true)=λj=>DL listed j||j==i:=by
 funext j;unfold DL;simp only[fc,jh];by_cases e:i=j;·subst e;simp[hi]
 ·have:(j==i)=false:=by simpa using λh=>e h.symm
  rw[if_neg e,this,xn]
theorem zV {t:Nat} (h:wA os t=some j):∃o,os[j]? =some o/\o.dst=some t:=by unfold wA at h;obtain⟨hj,h1,_⟩:=List.findIdx?_eq_some_iff_getElem.1 h;exact⟨os[j],by simp,by simpa using h1⟩
theorem A1Z:∀{os:List Oper},(os.filterMap (·.dst)).Nodup->∀{i j t:Nat} {o o':Oper},os[i]? =some o->os[j]? =some o'->o.dst=some t->o'.dst=some t->i=j
 |[],_,_,_,_,_,_,h,_,_,_=>by simp at h
 | x :: os,hn,i,j,t,o,o',hi,hj,ho,ho' => by
   have hn':(os.filterMap (·.dst)).Nodup:=by
    rw[dc] at hn;split at hn;·exact hn
    ·exact(dy.1 hn).2
   have hmem:∀{k:Nat} {p:Oper},os[k]? =some p->p.dst=some t->t∈os.filterMap (·.dst):=λh e=>ez.2 ⟨_,fm h,e⟩;cases i with
   | zero =>
     cases j with
     |zero=>rfl
     | succ j =>
       simp only[gh,dw] at hi;subst hi;rw[dc,ho] at hn;exact((dy.1 hn).1 (hmem (by simpa using hj) ho')).elim
   | succ i =>
     cases j with
     | zero =>
       simp only[gh,dw] at hj;subst hj;rw[dc,ho'] at hn;exact((dy.1 hn).1 (hmem (by simpa using hi) ho)).elim
     |succ j=>exact congrArg (·+ 1) (A1Z hn' (i:=i) (j:=j) (by simpa using hi) (by simpa using hj) ho ho')
theorem A3V (hn:(os.filterMap (·.dst)).Nodup) {t:Nat} (hi:os[i]? =some o) (ho:o.dst=some t):wA os t=some i:=by
 cases h:wA os t with
 | none =>
   unfold wA at h;have:=List.findIdx?_eq_none_iff.1 h o (fm hi);simp[ho] at this
 | some j =>
   obtain⟨o',hj,ho'⟩:=zV h;rw[A1Z hn hi hj ho ho']
theorem A5x {t:Nat} {sv:SV} (hn:(os.filterMap (·.dst)).Nodup) (hl:vs.length=os.length) (h:tJ (A1f os vs Γ0) t=some sv) :
 (∃j,wA os t=some j/\vs[j]? =some sv)\/(wA os t=none/\tJ Γ0 t=some sv):=by
 unfold A1f at h;cases hd:wA os t with
 | some j =>
   left;refine⟨j,rfl,?_⟩;obtain⟨o,hj,ho⟩:=zV hd;have hjl:j<os.length:=(dt.1 hj).1;have hv:vs[j]? =some (vs[j]'(by omega)):=by simp
   have hin:(t,vs[j]'(by omega))∈(gy os.length).filterMap λj=>((os[j]?).bind (·.dst)).bind λd=>(vs[j]?).map λv=>(d,v):=
    ez.2 ⟨j,by simpa using hjl,by simp[hj,ho,hv]⟩
   have hall:∀q∈(gy os.length).filterMap (λj=>((os[j]?).bind (·.dst)).bind λd=>(vs[j]?).map λv=>(d,v)),q.1=t->q.2=vs[j]'(by omega):=by intro q hq e;obtain⟨k,_,hk⟩:=ez.1 hq;obtain⟨d,hd1,hk⟩:=cz.1 hk;obtain⟨v,hv1,rfl⟩:=bf.1 hk;obtain⟨o',ho1,hd2⟩:=cz.1 hd1;simp only at e;subst e;obtain rfl:=A1Z hn ho1 hj hd2 ho;rw[hv] at hv1;exact(fg hv1).symm
   have:∀{l r:Env},(t,vs[j]'(by omega))∈l->(∀q∈l,q.1=t->q.2=vs[j]'(by omega))->tJ (l++r) t=some (vs[j]'(by omega)):=by
    intro l r;induction l with
    |nil=>intro h;cases h
    | cons q l ih =>
      intro hm hq;obtain⟨q1,q2⟩:=q;rw[db,tJ];by_cases e:q1=t
      ·rw[if_pos e];exact congrArg some (hq (q1,q2) (by simp) e)
      ·rw[if_neg e];refine ih ?_ λq' hq'=>hq q' (by simp[hq']);rcases bv.1 hm with h|h;·exact(e (congrArg di h).symm).elim
       ·exact h
   rw[this hin hall] at h;rw[hv,<-h]
 | none =>
   right;refine⟨rfl,?_⟩;have hno:∀q∈(gy os.length).filterMap (λj=>((os[j]?).bind (·.dst)).bind λd=>(vs[j]?).map λv=>(d,v)),q.1≠t:=by intro q hq e;obtain⟨k,_,hk⟩:=ez.1 hq;obtain⟨d,hd1,hk⟩:=cz.1 hk;obtain⟨v,hv1,rfl⟩:=bf.1 hk;obtain⟨o',ho1,hd2⟩:=cz.1 hd1;simp only at e;subst e;rw[A3V hn ho1 hd2] at hd;cases hd
   have:∀{l r:Env},(∀q∈l,q.1≠t)->tJ (l++r) t=tJ r t:=by
    intro l r;induction l with
    |nil=>intro _;rfl
    | cons q l ih =>
      intro hq;obtain⟨q1,q2⟩:=q;rw[db,tJ,if_neg (hq (q1,q2) (by simp))];exact ih λq' hq'=>hq q' (by simp[hq'])
   rwa[this hno] at h
theorem A5D {C:FC} (h:Sat C Γ H a w):Sat C Γ H a {w with drawn:=n}:=by obtain⟨σ,h1,h2,h3⟩:=h;exact⟨σ,h1.go (λ_ _=>rfl) (bp _) rfl rfl rfl,h2.go λ_ _=>rfl,h3⟩
theorem A0q {C:FC} (h:∀p∈H',p∈H) (hb:¬Ow C.G H σ b):¬Ow C.G H' σ b:=λhb'=>hb (by
 rcases hb' with hg|⟨p,hp,e⟩;·exact .inl hg
 ·exact .inr ⟨p,h p hp,e⟩)
theorem A52 (hF:A1F P C ops ops.toList (uJ ops.toList []) Γ0 vs W T ls) (hds:(ops.toList.filterMap (·.dst)).Nodup)
 (hirr:∀i,i<ops.size->anc (uJ ops.toList []) i i=false) (hcl:w7 ops.toList D) (ho:ops[i]? =some o) (hi:D i=false) (hready:∀e∈wJ o,D e=true)
 (hI:Inv C ops.toList vs Γ0 W T ls D a w) {K:Act->World->Prop} (hK:∀a w,Inv C ops.toList vs Γ0 W T ls (λj=>D j||j==i) a w->K a w):wpOp P ops Q i K a w:=by
 have ho':ops.toList[i]? =some o:=by rw[ig];exact ho
 have hil:i<ops.size:=(dg.1 ho).1;obtain⟨v,R,hv,hR,hdN,hop⟩:=hF.op i o ho';have hfit:=A5y (W:=W) hcl ho' hi hready (hirr i hil);obtain⟨σ,H,hT,hσ,hN,hdf,hpin,hlk,henv⟩:=hI;obtain⟨Hd,H',ν,hT',htri,hsub,hnd',hν⟩:=hop _ _ hT hfit;have hkey:wC T (W.filter λj=>D j||j==i)=some H':=by rw[A6W];exact hT'
 have hE:tM C σ H w (xX (A04 (uJ ops.toList []) W ls i) R) a:=A4R (λl hl=>by obtain⟨j,hj,hD,hl⟩:=A6L hcl ho' hready (hirr i hil) hl;exact hlk j hj hD l hl) ⟨λt sv hl=>henv t sv (A6t hcl ho' hi hready hR _ (tI hl)),hN,hdf⟩
 have other:∀t,o.dst≠some t->vN ops.toList vs Γ0 (λj=>D j||j==i) t=vN ops.toList vs Γ0 D t:=by
  intro t ht;unfold vN;cases hd:wA ops.toList t with
  |none=>rfl
  | some j =>
    have hji:j≠i:=by rintro rfl;obtain⟨o2,h1,h2⟩:=zV hd;rw[ho'] at h1;cases h1;exact ht h2
    have:(j==i)=false:=by simpa using hji
    simp only[this,xn]
 have self:∀t sv,o.dst=some t->vN ops.toList vs Γ0 (λj=>D j||j==i) t=some sv->sv=v:=by intro t sv ht hl;unfold vN at hl;rw[A3V hds ho' ht] at hl;simp only[beq_self_eq_true,Bool.or_true,if_true] at hl;rw[hv] at hl;exact(fg hl).symm
 have slots:∀{O:Nat->Prop} {σ':Nat->Value} {w':World} {u:Value},SVr O w' σ' v u->(∀t sv,o.dst≠some t->vN ops.toList vs Γ0 D t=some sv->SVr O w' σ' sv (a.tmps.getD t undef))->
  ∀t sv,vN ops.toList vs Γ0 (λj=>D j||j==i) t=some sv->t<C.N/\SVr O w' σ' sv ((a.put o.dst u).tmps.getD t undef):=by
  intro O σ' w' u hu hold t sv hl;by_cases ht:o.dst=some t
  ·have:=self t sv ht hl;subst this;refine⟨hdN t ht,?_⟩;have hlt:t<a.tmps.size:=by rw[hN];exact hdN t ht
   rw[ht];simpa only[nr,fc,jh,hlt,if_true,gt] using hu
  ·rw[other t ht] at hl;refine⟨(henv t sv hl).1,?_⟩;have h1:=hold t sv ht hl;cases hd:o.dst with
   |none=>simpa only[nr] using h1
   | some d =>
     have hne:d≠t:=λe=>ht (by rw[hd,e]);simpa only[nr,fc,jh,if_neg hne] using h1
 have size:∀u,(a.put o.dst u).tmps.size=C.N/\(a.put o.dst u).defers=[]:=by
  intro u;cases o.dst with
  |none=>exact⟨hN,hdf⟩
  |some d=>exact⟨by simpa[nr] using hN,hdf⟩
 have names:∀t sv,vN ops.toList vs Γ0 D t=some sv->∀n∈ν,sv.has n=false:=by
  intro t sv hl n hn;obtain⟨h1,h2,_⟩:=hν n hn;unfold vN at hl;split at hl
  ·rename_i j hd;split at hl
   ·rename_i hDj;have hji:j≠i:=by rintro rfl;rw[hi] at hDj;cases hDj
    obtain⟨o2,hj2,_⟩:=zV hd;have hjl:j<ops.toList.length:=(dt.1 hj2).1;have hanc:anc (uJ ops.toList []) j i=false:=by
     cases ha:anc (uJ ops.toList []) j i with
     |false=>rfl
     |true=>have:=yG hcl hDj ha;rw[hi] at this;cases this
    have:=h2 j hjl hji hanc;rwa[bb,hl,gt] at this
   ·exact h1 _ (tI hl)
  ·exact h1 _ (tI hl)
 unfold wpOp;simp only[ho];rcases htri σ a w hσ hE hpin with⟨hw,rfl,hHH,hL0⟩|⟨hw,hgo⟩
 ·rw[hw];simp only[iq,if_false];subst hHH;exact hK _ _ ⟨σ,H',hkey,hσ.sub hsub hnd',(size undef).1,(size undef).2,hpin,λj hj hD l hl=>by
   by_cases e:j=i;·subst e;rw[hL0] at hl;cases hl
   ·exact hlk j hj (by simpa[e] using hD) l hl,slots rfl λt sv _ hl=>wP (λ_ _ _=>rfl) (λ_ _ hb=>A0q hsub hb) (henv t sv hl).2⟩
 ·rw[hw];simp only[if_true];refine .inl (hgo K Q λu w' σ' h1 h2 h3 h4 h5 h6 h7=>hK _ _ ⟨σ',H',hkey,h1.sub hsub hnd',(size u).1,(size u).2,h6,λj hj hD l hl=>?_,?_⟩)
  ·by_cases e:j=i;·subst e;exact h7 l hl
   ·have hno:∀n∈ν,l.1≠n/\l.2≠n:=λn hn=>(hν n hn).2.2 j hj e l hl;rw[h5 l.1 (λhm=>(hno _ hm).1 rfl),h5 l.2 (λhm=>(hno _ hm).2 rfl)];exact hlk j hj (by simpa[e] using hD) l hl
  refine slots (wP (λ_ _ _=>rfl) (λ_ _ hb=>A0q hsub hb) h2) λt sv _ hl=>A1J (λn hn=>?_) (wP h3 (λb hb hob=>A0q hsub (h4 b hb hob)) (henv t sv hl).2);refine h5 n λhm=>?_;rw[names t sv hl n hm] at hn;cases hn
theorem A5v (hF:A1F P C ops ops.toList (uJ ops.toList []) Γ0 vs W T ls) (hds:(ops.toList.filterMap (·.dst)).Nodup)
 (hirr:∀i,i<ops.size->anc (uJ ops.toList []) i i=false) (hE:∀i o,ops.toList[i]? =some o->∀e∈wJ o,e<i)
 (hQ:∀D a w,(∀i,i<ops.size->D i=true)->Inv C ops.toList vs Γ0 W T ls D a w->Q .normal a w) :
 ∀ (fuel:Nat) (listed:Array Bool) (a:Act) (w:World),listed.size=ops.size→w7 ops.toList (DL listed)→((gy ops.size).filter fun i=>!DL listed i).length≤fuel→Inv C ops.toList vs Γ0 W T ls (DL listed) a w→
   wpAny P .any ops Q fuel listed a w:=by
 have getd:∀{listed:Array Bool} {i:Nat},i<listed.size->listed.getD i true=DL listed i:=by intro listed i hi;unfold DL;simp[fc,hi]
 have stop:∀listed:Array Bool,listed.size=ops.size->rh .any ops listed=[]->∀i,i<ops.size->DL listed i=true:=by
  intro listed hs hr i;induction i using Nat.strongRecOn with
  | ind i ih =>
    intro hi;cases hd:DL listed i with
    |true=>rfl
    | false =>
      have:i∈rh .any ops listed:=by refine mem_ready.2 ⟨by rw[getd (by omega)];exact hd,ops[i],by simp[hi],λe he hb=>?_⟩;have hlt:=hE i ops[i] (by simp[hi]) e.on (cj.2 ⟨e,by simp[he,hb],rfl⟩);exact ih e.on hlt (by omega)
      rw[hr] at this;cases this
 intro fuel;induction fuel with
 | zero =>
   intro listed a w hs hcl hf hI;have hall:∀i,i<ops.size->DL listed i=true:=by
    intro i hi;cases hd:DL listed i with
    |true=>rfl
    | false =>
      have:i∈(gy ops.size).filter λi=>!DL listed i:=by simp[hi,hd]
      have:=List.length_pos_of_mem this;omega
   refine⟨?_,hQ _ a w hall hI⟩;cases hr:rh .any ops listed with
   |nil=>rfl
   | cons x l =>
     have hx:=mem_ready.1 (show x∈rh .any ops listed by rw[hr];simp);obtain⟨h1,o,ho,_⟩:=hx;have hxl:x<ops.size:=(dg.1 ho).1;rw[getd (by omega),hall x hxl] at h1;cases h1
 | succ fuel ih =>
   intro listed a w hs hcl hf hI;refine⟨λhr=>hQ _ a w (stop listed hs hr) hI,λi hi=>?_⟩;obtain⟨h1,o,ho,hed⟩:=mem_ready.1 hi;have hil:i<ops.size:=(dg.1 ho).1;rw[getd (by omega)] at h1;have hready:∀e∈wJ o,DL listed e=true:=by intro e he;obtain⟨d,hd,rfl⟩:=cj.1 he;have:=ef.1 hd;exact hed d (by simpa using this.1) this.2
   refine A52 hF hds hirr hcl ho h1 hready hI λa' w' hI'=>ih _ a' w' (by simpa using hs) ?_ ?_ ?_
   ·rw[A1E (by omega)];intro j o' hj hDj e he;simp only[fl,beq_iff_eq] at hDj ⊢;rcases hDj with hDj|rfl;·exact .inl (hcl j o' hj hDj e he)
    ·rw[ig,ho] at hj;cases hj;exact .inl (hready e he)
   ·rw[A1E (by omega)];have hlt:((gy ops.size).filter λj=>!(DL listed j||j==i)).length<((gy ops.size).filter λj=>!DL listed j).length:=by
     have e:((gy ops.size).filter λj=>!(DL listed j||j==i))=((gy ops.size).filter λj=>!DL listed j).filter λj=>!(j==i):=by rw[List.filter_filter];congr 1;funext j;cases DL listed j<;>cases (j==i)<;>rfl
     rw[e];refine List.length_filter_lt_length_iff_exists.2 ⟨i,by simp[hil,h1],by simp⟩
    show ((gy ops.size).filter λj=>!(DL listed j||j==i)).length<=fuel;omega
   ·rw[A1E (by omega)];exact hI'
theorem A4z {P:Program} {C:FC} {calls:List (Nat×uW)} {r:DR} {T:Tab} (hcalls:∀p∈calls,Spec P p.2.f p.2.m0 p.2.args0 p.2.H0 p.2.res0 p.2.H1/\uS P p.2.f=true)
 {l:List CR} (hm:(A27 (uJ ops.toList []) r.W T ops.toList.length).mapM (λp=>zO P C.N calls kn ops ops.toList (uJ ops.toList []) Γ0 r T p.1 p.2.1 p.2.2)=some l)
 (hnx:∀n∈r.nxs,C.n0<=n) (hc:tL (A3g l)) (h1:∀x∈l,x.e1.1=x.e1.2) (h2:∀x∈l,x.e2.1=x.e2.2)
 (hg:∀i,i<ops.toList.length->∃p∈T,xP (uJ ops.toList []) r.W p.1 i=true) :
 A1F P C ops ops.toList (uJ ops.toList []) Γ0 r.vs r.W T r.ls:=by
 have main:∀i,i<ops.toList.length->∀p∈T,xP (uJ ops.toList []) r.W p.1 i=true->∃x∈l,zO P C.N calls kn ops ops.toList (uJ ops.toList []) Γ0 r T i p.1 p.2=some x:=by intro i hi p hp hok;refine A49 hm (i,p.1,p.2) ?_;unfold A27;exact ll.2 ⟨i,by simpa using hi,cj.2 ⟨p,ef.2 ⟨hp,hok⟩,rfl⟩⟩
 refine⟨λi o ho=>?_⟩;have hi:i<ops.toList.length:=(dt.1 ho).1;have body:∀m H x,zO P C.N calls kn ops ops.toList (uJ ops.toList []) Γ0 r T i m H=some x->x∈l->∃v R,r.vs[i]? =some v/\A0g (uJ ops.toList []) ops.toList r.vs Γ0 i (A0G ops o)=some R/\(∀t,o.dst=some t->t<C.N)/\
  ∃ Hd H' ν,wC T (A07 r.W m i)=some H'∧A1K P C ops (xX (A04 (uJ ops.toList []) r.W r.ls i) R) H o v Hd ν (r.ls.getD i [])∧(∀ p∈H',p∈Hd)∧(H'.map di).Nodup∧
    (∀n∈ν,(∀p∈Γ0,p.2.has n=false)/\(∀j,j<ops.toList.length->j≠i->anc (uJ ops.toList []) j i=false->(r.vs.getD j (.c .zc)).has n=false)/\∀j∈r.W,j≠i->∀l∈r.ls.getD j [],l.1≠n/\l.2≠n):=by
  intro m H x hx hxl;unfold zO at hx;split at hx
  ·rename_i o' v nx ho' hv hnxi;rw[ho] at ho';cases ho';split at hx
   ·rename_i R0 hR0;obtain⟨R,hR,rfl⟩:=bf.1 hR0;split at hx
    ·rename_i d hd;split at hx
     ·rename_i H' hH';split at hx
      ·rename_i hcond;obtain⟨hdst,hnd,hνs,hlnk,hνl⟩:=hcond;cases hx;have e1:=h1 _ hxl;have e2:=h2 _ hxl;simp only[ia] at e1 e2;have hcc:tL d.c:=A39 λp hp=>A38 hc p (ll.2 ⟨_,hxl,hp⟩);have ht:=(A4n (C:=C) hcalls hd (hnx _ (fm hnxi)) hcc e1.2 e2.2).1.triL;rw[e1.1,hlnk] at ht;refine⟨v,R,hv,hR,λt htd=>?_,d.H,H',d.ν,hH',ht,λp hp=>?_,of_decide_eq_true hnd,λn hn=>?_⟩;·unfold zW at hdst;rw[htd] at hdst;exact of_decide_eq_true hdst
       ·rw[<-e2.1] at hp;exact tI (A06 hp).2
       ·have:=cn.1 hνs n hn;simp only[bq,cn,iz,fl,beq_iff_eq,List.mem_range] at this;refine⟨λp hp=>this.1 p hp,λj hj hji ha=>?_,λj hj hji l hl=>?_⟩
        ·rcases this.2 j hj with (h|h)|h;·exact(hji h).elim
         ·rw[ha] at h;cases h
         ·exact h
        ·have h2:=cn.1 (cn.1 hνl n hn) j hj;simp only[fl,beq_iff_eq,cn,bq,bne_iff_ne,ne_eq] at h2;exact(h2.resolve_left hji) l hl
      ·cases hx
     ·cases hx
    ·cases hx
   ·cases hx
  ·cases hx
 obtain⟨p,hp,hok⟩:=hg i hi;obtain⟨x,hxl,hx⟩:=main i hi p hp hok;obtain⟨v,R,hv,hR,hN,_⟩:=body _ _ x hx hxl;refine⟨v,R,hv,hR,hN,λm H hT hok=>?_⟩;obtain⟨x,hxl,hx⟩:=main i hi (m,H) (A45 hT) hok;obtain⟨v',R',hv',hR',_,h⟩:=body m H x hx hxl;rw[hv] at hv';cases hv';rw[hR] at hR';cases hR';exact h
theorem A5M {C:FC} {id:Nat} (hm:P.follows .mixedOrders=true) (calls:List (Nat×uW)) (kn:List (Nat×Bool))
 (hcalls:∀p∈calls,Spec P p.2.f p.2.m0 p.2.args0 p.2.H0 p.2.res0 p.2.H1/\uS P p.2.f=true) (nx:Nat) (da:DA) (h:A1Y P C.N calls kn ops Γ H nx=some da) (hle:C.n0<=nx)
 (hc:tL da.c) (h1:da.e1.map di=da.e1.map gl) (h2:da.e2.map di=da.e2.map gl) (hr:VL P C cs Q da.s.Γ da.s.H):VL P C (.region id ops true::cs) Q Γ H:=by
 intro a w hs;refine wp_region_any hm ?_;have hs:=A5D (n:=w.drawn+1) hs;generalize ({w with drawn:=w.drawn+1}:World)=w at hs;unfold A1Y at h;simp only at h;split at h
 ·rename_i r hd;split at h
  ·rename_i T hTab;split at h
   ·rename_i hcond;obtain⟨hnd,hlv,hnxs,hE,hml,hirr,hgs⟩:=hcond;split at h
    ·rename_i l Hb He hm hHb hHe;split at h
     ·rename_i hbn;cases h;simp only at hc h1 h2 hr;have hnd':=of_decide_eq_true hnd;have hE':∀i o,ops.toList[i]? =some o->∀e∈wJ o,e<i:=by
       intro i o hi e he;have:=cn.1 hE i (by simpa using(dt.1 hi).1);rw[hi] at this;exact of_decide_eq_true (cn.1 this e he)
      have hirr':∀i,i<ops.size->anc (uJ ops.toList []) i i=false:=by intro i hi;simpa using cn.1 hirr i (by simpa using hi)
      have m1:=A1w h1;have m2:=A1w h2;have hHb':uT H (Hb.map di)=Hb:=by have:=m2 ([uT H (Hb.map di)],[Hb]) (by simp);simpa using this
      have hsub:∀p∈Hb,p∈H:=λp hp=>by rw[<-hHb'] at hp;exact tI (A06 hp).2
      have hbase:w7 ops.toList (DL (pq ops.size false)):=by intro i o _ hD;unfold DL at hD;by_cases hi:i<ops.size<;>simp[fc,hi] at hD
      have hdl:DL (pq ops.size false)=λ_=>false:=by funext i;unfold DL;by_cases hi:i<ops.size<;>simp[fc,hi]
      have hF:=A4z (C:=C) hcalls hm (λn hn=>fo hle (of_decide_eq_true (cn.1 hnxs n hn))) hc (λx hx=>m1 _ (cg _ (cj.2 ⟨x,hx,rfl⟩))) (λx hx=>m2 _ (cg _ (cj.2 ⟨x,hx,rfl⟩))) (λi hi=>by obtain⟨p,hp,hok⟩:=kk.1 (cn.1 hgs i (by simpa using hi));exact⟨p,hp,hok⟩)
      refine A5v hF hnd' hirr' hE' (λD a' w' hall hI=>?_) _ _ a w (by simp) hbase (fo (List.length_filter_le _ _) (by simp)) ?_
      ·obtain⟨σ,H',hT',hσ,hN,hdf,hp,hlk,henv⟩:=hI;have hcn:r.W.filter D=r.W:=List.filter_eq_self.2 λx hx=>hall x (by simpa using of_decide_eq_true (cn.1 hml x hx));rw[hcn,hHe] at hT';cases hT';refine hr a' w' ⟨σ,hσ,A4R (λl hl=>?_) ⟨λt sv hl=>henv t sv ?_,hN,hdf⟩,hp⟩
       ·obtain⟨j,hj,hl⟩:=ll.1 hl;exact hlk j hj (hall j (by simpa using of_decide_eq_true (cn.1 hml j hj))) l hl
       unfold vN;rcases A5x hnd' hlv hl with⟨j,hj,hv⟩|⟨hj,hv⟩
       ·rw[hj];obtain⟨o,ho,_⟩:=zV hj;simp only;rw[if_pos (hall j (by simpa using(dt.1 ho).1))];exact hv
       ·rw[hj];exact hv
      ·rw[hdl];obtain⟨σ,hσ,henv,hp⟩:=hs;have henv':=henv.sub hsub;refine⟨σ,Hb,by rw[List.filter_eq_nil_iff.2 (by simp)];exact hHb,hσ.sub hsub (of_decide_eq_true hbn),henv.2.1,henv.2.2,hp,λ_ _ h=>(by cases h),λt sv hl=>henv'.1 t sv ?_⟩;unfold vN at hl;split at hl;·simpa using hl
       ·exact hl
     ·cases h
    ·cases h
   ·cases h
  ·cases h
 ·cases h
end
end Go.Pal
