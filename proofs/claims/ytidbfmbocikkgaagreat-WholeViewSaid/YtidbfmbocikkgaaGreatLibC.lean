/- A part of the proof of WholeView. -/
import Derived.Test.YtidbfmbocikkgaaGreatLibB
set_option linter.unusedVariables false
set_option linter.unusedSimpArgs false
set_option linter.unnecessarySimpa false
open Array renaming ext'→ip,getElem?_append_left→ff,getElem?_eq_some_iff→dg,getElem?_modify→md,getElem?_setIfInBounds_ne→kg,getElem?_toList→ig,length_toList→ep,mem_def→mp,range→lz,size_setIfInBounds→qk
open Bool renaming and_comm→qm,and_eq_true→bq
open ByteArray renaming empty→cc
open Go.Act renaming eval→ui,put→nr
open Go.Addr renaming add_lit→im
open Go.Builtin renaming zeroCells→fv
open Go.DataW renaming nil→Cj,trod→xa,weights→pi,weightsAll→ve,weightsEach→om
open Go.Ending renaming returned→rp
open Go.Instr renaming buildSlice→lj,loadAt→re,next→pw,sureAddr→kv
open Go.Lib renaming run_unsafeString_none→qc
open Go.Lit renaming int→Bj
open Go.Maps renaming size→tc
open Go.Oper renaming wp→mb
open Go.Proofs.Any2 renaming slices_Insert_int_end_grow→ov
open Go.Proofs.AnyW renaming maps_Clone→vz
open Go.Proofs.SlLaysW renaming n5→xc
open Go.Region renaming wanted→gp
open Go.Result renaming andThen_ok→ed
open Go.Shelf renaming Ren→ni
open Go.Value renaming cells→qf,int→dh
open Go.World renaming cells?_some→uk,freeze→uo,frozen?→tk,setCell→ny,setCells→oq,setRow→mg,shape?→ri
open List renaming all_append→vx,all_eq_true→cn,append_assoc→gd,append_nil→cm,drop_drop→lq,drop_eq_getElem_cons→ij,drop_of_length_le→nh,drop_zero→ic,eq_nil_of_length_eq_zero→bx,filterMap_cons→dc,filter_cons→fx,filter_cons_of_pos→oi,filter_filter→py,getD_eq_getElem?_getD→bu,getElem?_append_left→dk,getElem?_append_right→dd,getElem?_drop→ft,getElem?_eq_getElem→bj,getElem?_eq_some_iff→dt,getElem?_map→fu,getElem?_set_ne→nq,getElem?_set_self→lw,getElem?_take→gv,getElem?_take_of_lt→nz,getElem?_toArray→fh,getElem_append_left→ju,getElem_append_right→lh,getElem_mem→kz,getElem_of_mem→fe,isEmpty_iff→qu,length→bg,length_append→cy,length_cons→gk,length_drop→cq,length_map→du,length_nil→eb,length_set→iw,length_take→co,map_cons→dj,mem_append→cf,mem_cons→bv,mem_cons_of_mem→cg,mem_cons_self→de,mem_filterMap→ez,mem_map→cj,mem_of_getElem?→fm,mem_toArray→lk,nodup_cons→dy,not_mem_nil→gu,pairwise_iff_getElem→fw,size_toArray→ge,sum_cons→qn,tail_cons→kw,take_add→tj,take_append_drop→dm,take_length→my
open Nat renaming add_zero→ee,le_refl→bp,le_succ→vm,le_succ_of_le→uj,le_trans→fo,lt_or_ge→gw,mul_one→mf,succ_mul→um,zero_add→ew,zero_mul→ue
open Ne renaming symm→mh
open Option renaming bind_some→kq,isSome_iff_exists→fz,map_eq_some_iff→bf,map_some→fy
open Option.some renaming injEq→dw
open Prod renaming fst→di,snd→gl
open Prod.mk renaming injEq→le
open UInt8 renaming ofNat→cw
namespace Go.Pal
open Go
variable {P:Program}
variable {u v z:Value}
variable {o:Oper}
variable {a:Act}
variable {Γ:Env}
variable {σ:Nat->Value}
variable {C:FC}
variable {α A Rc Y X:Type}
variable {p p0 p1 p2 p3 p4 p5 p6 p7 p8 p9 p10 p11 p12 p13 p14 p15 p16 p17:Prop}
variable {ps:List Prop}
variable {cs:List Code}
variable {i k n nx cap:Nat}
variable {b:Bool}
variable {fn:Func}
variable {args:List SV}
variable {f:FuncId}
variable {O O':Nat->Prop}
variable {l left:List Int}
variable {ls:List (List Int)}
variable {vs:List Value}
variable {rest:List Oper}
variable {all:Array Oper}
variable {t e tb te:TypeId}
variable {w':World}
structure SA where
 s:St
 c:List Prop
 e1:List (List SV×List SV)
 e2:List (List tG×List tG)
def A2C (o:Oper) (v:SV) (Γ:Env):Env:=
 match o.dst with
 |some d=>(d,v)::Γ
 |none=>Γ
def y4 (P:Program) (N:Nat) (calls:List (Nat×uW)) (kn:List (Nat×Bool)) (all:Array Oper):Nat->Nat->List Oper->St->Option SA
 |0,_,_,s=>some ⟨s,[],[],[]⟩
 |_+1,_,[],s=>some ⟨s,[],[],[]⟩
 | n+1,i,o :: os,s => match yY P calls kn all s.Γ s.H s.nx i o with
    |some d=>if zW N o=true/\(d.ν.all λn=>s.Γ.all λp=> !p.2.has n)=true then
     match y4 P N calls kn all n (i+1) os ⟨A2C o d.v (vC d.f s.Γ),d.H,d.nx⟩ with
     |some r=>some ⟨r.s,d.c++r.c,(d.sl,d.sr)::r.e1,(d.hl,d.hr)::r.e2⟩
     |none=>none
     else none
    |none=>none
theorem A2m {H:tG} {w:World} {sv:SV} (hE:tM C σ H w Γ a) (hv:SVr (Ow C.G H σ) w σ sv u) (hd:zW C.N o=true):tM C σ H w (A2C o sv Γ) (a.put o.dst u):=by
 unfold A2C;unfold zW at hd;cases h:o.dst with
 |none=>exact hE
 | some d =>
   rw[h] at hd;exact hE.put (of_decide_eq_true hd) hv
theorem A4f {C:FC} {calls:List (Nat×uW)} {kn:List (Nat×Bool)} {all:Array Oper} {Q:Exit->Act->World->Prop} (hcalls:∀p∈calls,Spec P p.2.f p.2.m0 p.2.args0 p.2.H0 p.2.res0 p.2.H1/\uS P p.2.f=true) :
 ∀ {n i:Nat} {os:List Oper} {s:St} {r:SA},y4 P C.N calls kn all n i os s=some r→C.n0≤s.nx→tL r.c→(∀ p∈r.e1,p.1=p.2)→(∀ p∈r.e2,p.1=p.2)→
   VO P C all (os.drop n) Q r.s.Γ r.s.H->VO P C all os Q s.Γ s.H
 |0,i,os,s,r,h,_,_,_,_,hr=>by cases h;exact hr
 |n+1,i,[],s,r,h,_,_,_,_,hr=>by cases h;exact hr
 | n+1,i,o :: os,s,r,h,hn,hc,h1,h2,hr => by
   unfold y4 at h;split at h
   ·rename_i d hd;split at h
    ·rename_i hcond;split at h
     ·rename_i r1 hr1;cases h;rw[A0b] at hc;obtain⟨htri,hle⟩:=A4n (C:=C) hcalls hd hn hc.1 (h1 (d.sl,d.sr) (by simp)) (h2 (d.hl,d.hr) (by simp));have ih:=A4f (Q:=Q) hcalls hr1 (fo hn hle) hc.2 (λp hp=>h1 p (by simp[hp])) (λp hp=>h2 p (by simp[hp])) hr;intro a w hs;obtain⟨σ,hσ,hE,hp⟩:=hs;unfold wpList;rcases htri σ a w hσ hE hp with⟨hw,hv,hH,hid⟩|⟨hw,hgo⟩
      ·rw[if_neg (by rw[hw];simp)];refine ih _ _ ⟨σ,by simp only[hH];exact hσ,?_,hp⟩;simp only[hH];exact A2m (A0T hE (by rw[hid];exact λ_ _ h=>h)) (by rw[hv];rfl) hcond.1
      ·rw[if_pos hw];refine .inl (hgo _ _ λu w' σ' g1 g2 g3 g4 g5 g6 g7=>ih _ _ ⟨σ',g1,?_,g6⟩);refine A2m (A0T (hE.step g3 g4 λt sv hl m hm=>g5 m λhν=>?_) g7) g2 hcond.1;have:=cn.1 hcond.2 m hν;have:=cn.1 this _ (tI hl);simp only[hm] at this;cases this
     ·cases h
    ·cases h
   ·cases h
theorem A21 {x:α} (h:none=some x):False:=by cases h
theorem ap1 (h:p):tL [p]:=h
theorem ap2 {q:Prop} (h:p) (h':tL (q::ps)):tL (p::q::ps):=⟨h,h'⟩
def QG (K:Act->World->Prop) (Q:Exit->Act->World->Prop):Exit->Act->World->Prop
 |.normal,a,w=>K a w
 |.goto _,_,_=>False
 |e,a,w=>Q e a w
theorem A5T {H:tG} {c:Code} {Q:Exit->Act->World->Prop} (h:VL P C [c] (QG (wpL P cs Q) Q) Γ H):VL P C (.scope c::cs) Q Γ H:=by intro a w hs;refine wp_scope_straight (Code.wp_mono ?_ (h a w hs));intro e a w he;cases e<;>exact he
theorem A5P {H:tG} {l:Nat} {Q:Exit->Act->World->Prop} (h:VL P C cs Q Γ H):VL P C (.label l::cs) Q Γ H:=λa w hs=>wp_label (h a w hs)
theorem A59 {H:tG} {Q:Exit->Act->World->Prop} (h:VL P C cs Q Γ H):vM C (QG (wpL P cs Q) Q) .normal Γ H:=h
theorem A2t {H:tG} {K:Act->World->Prop} {Q:Exit->Act->World->Prop} (h:vM C Q (.exit i) Γ H):vM C (QG K Q) (.exit i) Γ H:=h
abbrev kP:Kd:=.pair (.int .i64) (.int .i64)
abbrev kE:Kd:=.pair (.int .i64) (.pair (.int .i64) .str)
abbrev kS:Kd:=.pair (.int .i64) (.pair (.int .i64) (.int .i64))
abbrev zP:Int×Int:=(0,0)
abbrev zE:Int×(Int×ByteArray):=(0,(0,cc))
abbrev zS:Int×(Int×Int):=(0,(0,0))
abbrev w6 (n:Int):Int:=IntKind.wrap .i64 n
abbrev cI (n:Int):SV:=.c (.val (.int .i64 n))
abbrev cB (b:Bool):SV:=.c (.val (.bool b))
abbrev cS (s:ByteArray):SV:=.c (.val (.string s))
abbrev lnI {α:Type} (l:List α):Int:=((bg l:Nat):Int)
abbrev Qf (R:Type):=FC->R->Exit->Act->World->Prop
inductive Fm where
 |blk (id:Nat) (rest:List Code)
 |scp (rest:List Code)
variable {fs:List Fm}
structure MS where
 cs:List Code
 fs:List Fm
 s:St
def vW (i:Nat):List Fm->Option (List Code×List Fm)
 |[]=>none
 |.blk id rest::fs=>if i=id then some (rest,fs) else vW i fs
 |.scp _::fs=>vW i fs
def QX (P:Program) (Q:Exit->Act->World->Prop):List Fm->Exit->Act->World->Prop
 |[]=>Q
 |.blk id rest::fs=>QB id (wpL P rest (QX P Q fs)) (QX P Q fs)
 |.scp rest::fs=>QG (wpL P rest (QX P Q fs)) (QX P Q fs)
theorem A1H {Q:Exit->Act->World->Prop} {w:World} (h:Q .ret a w):QX P Q fs .ret a w:=by
 induction fs with
 |nil=>exact h
 |cons f fs ih=>cases f<;>exact ih
theorem A0X {C:FC} {Q:Exit->Act->World->Prop} {Γ:Env} {H:tG} {i:Nat} {rest:List Code} {fs':List Fm}:∀{fs:List Fm},vW i fs=some (rest,fs')->VL P C rest (QX P Q fs') Γ H->vM C (QX P Q fs) (.exit i) Γ H
 |[],h,_=>by cases h
 | .blk id r :: fs,h,hv => by
   simp only[vW] at h;split at h;·rename_i e;subst e;cases h;exact A58 hv
   ·rename_i e;exact A2s e (A0X h hv)
 |.scp _::fs,h,hv=>A2t (A0X (fs:=fs) (by simpa[vW] using h) hv)
theorem A1G {C:FC} {Q:Exit->Act->World->Prop} {Γ:Env} {H:tG} {i:Nat}:∀{fs:List Fm},vW i fs=none->vM C Q (.exit i) Γ H->vM C (QX P Q fs) (.exit i) Γ H
 |[],_,h=>h
 | .blk id r :: fs,h,hv => by
   simp only[vW] at h;split at h;·cases h
   ·rename_i e;exact A2s e (A1G h hv)
 |.scp _::fs,h,hv=>A2t (A1G (fs:=fs) (by simpa[vW] using h) hv)
def uV (P:Program) (N:Nat):Nat->MS->Option (MS×List Prop)
 |0,m=>some (m,[])
 |n+1,⟨[],.blk _ rest::fs,s⟩=>uV P N n ⟨rest,fs,s⟩
 |n+1,⟨[],.scp rest::fs,s⟩=>uV P N n ⟨rest,fs,s⟩
 |_+1,⟨[],[],_⟩=>none
 | n+1,⟨c :: cs,fs,s⟩ => match c with
    |.seq x y=>uV P N n ⟨x::y::cs,fs,s⟩
    |.skip=>uV P N n ⟨cs,fs,s⟩
    |.label _=>uV P N n ⟨cs,fs,s⟩
    |.region _ ops false=>match xY P N ops ops.size ops.toList s with
     |some (s',ps)=>match uV P N n ⟨cs,fs,s'⟩ with
      |some (m',qs)=>some (m',ps++qs)
      |none=>none
     |none=>none
    |.block id c=>uV P N n ⟨[c],.blk id cs::fs,s⟩
    |.scope c=>uV P N n ⟨[c],.scp cs::fs,s⟩
    |.exit i=>match vW i fs with
     |some (rest,fs')=>uV P N n ⟨rest,fs',s⟩
     |none=>none
    |.cond c x y=>match evc s.Γ c with
     |some (.val (.bool true))=>uV P N n ⟨x::cs,fs,s⟩
     |some (.val (.bool false))=>uV P N n ⟨y::cs,fs,s⟩
     |_=>none
    |_=>none
theorem vX {C:FC} {Q:Exit->Act->World->Prop}:∀{n:Nat} {m m':MS} {ps:List Prop},uV P C.N n m=some (m',ps)->C.n0<=m.s.nx->tL ps->
 (VL P C m'.cs (QX P Q m'.fs) m'.s.Γ m'.s.H->VL P C m.cs (QX P Q m.fs) m.s.Γ m.s.H)/\m.s.nx<=m'.s.nx
 |0,m,m',ps,h,_,_=>by cases h;exact⟨λh=>h,bp _⟩
 | n+1,⟨[],.blk _ rest :: fs,s⟩,m',ps,h,hn,hp => by obtain⟨h1,h2⟩:=vX (n:=n) (m:=⟨rest,fs,s⟩) (Q:=Q) h hn hp;exact⟨λhv=>zI (A57 (h1 hv)),h2⟩
 | n+1,⟨[],.scp rest :: fs,s⟩,m',ps,h,hn,hp => by obtain⟨h1,h2⟩:=vX (n:=n) (m:=⟨rest,fs,s⟩) (Q:=Q) h hn hp;exact⟨λhv=>zI (A59 (h1 hv)),h2⟩
 |_+1,⟨[],[],_⟩,_,_,h,_,_=>by cases h
 | n+1,⟨c :: cs,fs,s⟩,m',ps,h,hn,hp => by
   simp only[uV] at h;split at h
   ·obtain⟨h1,h2⟩:=vX (n:=n) (Q:=Q) h hn hp;exact⟨λhv=>A5U (h1 hv),h2⟩
   ·obtain⟨h1,h2⟩:=vX (n:=n) (Q:=Q) h hn hp;exact⟨λhv=>A5V (h1 hv),h2⟩
   ·obtain⟨h1,h2⟩:=vX (n:=n) (Q:=Q) h hn hp;exact⟨λhv=>A5P (h1 hv),h2⟩
   ·rename_i id ops;split at h
    ·rename_i s' ps1 hr;split at h
     ·rename_i m1 qs hm;cases h;rw[A0b] at hp;have hnx:s.nx<=s'.nx:=(xZ (Q:=λ_ _ _=>True) hr hn hp.1).2;obtain⟨h1,h2⟩:=vX (n:=n) (Q:=Q) hm (fo hn hnx) hp.2;refine⟨λhv=>xK ?_,fo hnx h2⟩;refine(xZ hr hn hp.1).1 ?_;have:ops.toList.drop ops.size=[]:=by simp
      rw[this];exact wI (h1 hv)
     ·cases h
    ·cases h
   ·obtain⟨h1,h2⟩:=vX (n:=n) (Q:=Q) h hn hp;exact⟨λhv=>A5L (h1 hv),h2⟩
   ·obtain⟨h1,h2⟩:=vX (n:=n) (Q:=Q) h hn hp;exact⟨λhv=>A5T (h1 hv),h2⟩
   ·split at h
    ·rename_i rest fs' hpop;obtain⟨h1,h2⟩:=vX (n:=n) (Q:=Q) h hn hp;exact⟨λhv=>A34 (A0X hpop (h1 hv)),h2⟩
    ·cases h
   ·split at h
    ·rename_i hb;obtain⟨h1,h2⟩:=vX (n:=n) (Q:=Q) h hn hp;exact⟨λhv=>A1L true hb (λ_=>h1 hv) (λe=>by cases e),h2⟩
    ·rename_i hb;obtain⟨h1,h2⟩:=vX (n:=n) (Q:=Q) h hn hp;exact⟨λhv=>A1L false hb (λe=>by cases e) (λ_=>h1 hv),h2⟩
    ·cases h
   ·cases h
structure J {R:Type} (P:Program) (N n0:Nat) (Q:Qf R) (m:MS) (x:Option R):Prop where
 run:n0<=m.s.nx->∀C:FC,C.N=N->C.n0=n0->∀r,x=some r->VL P C m.cs (QX P (Q C r) m.fs) m.s.Γ m.s.H
structure PJ {R:Type} (n0 N:Nat) (Q:Qf R) (e:Exit) (s:St) (x:Option R):Prop where
 run:n0<=s.nx->∀C:FC,C.N=N->C.n0=n0->∀r,x=some r->vM C (Q C r) e s.Γ s.H
def goM (P:Program) (N n:Nat) (m:MS):MS:=
 match uV P N n m with
 |some r=>r.1
 |none=>m
variable {R:Type} {N n0:Nat} {Q:Qf R} {m:MS}
theorem jn (n:Nat) (ps:List Prop) (hp:tL ps) {x:Option R} (h:(uV P N n m).map gl=some ps:=by kernel_rfl) (hr:J P N n0 Q (goM P N n m) x):J P N n0 Q m x:=by
 constructor;intro hn C hN hn0 r hx;subst hN hn0;obtain⟨⟨m',ps'⟩,hm,e⟩:=bf.1 h;subst e;have hgo:goM P C.N n m=m':=by simp only[goM,hm]
 rw[hgo] at hr;obtain⟨h1,h2⟩:=vX (Q:=Q C r) hm hn hp;exact h1 (hr.run (fo hn h2) C rfl rfl r hx)
theorem jm (n:Nat) {x:Option R} (h:(uV P N n m).map gl=some []:=by kernel_rfl) (hr:J P N n0 Q (goM P N n m) x):J P N n0 Q m x:=jn n [] trivial h hr
theorem ji (n:Nat) [Decidable p] {x:Option R} (h:(uV P N n m).map (λr=>tL r.2)=some p:=by kernel_rfl) (hr:p->J P N n0 Q (goM P N n m) x):J P N n0 Q m (if p then x else none):=by constructor;intro hn C hN hn0 r hx;obtain⟨hp,hx'⟩:=vV hx;obtain⟨⟨m',ps'⟩,hm,e⟩:=bf.1 h;exact jn n ps' (by rw[show tL ps'=p from e];exact hp) (by rw[hm];rfl) (hr hp) |>.run hn C hN hn0 r hx'
theorem jp [Decidable p] {x:Option R} (hr:p->J P N n0 Q m x):J P N n0 Q m (if p then x else none):=.mk λhn C hN hn0 r hx=>(hr (vV hx).1).run hn C hN hn0 r (vV hx).2
theorem jb {y:Option A} {k:A->Option R} (hr:∀z,y=some z->J P N n0 Q m (k z)):J P N n0 Q m (y.bind k):=.mk λhn C hN hn0 r hx=>by obtain⟨z,h1,h2⟩:=A4H hx;exact(hr z h1).run hn C hN hn0 r h2
theorem js {x y:Option R} (h1:b=true->J P N n0 Q m x) (h2:b=false->J P N n0 Q m y):J P N n0 Q m (if b=true then x else y):=.mk λhn C hN hn0 r hx=>by
 cases b with
 |true=>exact(h1 rfl).run hn C hN hn0 r (by simpa using hx)
 |false=>exact(h2 rfl).run hn C hN hn0 r (by simpa using hx)
theorem jd:J P N n0 Q m none:=.mk λ_ _ _ _ _ h=>by cases h
def cB0 (m:MS):Option Bool:=
 match m.cs with
 |.cond c _ _::_=>match evc m.s.Γ c with
  |some (.val (.bool b))=>some b
  |_=>none
 |_=>none
def cT (m:MS):MS:=
 match m.cs with
 |.cond _ x _::cs=>⟨x::cs,m.fs,m.s⟩
 |_=>m
def cF (m:MS):MS:=
 match m.cs with
 |.cond _ _ y::cs=>⟨y::cs,m.fs,m.s⟩
 |_=>m
theorem A5p {m:MS} (h:cB0 m=some b):∃c x y cs,m.cs=.cond c x y::cs/\evc m.s.Γ c=some (.val (.bool b)):=by
 unfold cB0 at h;split at h
 ·rename_i c x y cs hm;split at h
  ·rename_i b' he;cases h;exact⟨c,x,y,cs,hm,he⟩
  ·cases h
 ·cases h
theorem jk {x:Option R} {c:Bool} (hb:b=c) (h:cB0 m=some b:=by kernel_rfl) (hr:J P N n0 Q (if c=true then cT m else cF m) x):J P N n0 Q m x:=by
 constructor;intro hn C hN hn0 r hx;obtain⟨o,u,v,cs,hm,he⟩:=A5p h;rw[hm];refine A1L b he (λe=>?_) (λe=>?_)
 ·rw[if_pos (hb.symm.trans e)] at hr;have hr:=hr.run (by simp only[cT,hm];exact hn) C hN hn0 r hx;simp only[cT,hm] at hr;exact hr
 ·rw[if_neg (by rw[<-hb,e];simp)] at hr;have hr:=hr.run (by simp only[cF,hm];exact hn) C hN hn0 r hx;simp only[cF,hm] at hr;exact hr
theorem jc {x y:Option R} (h:cB0 m=some b:=by kernel_rfl) (h1:b=true->J P N n0 Q (cT m) x) (h2:b=false->J P N n0 Q (cF m) y):J P N n0 Q m (if b=true then x else y):=
 js (λhb=>jk hb h (by rw[if_pos rfl];exact h1 hb)) (λhb=>jk hb h (by rw[if_neg (by simp)];exact h2 hb))
theorem jy {x y:Option R} (e:x=y) (hr:J P N n0 Q m y):J P N n0 Q m x:=e▸hr
def ghM (gs:List Gh) (m:MS):MS:=
 match xS gs m.s with
 |some s=>⟨m.cs,m.fs,s⟩
 |none=>m
theorem A3o:∀{gs:List Gh} {s s':St},xS gs s=some s'->s.nx<=s'.nx
 |[],_,_,h=>by cases h;exact bp _
 | g :: gs,s,s',h => by
   simp only[xS] at h;split at h
   ·rename_i s1 h1;exact fo (A3n h1) (A3o h)
   ·cases h
theorem jg (gs:List Gh) {x:Option R} (hr:J P N n0 Q (ghM gs m) x):J P N n0 Q m x:=by
 constructor;intro hn C hN hn0 r hx;unfold ghM at hr;split at hr
 ·rename_i s hs;have:=A3o hs;refine A5N gs m.s.nx s (by cases m;cases ‹St›;exact hs) (by omega) ?_;exact hr.run (by show n0<=s.nx;omega) C hN hn0 r hx
 ·exact hr.run hn C hN hn0 r hx
def itM (n:Nat) (b:Bool) (m:MS):MS:=
 match tJ m.s.H n with
 |some (.it t pos _)=>⟨m.cs,m.fs,⟨m.s.Γ,(n,.it t pos (some b))::tO m.s.H n,m.s.nx⟩⟩
 |_=>m
def itB (n:Nat) (m:MS):Option Bool:=
 match tJ m.s.H n with
 |some (.it t pos _)=>some (decide (pos<t.size))
 |_=>none
theorem jit (n:Nat) {c:Bool} {x:Option R} (hb:b=c) (h:itB n m=some b:=by kernel_rfl) (hr:J P N n0 Q (itM n c m) x):J P N n0 Q m x:=by
 constructor;intro hn C hN hn0 r hx;unfold itB at h;unfold itM at hr;split at h
 ·rename_i t pos k hl;rw[hl] at hr;cases h;exact A5O n c hb hl (hr.run hn C hN hn0 r hx)
 ·cases h
structure CP (P:Program) where
 i:Nat
 c:uW
 h:Spec P c.f c.m0 c.args0 c.H0 c.res0 c.H1
def cp (i:Nat) {f:FuncId} {m0:Nat} {args:List SV} {H:tG} {res:SV} {H':tG} (h:Spec P f m0 args H res H') (ρ:List (Nat×Nat)) (nx:Nat):CP P:=⟨i,⟨f,m0,args,H,res,H',ρ,nx⟩,h⟩
def cpL (l:List (CP P)):List (Nat×uW):=l.map λc=>(c.i,c.c)
theorem A3S {l:List (CP P)} (h:(l.all λc=>uS P c.c.f)=true):∀p∈cpL l,Spec P p.2.f p.2.m0 p.2.args0 p.2.H0 p.2.res0 p.2.H1/\uS P p.2.f=true:=by intro p hp;obtain⟨c,hc,rfl⟩:=cj.1 hp;exact⟨c.h,cn.1 h c hc⟩
def vD (P:Program) (N:Nat) (l:List (CP P)) (kn:List (Nat×Bool)) (m:MS):Option SA:=
 match m.cs with
 |.region _ ops false::_=>y4 P N (cpL l) kn ops ops.size 0 ops.toList m.s
 |_=>none
def xW (P:Program) (N:Nat) (l:List (CP P)) (kn:List (Nat×Bool)) (m:MS):MS:=
 match vD P N l kn m with
 |some r=>⟨m.cs.tail,m.fs,r.s⟩
 |none=>m
theorem A4e {calls:List (Nat×uW)} {kn:List (Nat×Bool)} {all:Array Oper}:∀{n i:Nat} {os:List Oper} {s:St} {r:SA},y4 P N calls kn all n i os s=some r->s.nx<=r.s.nx
 |0,_,_,_,_,h=>by cases h;exact bp _
 |_+1,_,[],_,_,h=>by cases h;exact bp _
 | n+1,i,o :: os,s,r,h => by
   unfold y4 at h;split at h
   ·rename_i d hd;split at h
    ·split at h
     ·rename_i r1 hr1;cases h;exact fo (A7b hd) (A4e hr1)
     ·cases h
    ·cases h
   ·cases h
theorem A4B {l:List (α×α)} (h:l.map di=l.map gl):∀p∈l,p.1=p.2:=A1w h
theorem jr (l:List (CP P)) (kn:List (Nat×Bool)) (ps:List Prop) (hp:tL ps) {x:Option R}
 (hc:(l.all λc=>uS P c.c.f)=true:=by kernel_rfl)
 (h:(vD P N l kn m).map (λd=>(d.c,d.e1.map di,d.e2.map di))=(vD P N l kn m).bind (λd=>some (ps,d.e1.map gl,d.e2.map gl)):=by kernel_rfl)
 (h0:(vD P N l kn m).isSome=true:=by kernel_rfl) (hr:J P N n0 Q (xW P N l kn m) x):J P N n0 Q m x:=by
 constructor;intro hn C hN hn0 r hx;subst hN hn0;obtain⟨d,hd⟩:=fz.1 h0;rw[hd] at h;simp only[fy,kq,dw,le] at h;obtain⟨rfl,h1,h2⟩:=h;have hM:xW P C.N l kn m=⟨m.cs.tail,m.fs,d.s⟩:=by simp only[xW,hd]
 rw[hM] at hr;unfold vD at hd;split at hd
 ·rename_i id ops cs hm;rw[hm];refine xK ?_;have hnx:=A4e hd;refine A4f (A3S hc) hd hn hp (A4B h1) (A4B h2) ?_;have:ops.toList.drop ops.size=[]:=by simp
  rw[this];have hr:=hr.run (by show C.n0<=d.s.nx;omega) C rfl rfl r hx;rw[hm] at hr;exact wI hr
 ·cases hd
theorem jr0 (l:List (CP P)) {x:Option R}
 (hc:(l.all λc=>uS P c.c.f)=true:=by kernel_rfl)
 (h:(vD P N l [] m).map (λd=>(d.c,d.e1.map di,d.e2.map di))=(vD P N l [] m).bind (λd=>some ([],d.e1.map gl,d.e2.map gl)):=by kernel_rfl)
 (h0:(vD P N l [] m).isSome=true:=by kernel_rfl) (hr:J P N n0 Q (xW P N l [] m) x):J P N n0 Q m x:=jr l [] [] trivial hc h h0 hr
theorem jri (l:List (CP P)) (kn:List (Nat×Bool)) [Decidable p] {x:Option R}
 (hc:(l.all λc=>uS P c.c.f)=true:=by kernel_rfl)
 (h:(vD P N l kn m).map (λd=>(tL d.c,d.e1.map di,d.e2.map di))=(vD P N l kn m).bind (λd=>some (p,d.e1.map gl,d.e2.map gl)):=by kernel_rfl)
 (h0:(vD P N l kn m).isSome=true:=by kernel_rfl) (hr:p->J P N n0 Q (xW P N l kn m) x):J P N n0 Q m (if p then x else none):=by
 constructor;intro hn C hN hn0 r hx;obtain⟨hp,hx'⟩:=vV hx;obtain⟨d,hd⟩:=fz.1 h0;rw[hd] at h;simp only[fy,kq,dw,le] at h;exact jr l kn d.c (h.1▸hp) hc (by rw[hd];simp only[fy,kq,dw,le];exact⟨trivial,h.2.1,h.2.2⟩) h0 (hr hp) |>.run hn C hN hn0 r hx'
def vA (P:Program) (N:Nat) (l:List (CP P)) (kn:List (Nat×Bool)) (m:MS):Option DA:=
 match m.cs with
 |.region _ ops true::_=>A1Y P N (cpL l) kn ops m.s.Γ m.s.H m.s.nx
 |_=>none
def xN (P:Program) (N:Nat) (l:List (CP P)) (kn:List (Nat×Bool)) (m:MS):MS:=
 match vA P N l kn m with
 |some r=>⟨m.cs.tail,m.fs,r.s⟩
 |none=>m
theorem jw (l:List (CP P)) (kn:List (Nat×Bool)) (ps:List Prop) (hp:tL ps) {x:Option R} (hmx:P.follows .mixedOrders=true:=by kernel_rfl)
 (hc:(l.all λc=>uS P c.c.f)=true:=by kernel_rfl)
 (h:(vA P N l kn m).map (λd=>(d.c,d.e1.map di,d.e2.map di))=(vA P N l kn m).bind (λd=>some (ps,d.e1.map gl,d.e2.map gl)):=by kernel_rfl)
 (h0:(vA P N l kn m).map (λd=>decide (m.s.nx<=d.s.nx))=some true:=by kernel_rfl) (hr:J P N n0 Q (xN P N l kn m) x):J P N n0 Q m x:=by
 constructor;intro hn C hN hn0 r hx;subst hN hn0;obtain⟨d,hd,hnx⟩:=bf.1 h0;have hnx:=of_decide_eq_true hnx;rw[hd] at h;simp only[fy,kq,dw,le] at h;obtain⟨rfl,h1,h2⟩:=h;have hM:xN P C.N l kn m=⟨m.cs.tail,m.fs,d.s⟩:=by simp only[xN,hd]
 rw[hM] at hr;unfold vA at hd;split at hd
 ·rename_i id ops cs hm;rw[hm];have hr:=hr.run (by show C.n0<=d.s.nx;omega) C rfl rfl r hx;rw[hm] at hr;exact A5M hmx (cpL l) kn (A3S hc) m.s.nx d hd hn hp h1 h2 hr
 ·cases hd
theorem jw0 (l:List (CP P)) {x:Option R} (hmx:P.follows .mixedOrders=true:=by kernel_rfl)
 (hc:(l.all λc=>uS P c.c.f)=true:=by kernel_rfl)
 (h:(vA P N l [] m).map (λd=>(d.c,d.e1.map di,d.e2.map di))=(vA P N l [] m).bind (λd=>some ([],d.e1.map gl,d.e2.map gl)):=by kernel_rfl)
 (h0:(vA P N l [] m).map (λd=>decide (m.s.nx<=d.s.nx))=some true:=by kernel_rfl) (hr:J P N n0 Q (xN P N l [] m) x):J P N n0 Q m x:=jw l [] [] trivial hmx hc h h0 hr
theorem jwi (l:List (CP P)) (kn:List (Nat×Bool)) [Decidable p] {x:Option R} (hmx:P.follows .mixedOrders=true:=by kernel_rfl)
 (hc:(l.all λc=>uS P c.c.f)=true:=by kernel_rfl)
 (h:(vA P N l kn m).map (λd=>(tL d.c,d.e1.map di,d.e2.map di))=(vA P N l kn m).bind (λd=>some (p,d.e1.map gl,d.e2.map gl)):=by kernel_rfl)
 (h0:(vA P N l kn m).map (λd=>decide (m.s.nx<=d.s.nx))=some true:=by kernel_rfl) (hr:p->J P N n0 Q (xN P N l kn m) x):J P N n0 Q m (if p then x else none):=by
 constructor;intro hn C hN hn0 r hx;obtain⟨hp,hx'⟩:=vV hx;obtain⟨d,hd,_⟩:=bf.1 h0;rw[hd] at h;simp only[fy,kq,dw,le] at h;exact jw l kn d.c (h.1▸hp) hmx hc (by rw[hd];simp only[fy,kq,dw,le];exact⟨trivial,h.2.1,h.2.2⟩) h0 (hr hp) |>.run hn C hN hn0 r hx'
def zY (inv:List (Nat×Nat)) (Γ:Env) (H:tG) (s:St) (n0:Nat):Prop:=
 (wR inv Γ,uF inv H,decide ((H.map λp=>rn inv p.1)).Nodup&&decide (H.map di).Nodup&&inv.all λp=>decide (n0<=p.1))=(wF s.Γ (Γ.map di),uT s.H (H.map λp=>rn inv p.1),true)
theorem A1g {inv:List (Nat×Nat)} {H:tG} {s:St} {w:World} (h:zY inv Γ H s C.n0) (hs:Sat C s.Γ s.H a w):Sat C Γ H a w:=by unfold zY at h;simp only[le,bq,decide_eq_true_eq,cn] at h;exact A5E inv h.1 h.2.1 h.2.2.1.1 h.2.2.1.2 h.2.2.2 hs
def Qc {Rc Y:Type} (P:Program) (Q:Qf R) (fs:List Fm) (cont:Rc->Option R) (ι:Y->Rc) (Γm:Y->Env) (Hm:Y->tG):Qf Rc:=λC q e a w=>
 match e with
 |.normal=> ∃y,ι y=q/\Sat C (Γm y) (Hm y) a w
 |e=> ∀r,cont q=some r->QX P (Q C r) fs e a w
def zR (m:MS):MS:=⟨m.cs.take 1,[],m.s⟩
def zU (m:MS) (Γ:Env) (H:tG) (nx:Nat):MS:=⟨m.cs.tail,m.fs,⟨Γ,H,nx⟩⟩
theorem A41 {cont:Rc->Option R} {x:Option Rc} (ι:Y->Rc) (nx:Nat) (Γm:Y->Env) (Hm:Y->tG) (h:(decide (n0<=nx)&&!m.cs.isEmpty)=true:=by kernel_rfl) (h1:J P N n0 (Qc P Q m.fs cont ι Γm Hm) (zR m) x)
 (h2:∀y,J P N n0 Q (zU m (Γm y) (Hm y) nx) (cont (ι y))):J P N n0 Q m (x.bind cont):=by
 constructor;intro hn C hN hn0 r hx;simp only[bq,decide_eq_true_eq] at h;obtain⟨q,hq,hr⟩:=A4H hx;cases hm:m.cs with
 |nil=>rw[hm] at h;simp at h
 | cons c cs =>
   have k1:=h1.run hn C hN hn0 q hq;simp only[zR,hm,List.take_succ_cons,List.take_zero,QX] at k1;refine A5a q ι Γm Hm (λa w hs=>?_) (λy hy=>?_)
   ·have:=k1 a w hs;simp only[wpL] at this ⊢;refine wp_mono this λe a w he=>?_;cases e with
    |normal=>exact he
    |exit i=>exact he r hr
    |goto l=>exact he r hr
    |ret=>exact he r hr
    |panic c=>exact he r hr
    |outgrown=>exact he r hr
   ·have:=(h2 y).run h.1 C hN hn0 r (by rw[hy];exact hr);simp only[zU,hm,kw] at this;exact this
theorem ja {cont:Y->Option R} {x:Option Y} (nx:Nat) (Γm:Y->Env) (Hm:Y->tG) (h:(decide (n0<=nx)&&!m.cs.isEmpty)=true:=by kernel_rfl) (h1:J P N n0 (Qc P Q m.fs cont (λy=>y) Γm Hm) (zR m) x)
 (h2:∀y,J P N n0 Q (zU m (Γm y) (Hm y) nx) (cont y)):J P N n0 Q m (x.bind cont):=A41 (λy=>y) nx Γm Hm h h1 h2
theorem ja2 {f:A->Option R} {cont:Y->Option R} {x:Option (A ⊕ Y)} (nx:Nat) (Γm:Y->Env) (Hm:Y->tG) (h:(decide (n0<=nx)&&!m.cs.isEmpty)=true:=by kernel_rfl) (h1:J P N n0 (Qc P Q m.fs (Sum.elim f cont) Sum.inr Γm Hm) (zR m) x)
 (h2:∀y,J P N n0 Q (zU m (Γm y) (Hm y) nx) (cont y)):J P N n0 Q m (x.bind (Sum.elim f cont)):=A41 Sum.inr nx Γm Hm h h1 h2
def Ql {X:Type} (P:Program) (Q:Qf R) (fs:List Fm) (L:Nat->X->Option R) (Γ:X->Env) (H:X->tG) (k:Nat):Qf R:=λC r e a w=>
 match e with
 |.normal=> ∃x,L k x=some r/\Sat C (Γ x) (H x) a w
 |e=>QX P (Q C r) fs e a w
def A1m (m:MS):Bool:=
 match m.cs with
 |.loop _::_=>true
 |_=>false
def A3J (m:MS):List Code:=
 match m.cs with
 |.loop c::_=>[c]
 |_=>[]
def A1O (m:MS) (Γ:Env) (H:tG) (nx:Nat):MS:=⟨A3J m,[],⟨Γ,H,nx⟩⟩
theorem jl {y:Option R} (L:Nat->X->Option R) (k0:Nat) (x0:X) (e:L k0 x0=y) (nx:Nat) (inv:List (Nat×Nat)) (Γ:X->Env) (H:X->tG) (hz:∀x,L 0 x=none)
 (hf:(wR inv (Γ x0),uF inv (H x0),decide ((H x0).map λp=>rn inv p.1).Nodup&&decide ((H x0).map di).Nodup&&inv.all λp=>decide (n0<=p.1))=(wF m.s.Γ ((Γ x0).map di),uT m.s.H ((H x0).map λp=>rn inv p.1),true):=by kernel_rfl) (h:(decide (n0<=nx)&&A1m m)=true:=by kernel_rfl)
 (round:∀k x,J P N n0 (Ql P Q m.fs L Γ H k) (A1O m (Γ x) (H x) nx) (L (k+1) x)):J P N n0 Q m y:=by
 subst e;constructor;intro hn C hN hn0 r hx;replace hf:zY inv _ _ m.s n0:=hf;simp only[bq,decide_eq_true_eq] at h;have key:VL P C m.cs (QX P (Q C r) m.fs) (Γ x0) (H x0):=by
  unfold A1m at h;cases hm:m.cs with
  |nil=>rw[hm] at h;simp at h
  | cons c cs =>
    rw[hm] at h;cases c with
    | loop body =>
      refine A5Q Γ H (λk x=>L k x=some r) k0 x0 hx (λx=>by rw[hz];simp) λk x hk=>?_;have:=(round k x).run (by exact h.1) C hN hn0 r hk;simp only[A1O,A3J,hm,QX] at this;intro a w hs;have:=this a w hs;simp only[wpL] at this ⊢;refine wp_mono this λe a w he=>?_;cases e<;>exact he
    |_=>simp at h
 subst hn0;exact λa w hs=>key a w (A1g hf hs)
theorem jx {L:Nat->X->Option R} {Γ:X->Env} {H:X->tG} {y:Option R} (x:X) (e:L k x=y) (inv:List (Nat×Nat)) (hf:(wR inv (Γ x),uF inv (H x),decide ((H x).map λp=>rn inv p.1).Nodup&&decide ((H x).map di).Nodup&&inv.all λp=>decide (n0<=p.1))=(wF m.s.Γ ((Γ x).map di),uT m.s.H ((H x).map λp=>rn inv p.1),true):=by kernel_rfl)
 (h:(m.cs.isEmpty&&m.fs.isEmpty)=true:=by kernel_rfl):J P N n0 (Ql P Q fs L Γ H k) m y:=by
 subst e;constructor;intro hn C hN hn0 r hx;replace hf:zY inv _ _ m.s n0:=hf;simp only[bq,qu] at h;rw[h.1,h.2];subst hn0;exact zI λa w hs=>⟨x,hx,A1g hf hs⟩
theorem jo {cont:Rc->Option R} {ι:Y->Rc} {Γm:Y->Env} {Hm:Y->tG} {m:MS} {y:Y} (inv:List (Nat×Nat)) (hf:(wR inv (Γm y),uF inv (Hm y),decide ((Hm y).map λp=>rn inv p.1).Nodup&&decide ((Hm y).map di).Nodup&&inv.all λp=>decide (n0<=p.1))=(wF m.s.Γ ((Γm y).map di),uT m.s.H ((Hm y).map λp=>rn inv p.1),true):=by kernel_rfl)
 (h:(m.cs.isEmpty&&m.fs.isEmpty)=true:=by kernel_rfl):J P N n0 (Qc P Q fs cont ι Γm Hm) m (some (ι y)):=by
 constructor;intro hn C hN hn0 r hx;replace hf:zY inv _ _ m.s n0:=hf;simp only[bq,qu] at h;rw[h.1,h.2];cases hx;subst hn0;exact zI λa w hs=>⟨y,rfl,A1g hf hs⟩
def Qx (P:Program) (Q:Qf R) (fs:List Fm):Qf R:=λC r=>QX P (Q C r) fs
def A1n (m:MS):Bool:=
 match m.cs with
 |.ret::_=>true
 |_=>false
def A3d (m:MS):Option Nat:=
 match m.cs with
 |.exit i::_=>if (vW i m.fs).isNone then some i else none
 |_=>none
theorem jt {x:Option R} (h:PJ n0 N Q .ret m.s x) (hm:A1n m=true:=by kernel_rfl):J P N n0 Q m x:=by
 constructor;intro hn C hN hn0 r hx;have k:=h.run hn C hN hn0 r hx;unfold A1n at hm;split at hm
 ·rename_i cs e;rw[e];exact A5S λa w hs=>A1H (k a w hs)
 ·cases hm
theorem je {x:Option R} (h:PJ n0 N Q .normal m.s x) (hm:(m.cs.isEmpty&&m.fs.isEmpty)=true:=by kernel_rfl):J P N n0 Q m x:=by constructor;intro hn C hN hn0 r hx;simp only[bq,qu] at hm;rw[hm.1,hm.2];exact zI (h.run hn C hN hn0 r hx)
theorem jq (i:Nat) {x:Option R} (h:PJ n0 N Q (.exit i) m.s x) (hm:A3d m=some i:=by kernel_rfl):J P N n0 Q m x:=by
 constructor;intro hn C hN hn0 r hx;have k:=h.run hn C hN hn0 r hx;unfold A3d at hm;split at hm
 ·rename_i j cs e;split at hm
  ·rename_i hp;cases hm;rw[e];exact A34 (A1G (by simpa using hp) k)
  ·cases hm
 ·cases hm
variable {s:St}
theorem rl {L:Nat->X->Option R} {Γ:X->Env} {H:X->tG} {x:Option R} (h:PJ n0 N Q .ret s x):PJ n0 N (Ql P Q fs L Γ H k) .ret s x:=.mk λhn C hN hn0 r hx a w hs=>A1H (h.run hn C hN hn0 r hx a w hs)
theorem rc {cont:Rc->Option R} {ι:Y->Rc} {Γm:Y->Env} {Hm:Y->tG} {q:Rc} (h:PJ n0 N Q .ret s (cont q)):PJ n0 N (Qc P Q fs cont ι Γm Hm) .ret s (some q):=.mk λhn C hN hn0 r hx a w hs r' hr'=>by cases hx;exact A1H (h.run hn C hN hn0 r' hr' a w hs)
theorem ql {L:Nat->X->Option R} {Γ:X->Env} {H:X->tG} {x:Option R} (h:PJ n0 N (Qx P Q fs) (.exit i) s x):PJ n0 N (Ql P Q fs L Γ H k) (.exit i) s x:=.mk h.run
def A29 (i:Nat) (fs:List Fm) (s:St):MS:=
 match vW i fs with
 |some r=>⟨r.1,r.2,s⟩
 |none=>⟨[],[],s⟩
theorem qh {x:Option R} (h:J P N n0 Q (A29 i fs s) x) (hp:(vW i fs).isSome=true:=by kernel_rfl):PJ n0 N (Qx P Q fs) (.exit i) s x:=.mk λhn C hN hn0 r hx=>by obtain⟨⟨rest,fs'⟩,hr⟩:=fz.1 hp;have:=h.run (by simp only[A29,hr];exact hn) C hN hn0 r hx;simp only[A29,hr] at this;exact A0X hr this
def Qfn (P:Program) (fn:Func) (res:R->SV) (H1:R->tG):Qf R:=λC r=>QF P C fn (res r) (H1 r)
theorem A5C {H Ht:tG} {w:World} (inv:List (Nat×Nat)) (hH:uF inv Ht=uT H (Ht.map λp=>rn inv p.1))
 (hn1:((Ht.map λp=>rn inv p.1)).Nodup) (hn2:(Ht.map di).Nodup) (hσ:tK C σ H w) :
 tK C (λn=>σ (rn inv n)) Ht w/\∀b,b<w.heap.size->¬Ow C.G H σ b->¬Ow C.G Ht (λn=>σ (rn inv n)) b:=by
 have hsub:∀p∈uF inv Ht,p∈H:=λp hp=>by rw[hH] at hp;exact tI (A06 hp).2
 have hkeys:(uF inv Ht).map di=Ht.map λp=>rn inv p.1:=by simp[uF]
 have hσ2:=hσ.sub hsub (by rw[hkeys];exact hn1);have how:Ow C.G Ht (λn=>σ (rn inv n))=Ow C.G (uF inv Ht) σ:=by
  funext b;apply propext;constructor
  ·rintro (hg|⟨p,hp,hb⟩);·exact .inl hg
   ·exact .inr ⟨(rn inv p.1,p.2.ren inv),cj.2 ⟨p,hp,rfl⟩,hb⟩
  ·rintro (hg|⟨q,hq,hb⟩);·exact .inl hg
   ·obtain⟨p,hp,rfl⟩:=cj.1 hq;exact .inr ⟨p,hp,hb⟩
 have hmem:∀p∈Ht,(rn inv p.1,p.2.ren inv)∈uF inv Ht:=λp hp=>cj.2 ⟨p,hp,rfl⟩;refine⟨⟨λp hp=>?_,hn2,λp hp q hq hpq b hb hb'=>?_,λp hp b hb=>hσ2.mine _ (hmem p hp) b hb,hσ2.fr⟩,λb _ ho hb=>?_⟩
 ·rw[how];exact A0S.1 (hσ2.ent _ (hmem p hp))
 ·have hne:rn inv p.1≠rn inv q.1:=λe=>hpq (by rw[A3v (f:=λp=>rn inv p.1) hn1 hp hq e]);exact hσ2.disj _ (hmem p hp) _ (hmem q hq) hne b hb hb'
 ·rw[how] at hb;exact A0q hsub ho hb
theorem A6M {inv:List (Nat×Nat)} {n0:Nat} (h:∀p∈inv,n0<=p.1) (hn:n<n0):rn inv n=n:=by
 unfold rn;cases hl:tJ inv n with
 |none=>rfl
 | some m =>
   have:=h _ (tI hl);simp at this;omega
theorem rf {res:R->SV} {H1:R->tG} (e:Exit) (he:e=.ret\/e=.normal) (inv:List (Nat×Nat)) {x:Option R}
 (h:x.map (λr=>(some ((res r).ren inv),uF inv (H1 r),decide (((H1 r).map λp=>rn inv p.1)).Nodup&&decide ((H1 r).map di).Nodup&&inv.all λp=>decide (n0<=p.1))) =
  x.bind (λr=>some (yT P s.Γ s.H fn.results.toList,uT s.H ((H1 r).map λp=>rn inv p.1),true))):PJ n0 N (Qfn P fn res H1) e s x:=by
 constructor;intro hn C hN hn0 r hx;subst hx hn0;simp only[fy,kq,dw,le,bq,decide_eq_true_eq,cn] at h;obtain⟨h1,h2,⟨h3,h4⟩,h5⟩:=h;rintro a w ⟨σ,hσ,hE,hp⟩;obtain⟨v,hv,hs⟩:=A6g (P:=P) hσ hE h1.symm;obtain⟨k1,k2⟩:=A5C inv h2 h3 h4 hσ;have hp':∀n,n<C.n0->(λn=>σ (rn inv n)) n=C.σ0 n:=λn hlt=>by simp only[A6M h5 hlt];exact hp n hlt
 have hv':=A0Y.1 (wP (λ_ _ _=>rfl) k2 hs);rcases he with rfl|rfl;·exact⟨hE.2.2,v,hv,v,_,rfl,k1,hv',hp'⟩
 ·exact⟨hE.2.2,v,hv,v,_,rfl,k1,hv',hp'⟩
theorem rr {res:R->SV} {H1:R->tG} (inv:List (Nat×Nat)) {x:Option R}
 (h:x.map (λr=>(some ((res r).ren inv),uF inv (H1 r),decide (((H1 r).map λp=>rn inv p.1)).Nodup&&decide ((H1 r).map di).Nodup&&inv.all λp=>decide (n0<=p.1))) =
  x.bind (λr=>some (yT P s.Γ s.H fn.results.toList,uT s.H ((H1 r).map λp=>rn inv p.1),true)):=by kernel_rfl):PJ n0 N (Qfn P fn res H1) .ret s x:=rf .ret (.inl rfl) inv h
theorem rn' {res:R->SV} {H1:R->tG} (inv:List (Nat×Nat)) {x:Option R}
 (h:x.map (λr=>(some ((res r).ren inv),uF inv (H1 r),decide (((H1 r).map λp=>rn inv p.1)).Nodup&&decide ((H1 r).map di).Nodup&&inv.all λp=>decide (n0<=p.1))) =
  x.bind (λr=>some (yT P s.Γ s.H fn.results.toList,uT s.H ((H1 r).map λp=>rn inv p.1),true)):=by kernel_rfl):PJ n0 N (Qfn P fn res H1) .normal s x:=rf .normal (.inr rfl) inv h
def A1P (fn:Func):List Code:=match fn.body with|some c=>[c]|none=>[]
def FS {R:Type} (P:Program) (f:FuncId) (n0:Nat) (args:List SV) (H:tG) (x:Option R) (res:R->SV) (H1:R->tG):Prop:=∀r,x=some r->Spec P f n0 args H (res r) (H1 r)
theorem jfn {n0:Nat} {H:tG} {res:R->SV} {H1:R->tG} {x:Option R} (hf:P.funcs[f]? =some fn)
 (h:J P fn.ntmps n0 (Qfn P fn res H1) ⟨A1P fn,[],⟨xO 0 args,H,n0⟩⟩ x) (hl:(decide (args.length<=fn.ntmps)&&fn.body.isSome)=true:=by kernel_rfl):FS P f n0 args H x res H1:=by
 intro r hx;simp only[bq,decide_eq_true_eq] at hl;obtain⟨c,hc⟩:=fz.1 hl.2;refine A5I hf hc hl.1 λC hN hn=>?_;have:=h.run (bp _) C hN hn r hx;simp only[A1P,hc,QX] at this;exact this
inductive Gx where
 |ar0 (m:Nat)
 |ao (m:Nat)
 |un (m:Nat)
 |absorb (n:Nat)
 |nilSets (m i:Nat)
 |nilSetsSlot (t:Nat)
 |nilB (m i:Nat) (e:TypeId)
 |lits (n:Nat)
 |toA (m p k:Nat)
 |nilAown (t:Nat)
def A1R:List CV->Option (List Bool)
 |[]=>some []
 |.val (.bool b)::l=>(A1R l).map (b::·)
 |_=>none
theorem A3K:∀{l:List CV} {bs:List Bool},A1R l=some bs->l=bs.map λb=>CV.val (.bool b)
 |[],bs,h=>by cases h;rfl
 | .val (.bool b) :: l,bs,h => by obtain⟨cs,hc,rfl⟩:=bf.1 h;rw[dj,<-A3K hc]
def yF (n nx m len:Nat):CV->CV
 |.h q=>if q=n then .h nx else if q=m then .elm nx len else .h q
 |.elt q sz i o=>if q=n then .elt nx sz i o else .elt q sz i o
 |.elm q i=>if q=n then .elm nx i else .elm q i
 |s=>s
def ghx (g:Gx) (s:St):Option (St×List Prop):=
 match g with
 |.ar0 m=>match tJ s.H m with
  |some (.row (.pair .str (.pair (.int .i64) (.pair (.int .i64) (.pair (.int .i64) (.slice (.pair (.int .i64) (.int .i64))))))) xs)=>if tY s.nx s.Γ s.H=true then
   some (⟨vC (reH m s.nx) s.Γ,vO (reH m s.nx) ((s.nx,.arow 0 xs)::tW s.H [m]),s.nx+1⟩,[]) else none
  |_=>none
 |.ao m=>match tJ s.H m with
  |some (.arow k xs)=>some (⟨s.Γ,(m,.aown xs)::tO s.H m,s.nx⟩,[bg xs<=k])
  |_=>none
 |.un m=>match tJ s.H m with
  |some (.aown xs)=>if tY s.nx s.Γ s.H=true then some (⟨vC (reH m s.nx) s.Γ,vO (reH m s.nx) ((s.nx,.row aK xs)::tW s.H [m]),s.nx+1⟩,[]) else none
  |_=>none
 |.absorb n=>match tJ s.H n with
  |some (.sets ls (some m))=>match tJ s.H m with
   |some (.map l)=>if (n≠m)/\tY s.nx s.Γ s.H=true then some (⟨vC (yF n s.nx m ls.length) s.Γ,vO (yF n s.nx m ls.length) ((s.nx,.sets (ls++[l]) none)::tW s.H [n,m]),s.nx+1⟩,[]) else none
   |_=>none
  |_=>none
 |.nilSets m i=>match tJ s.H m with
  |some (.box cs)=>match cs[i]? with
   |some (.val (.slice none 0 0))=>if tY s.nx s.Γ s.H=true then some (⟨s.Γ,(s.nx,.sets [] none)::(m,.box (cs.set i (.h s.nx)))::tO s.H m,s.nx+1⟩,[]) else none
   |_=>none
  |_=>none
 |.nilB m i e=>match tJ s.H m with
  |some (.box cs)=>match cs[i]? with
   |some (.val (.slice none 0 0))=>if tY s.nx s.Γ s.H=true then some (⟨s.Γ,(s.nx,.brow e [])::(m,.box (cs.set i (.h s.nx)))::tO s.H m,s.nx+1⟩,[]) else none
   |_=>none
  |_=>none
 |.nilSetsSlot t=>match tJ s.Γ t with
  |some (.c (.val (.slice none 0 0)))=>if tY s.nx s.Γ s.H=true then some (⟨(t,.c (.h s.nx))::s.Γ,(s.nx,.sets [] none)::s.H,s.nx+1⟩,[]) else none
  |_=>none
 |.lits n=>match tJ s.H n with
  |some (.lit [.h m])=>match tJ s.H m with
   |some (.map _)=>if (n≠m)/\tY s.nx s.Γ s.H=true then some (⟨vC (reH n s.nx) s.Γ,vO (reH n s.nx) ((s.nx,.sets [] (some m))::tW s.H [n]),s.nx+1⟩,[]) else none
   |_=>none
  |_=>none
 |.nilAown t=>match tJ s.Γ t with
  |some (.c (.val (.slice none 0 0)))=>if tY s.nx s.Γ s.H=true then some (⟨(t,.c (.h s.nx))::s.Γ,(s.nx,.aown [])::s.H,s.nx+1⟩,[]) else none
  |_=>none
 |.toA m p k=>match tJ s.H m with
  |some (.box cs)=>match A1R ((cs.drop p).take k) with
   |some bs=>if bs.length=k then some (⟨s.Γ,(m,.abox (cs.take p) k bs (cs.drop (p+k)))::tO s.H m,s.nx⟩,[]) else none
   |none=>none
  |_=>none
theorem xch {H:tG} {w:World} (h:tK C σ H w) (hE:tM C σ H w Γ a) (hp:∀n,n<C.n0->σ n=C.σ0 n) (ns:List Nat) (nx:Nat) (e':Ent) (v':Value) (f:CV->CV) (hf:tY nx Γ H=true) (hn:C.n0<=nx)
 (hblk:∀b,Bk v' b->∃n∈ns,(∃e,(n,e)∈H)/\Bk (σ n) b)
 (hent:(∀b,b<w.heap.size->¬Ow C.G H σ b->¬Ow C.G ((nx,e')::tW H ns) (upd σ nx v') b)->uB (Ow C.G ((nx,e')::tW H ns) (upd σ nx v')) w (upd σ nx v') nx e')
 (hr:∀s v,CVr (Ow C.G ((nx,e')::tW H ns) (upd σ nx v')) w (upd σ nx v') s v->CVr (Ow C.G ((nx,e')::tW H ns) (upd σ nx v')) w (upd σ nx v') (f s) v) :
 Sat C (vC f Γ) (vO f ((nx,e')::tW H ns)) a w:=by
 have hst:=vL (w':=w) h hE ns nx e' v' hf (λ_ _ _=>rfl) (bp _) rfl rfl rfl (λb hb=>.inl (hblk b hb)) (λ_ ha=>hent ha);obtain⟨h1,h2⟩:=A2F f hst.1 hst.2.env hr;exact⟨_,h1,h2,λn hlt=>by rw[tT (by omega)];exact hp n hlt⟩
theorem A5l {w:World} {xs:List aK.ty} (h:tV O w aK xs v) (ho:∀b,b<w.heap.size->¬O b->¬O' b):ArR O' w (.tuple [v].toArray) 0 xs none:=by
 obtain⟨A,cap,rfl,h⟩:=h;refine⟨A,cap,[],rfl,rfl,Nat.zero_le _,?_,λi hi=>by simp at hi,?_⟩
 ·rw[dc];split<;>simp
 ·rcases h with h|⟨hp,hl,b,off,c,e,rfl,hh,hs,hr⟩;·exact .inl h
  ·refine .inr ⟨hp,hl,b,off,c,e,rfl,hh,hs,λi hi=>?_⟩;obtain⟨cs,hR,hc⟩:=hr i hi;exact⟨cs,hc,by rw[if_neg (by omega)];exact uX (λ_ _ _=>rfl) ho hR⟩
theorem A6h {w:World} {xs:List aK.ty} (h:ArR O w v xs.length xs none) (ho:∀b,b<w.heap.size->¬O b->¬O' b) (hO:∀(i:Nat) (u:Value) (b:Nat),(tl v)[i]? =some u->blk u=some b->¬O' b):tV O' w aK xs (hd v):=by
 obtain⟨A,cap,vs,rfl,h1,h2,h3,h4,h5⟩:=h;refine⟨A,cap,rfl,?_⟩;rcases h5 with h5|⟨hp,hl,b,off,c,e,rfl,hh,hs,hr⟩;·exact .inl h5
 ·refine .inr ⟨hp,hl,b,off,c,e,rfl,hh,hs,λi hi=>?_⟩;obtain⟨cs,hcs,hu⟩:=hr i hi;rw[if_pos hi] at hu;obtain⟨u,rfl,hone,hvu⟩:=hu;have hvu:=hvu (by simp);refine⟨_,?_,hcs⟩;have hiv:i<vs.length:=by omega
  obtain⟨zs,hR,hz,_⟩:=h4 i hiv;have hu':vs[i]=u:=by rw[bj hiv] at hvu;exact Option.some.inj hvu
  have hzs:zs=xs[i].2.2.2.2:=hz _ (bj hi) (by simp);rw[hu'] at hR;have himm:=A2v (O':=O') hR (λb hb=>hO i u b (by simpa[tl] using hvu) ((v6 hR).1 hb)) ho;rw[hzs] at himm;exact⟨[_],[_,_,_,u],rfl,rfl,[_],[_,_,u],rfl,rfl,[_],[_,u],rfl,rfl,[_],[u],rfl,rfl,himm⟩
theorem A6c {H:tG} {w:World} (h:tK C σ H w) {m:Nat} {e e':Ent} {v':Value} (hm:tJ H m=some e) (hfr:∀p∈H,p.1≠nx) {b:Nat} (hb:Bk (σ m) b) (hv:¬Bk v' b):¬Ow C.G ((nx,e')::tW H [m]) (upd σ nx v') b:=by
 rintro (hg|⟨p,hp,hb'⟩);·exact(h.mine _ (tI hm) b hb).1 hg
 ·rcases bv.1 hp with rfl|hp;·rw[tQ] at hb';exact hv hb'
  ·obtain⟨hp1,hp2⟩:=wE.1 hp;rw[tT (hfr p hp1)] at hb';exact h.disj p hp1 _ (tI hm) (by simpa using hp2) b hb' hb
theorem A5b {w:World} {m len:Nat} (hh:hd (σ nx)=hd (σ n)) (hc:∀i,cmp (σ nx) i=cmp (σ n) i) (hm:cmp (σ nx) len=hd (σ m)):∀{s:CV} {v:Value},CVr O w σ s v->CVr O w σ (yF n nx m len s) v
 | .h q,v,h => by
   simp only[yF];split;·rename_i e;subst e;simp only[CVr] at h ⊢;rw[hh];exact h
   ·split;·rename_i e;subst e;simp only[CVr] at h ⊢;rw[hm];exact h
    ·exact h
 | .elt q sz i o,v,h => by
   simp only[yF];split;·rename_i e;subst e;simp only[CVr] at h ⊢;rw[hh];exact h
   ·exact h
 | .elm q i,v,h => by
   simp only[yF];split;·rename_i e;subst e;simp only[CVr] at h ⊢;rw[hc];exact h
   ·exact h
 |.val _,_,h=>h
 |.imm _ _,_,h=>h
 |.cell _ _,_,h=>h
 |.ielt _ _,_,h=>h
 |.sub _ _ _ _,_,h=>h
 |.clo _ _,_,h=>h
 |.zc,_,h=>h
 |.slf _ _,_,h=>h
theorem A6w {w:World} {m b2:Nat} (h:uO w σ v ls (some m)) (hm:σ m=.map (some b2)) (hM:uN w b2 l) (hd2:¬Bk v b2) :
 ∃ A cap vs,v=.tuple (.slice A vs.length cap :: vs).toArray∧ls.length<vs.length∧(∀ σ',uO w σ' (.tuple (.slice A (vs.set ls.length (.map (some b2))).length cap :: vs.set ls.length (.map (some b2))).toArray) (ls++[l]) none)∧
   (∀b,Bk (.tuple (.slice A (vs.set ls.length (.map (some b2))).length cap::vs.set ls.length (.map (some b2))).toArray) b->Bk v b\/b=b2)/\(vs[ls.length]? =some (.agg #[.map (some b2)])):=by
 obtain⟨A,cap,vs,rfl,hnd,hl,hms,hlast,hrow⟩:=h;have hlt:ls.length<vs.length:=by simp at hl;omega
 obtain⟨hl1,hl2⟩:=hlast m rfl;rw[hm] at hl1;have hl1:vs[ls.length]? =some (.agg #[.map (some b2)]):=hl1;have hvb:∀v∈vs,blk v≠some b2:=λv hv e=>hd2 (uD (cg _ hv) e);refine⟨A,cap,vs,rfl,hlt,λσ'=>⟨A,cap,vs.set ls.length (.map (some b2)),rfl,?_,by simpa using hl,λi hi=>?_,λm' e=>(by cases e),?_⟩,λb hb=>?_,hl1⟩
 ·have hs:(Value.slice A (vs.set ls.length (.map (some b2))).length cap)=.slice A vs.length cap:=by rw[iw]
  rw[hs,<-List.set_cons_succ];refine A0o hnd λb hb=>?_;cases hb;refine .inr λv hv=>?_;rcases bv.1 hv with rfl|hv;·exact λe=>hd2 (uD de e)
  ·exact hvb v hv
 ·rw[cy] at hi;rcases gw i ls.length with h|h
  ·obtain⟨b,h1,h2⟩:=hms i h;exact⟨b,by rw[nq (by omega)];exact h1,by rw[ju h];exact h2⟩
  ·have:i=ls.length:=by simp at hi;omega
   subst this;exact⟨b2,by rw[lw hlt],by simpa using hM⟩
 ·rcases hrow with⟨h1,rfl⟩|⟨hp,hlc,b,off,c,e,rfl,hh,hsz,hcells⟩;·simp at hlt
  ·refine .inr ⟨hp,by simpa using hlc,b,off,c,e,rfl,hh,hsz,λi hi=>?_⟩;rw[iw] at hi;rw[hcells i hi];by_cases e:ls.length=i
   ·subst e;rw[hl1,lw hlt];rfl
   ·rw[nq e]
 ·obtain⟨u,hu,hb⟩:=hb;rcases bv.1 (lk.1 (mp.2 hu)) with rfl|hu
  ·rw[iw] at hb;exact .inl (uD de hb)
  ·rcases List.mem_or_eq_of_mem_set hu with hu|rfl;·exact .inl (uD (cg _ hu) hb)
   ·cases hb;exact .inr rfl
theorem A4g {w:World}:uO w σ (.tuple [.slice none 0 0].toArray) [] none:=
 ⟨none,0,[],rfl,List.nodup_nil,rfl,(λi hi=>by simp at hi),(λm e=>by cases e),.inl ⟨rfl,rfl⟩⟩
theorem A2h {w:World} {l:List CV} {x:CV} (h:CVs O w σ l vs) (hx:l[n]? =some x) (hu:vs[n]? =some u):CVr O w σ x u:=by obtain⟨u',h1,h2⟩:=wU h hx;rw[hu] at h1;cases h1;exact h2
theorem A66 {g:Gx} {s s':St} {w:World} (hg:ghx g s=some (s',ps)) (hps:tL ps) (hn:C.n0<=s.nx) (h:Sat C s.Γ s.H a w):Sat C s'.Γ s'.H a w:=by
 obtain⟨σ,hσ,hE,hp⟩:=h;cases g with
 | ar0 m =>
   simp only[ghx] at hg;split at hg
   ·rename_i xs hm;split at hg
    ·rename_i hf;cases hg;have hR:tV (Ow C.G s.H σ) w aK xs (σ m):=hσ.ent _ (tI hm);have hmn:m≠s.nx:=(uI hf _ (tI hm)).1;refine xch hσ hE hp [m] s.nx _ (.tuple [σ m].toArray) _ hf hn (λb hb=>⟨m,by simp,⟨_,tI hm⟩,?_⟩) (λha=>?_) (λt v ht=>xV ?_ ht)
     ·obtain⟨v,hv,hb⟩:=hb;have:v=σ m:=by simpa using hv
      subst this;exact(v6 hR).2 hb
     ·show ArR _ _ _ _ _ _;rw[tQ];exact A5l hR ha
     ·rw[tQ,tT hmn,v8 hR];rfl
    ·cases hg
   ·cases hg
 | ao m =>
   simp only[ghx] at hg;split at hg
   ·rename_i k xs hm;cases hg;have hle:xs.length<=k:=hps;have hA:ArR (Ow C.G s.H σ) w (σ m) k xs none:=hσ.ent _ (tI hm);have hk:k=xs.length:=by obtain⟨_,_,_,_,_,h2,_⟩:=hA;omega
    subst hk;have:=y6 (w':=w) hσ hE hm (e':=.aown xs) (λ_ _ _=>rfl) (bp _) rfl rfl rfl (λ_=>hA);exact⟨σ,this.1,this.2.env,hp⟩
   ·cases hg
 | un m =>
   simp only[ghx] at hg;split at hg
   ·rename_i xs hm;split at hg
    ·rename_i hf;cases hg;have hA:ArR (Ow C.G s.H σ) w (σ m) xs.length xs none:=hσ.ent _ (tI hm);have hmn:m≠s.nx:=(uI hf _ (tI hm)).1;have hA':=hA;obtain⟨A,cap,vs,hv,h1,h2,h3,h4,h5⟩:=hA';refine xch hσ hE hp [m] s.nx _ (hd (σ m)) _ hf hn (λb hb=>⟨m,by simp,⟨_,tI hm⟩,?_⟩) (λha=>?_) (λt v ht=>xV ?_ ht)
     ·rw[hv] at hb ⊢;exact uD de hb
     ·show tV _ _ _ _ _;rw[tQ];refine A6h hA ha λi u b hu hb=>A6c hσ hm (λp hp=>(uI hf p hp).1) ?_ ?_
      ·rw[hv] at hu ⊢;exact uD (cg _ (fm (by simpa[tl] using hu))) hb
      ·rw[hv] at hu ⊢;intro hb';rw[dc] at h3;have hb':blk (.slice A xs.length cap)=some b:=hb';rw[hb'] at h3;exact(dy.1 h3).1 (ez.2 ⟨u,fm (by simpa[tl] using hu),hb⟩)
     ·rw[tQ,tT hmn,hv];rfl
    ·cases hg
   ·cases hg
 | absorb n =>
   simp only[ghx] at hg;split at hg
   ·rename_i ls m hn0;split at hg
    ·rename_i l hm;split at hg
     ·rename_i hc;obtain⟨hne,hf⟩:=hc;cases hg;obtain⟨b2,hmv,hM⟩:∃b,σ m=.map (some b)/\uN w b l:=hσ.ent _ (tI hm);have hS:uO w σ (σ n) ls (some m):=hσ.ent _ (tI hn0);have hnn:n≠s.nx:=(uI hf _ (tI hn0)).1;have hmn:m≠s.nx:=(uI hf _ (tI hm)).1;obtain⟨A,cap,vs,hv,hlt,hS',hbk,hlast⟩:=A6w hS hmv hM (hσ.disj _ (tI hm) _ (tI hn0) (mh hne) b2 (by rw[hmv];rfl));refine xch hσ hE hp [n,m] s.nx _ (.tuple (.slice A (vs.set ls.length (.map (some b2))).length cap::vs.set ls.length (.map (some b2))).toArray) _ hf hn (λb hb=>?_) (λha=>?_) (λt v ht=>A5b ?_ (λi=>?_) ?_ ht)
      ·rcases hbk b hb with hb|rfl;·exact⟨n,by simp,⟨_,tI hn0⟩,hb⟩
       ·exact⟨m,by simp,⟨_,tI hm⟩,by rw[hmv];rfl⟩
      ·show uO _ _ _ _ _;rw[tQ];exact hS' _
      ·rw[tQ,tT hnn,hv];simp[hd]
      ·rw[tQ,tT hnn,hv];simp only[cmp,tl,kw];by_cases e:ls.length=i
       ·subst e;rw[bu,bu,hlast,lw hlt];rfl
       ·simp[bu,nq e]
      ·rw[tQ,tT hmn,hmv];simp[cmp,tl,bu,hlt,xB,hd]
     ·cases hg
    ·cases hg
   ·cases hg
 | nilSets m i =>
   simp only[ghx] at hg;split at hg
   ·rename_i cs hm;split at hg
    ·rename_i hi;split at hg
     ·rename_i hf;cases hg;have hst:=vL (w':=w) hσ hE [] s.nx (.sets [] none) (.tuple [.slice none 0 0].toArray) hf (λ_ _ _=>rfl) (bp _) rfl rfl rfl
       (fun b hb=>by obtain ⟨v,hv,hb⟩:=hb; have:v=.slice none 0 0:=by simpa using hv
                     subst this;cases hb)
       (λ_ _=>by show uO _ _ _ _ _;rw[tQ];exact A4g)
      have e0:tW s.H []=s.H:=by simp[tW]
      rw[e0] at hst;have hmn:m≠s.nx:=(uI hf _ (tI hm)).1;have hm':tJ ((s.nx,Ent.sets [] none)::s.H) m=some (.box cs):=by simp only[tJ];rw[if_neg (mh hmn)];exact hm
      have hil:i<cs.length:=(dt.1 hi).1;have h2:=A0d hst.1 hst.2.env hm' (z:=.h s.nx) (i:=i) (λb c e u _ _ hc hu=>by have hcv:CVr _ _ _ _ u:=A2h hc hi hu;cases hcv;simp only[CVr];rw[tQ];rfl) hil
      have e1:tO ((s.nx,Ent.sets [] none)::s.H) m=(s.nx,.sets [] none)::tO s.H m:=by simp only[tO];rw[oi (by simpa using mh hmn)]
      rw[e1] at h2;refine⟨_,h2.1.sub ?_ ?_,h2.2.sub ?_,λn hlt=>by rw[tT (by omega)];exact hp n hlt⟩
      ·intro p hp';rcases bv.1 hp' with h|h;·exact cg _ (h▸de)
       ·rcases bv.1 h with h|h;·exact h▸de
        ·exact cg _ (cg _ h)
      ·have:=h2.1.nd;simp only[dj,dy,bv,not_or] at this ⊢;exact⟨⟨mh hmn,this.2.1⟩,this.1.2,this.2.2⟩
      ·intro p hp';rcases bv.1 hp' with h|h;·exact cg _ (h▸de)
       ·rcases bv.1 h with h|h;·exact h▸de
        ·exact cg _ (cg _ h)
     ·cases hg
    ·cases hg
   ·cases hg
 | nilB m i e =>
   simp only[ghx] at hg;split at hg
   ·rename_i cs hm;split at hg
    ·rename_i hi;split at hg
     ·rename_i hf;cases hg;have hst:=vL (w':=w) hσ hE [] s.nx (.brow e []) (.slice none 0 0) hf (λ_ _ _=>rfl) (bp _) rfl rfl rfl
       (λb hb=>by cases hb)
       (λ_ _=>by show tV _ _ _ _ _/\w8 _ _ _;rw[tQ];exact⟨⟨none,0,rfl,.inl ⟨rfl,rfl⟩⟩,λA len cap hv=>by cases hv;exact .inl ⟨rfl,rfl⟩⟩)
      have e0:tW s.H []=s.H:=by simp[tW]
      rw[e0] at hst;have hmn:m≠s.nx:=(uI hf _ (tI hm)).1;have hm':tJ ((s.nx,Ent.brow e [])::s.H) m=some (.box cs):=by simp only[tJ];rw[if_neg (mh hmn)];exact hm
      have hil:i<cs.length:=(dt.1 hi).1;have h2:=A0d hst.1 hst.2.env hm' (z:=.h s.nx) (i:=i) (λb c e u _ _ hc hu=>by have hcv:CVr _ _ _ _ u:=A2h hc hi hu;cases hcv;simp only[CVr];rw[tQ];rfl) hil
      have e1:tO ((s.nx,Ent.brow e [])::s.H) m=(s.nx,.brow e [])::tO s.H m:=by simp only[tO];rw[oi (by simpa using mh hmn)]
      rw[e1] at h2;refine⟨_,h2.1.sub ?_ ?_,h2.2.sub ?_,λn hlt=>by rw[tT (by omega)];exact hp n hlt⟩
      ·intro p hp';rcases bv.1 hp' with h|h;·exact cg _ (h▸de)
       ·rcases bv.1 h with h|h;·exact h▸de
        ·exact cg _ (cg _ h)
      ·have:=h2.1.nd;simp only[dj,dy,bv,not_or] at this ⊢;exact⟨⟨mh hmn,this.2.1⟩,this.1.2,this.2.2⟩
      ·intro p hp';rcases bv.1 hp' with h|h;·exact cg _ (h▸de)
       ·rcases bv.1 h with h|h;·exact h▸de
        ·exact cg _ (cg _ h)
     ·cases hg
    ·cases hg
   ·cases hg
 | nilSetsSlot t =>
   simp only[ghx] at hg;split at hg
   ·rename_i ht;split at hg
    ·rename_i hf;cases hg;have hst:=vL (w':=w) hσ hE [] s.nx (.sets [] none) (.tuple [.slice none 0 0].toArray) hf (λ_ _ _=>rfl) (bp _) rfl rfl rfl
      (fun b hb=>by obtain ⟨v,hv,hb⟩:=hb; have:v=.slice none 0 0:=by simpa using hv
                    subst this;cases hb)
      (λ_ _=>by show uO _ _ _ _ _;rw[tQ];exact A4g)
     have e0:tW s.H []=s.H:=by simp[tW]
     rw[e0] at hst;obtain⟨h3,h4⟩:=hE.1 t _ ht;refine⟨_,hst.1,yC hst.2.env h3 ?_,λn hlt=>by rw[tT (by omega)];exact hp n hlt⟩;simp only[SVr,CVr] at h4 ⊢;rw[h4,tQ];rfl
    ·cases hg
   ·cases hg
 | lits n =>
   simp only[ghx] at hg;split at hg
   ·rename_i m hn0;split at hg
    ·rename_i l hm;split at hg
     ·rename_i hc;obtain⟨hne,hf⟩:=hc;cases hg;obtain⟨b,c,e,hs,hpos,hh,hcs⟩:∃b c e,σ n=.slice (some ⟨b,0,none⟩) [CV.h m].length [CV.h m].length/\0<[CV.h m].length/\w.heap[b]? =some (.cells c e (0,0))/\CVs (Ow C.G s.H σ) w σ [.h m] c.toList:=hσ.ent _ (tI hn0);have hnn:n≠s.nx:=(uI hf _ (tI hn0)).1;have hmn:m≠s.nx:=λe=>by
       have:=(uI hf _ (tI hn0)).2;simp[Ent.has,CV.has,e] at this
      have hc1:c.toList=[hd (σ m)]:=by
       have hl:=vH hcs;match hq:c.toList,hl,hcs with
       |[v],_,hcs=>simp only[CVs,CVr] at hcs;rw[hcs.1]
      have hone:(hd (σ m)).oneCell'=true:=A3X (hσ.ent _ (tI hm));refine xch hσ hE hp [n] s.nx _ (.tuple [.slice (some ⟨b,0,none⟩) 1 1,.agg #[hd (σ m)]].toArray) _ hf hn (λq hq=>⟨n,by simp,⟨_,tI hn0⟩,?_⟩) (λha=>?_) (λt v ht=>xV ?_ ht)
      ·obtain⟨v,hv,hq⟩:=hq;have hv:v=.slice (some ⟨b,0,none⟩) 1 1\/v=.agg #[hd (σ m)]:=by simpa using hv
       rw[hs];rcases hv with rfl|rfl;·exact hq
       ·cases hq
      ·show uO _ _ _ _ _;rw[tQ];refine⟨some ⟨b,0,none⟩,1,[.agg #[hd (σ m)]],rfl,by simp[dc,blk],rfl,λi hi=>by simp at hi,λm' e'=>?_,.inr ⟨⟨by decide,by decide⟩,bp _,b,0,c,e,rfl,hh,?_,λi hi=>?_⟩⟩
       ·cases e';rw[tT hmn];exact⟨rfl,hone⟩
       ·have:c.size=1:=by rw[<-ep,hc1];rfl
        omega
       ·have:i=0:=by simpa using hi
        subst this;rw[<-ig,hc1];rfl
      ·rw[tQ,tT hnn,hs];rfl
     ·cases hg
    ·cases hg
   ·cases hg
 | nilAown t =>
   simp only[ghx] at hg;split at hg
   ·rename_i ht;split at hg
    ·rename_i hf;cases hg;have hst:=vL (w':=w) hσ hE [] s.nx (.aown []) (.tuple [.slice none 0 0].toArray) hf (λ_ _ _=>rfl) (bp _) rfl rfl rfl
      (fun b hb=>by obtain ⟨v,hv,hb⟩:=hb; have:v=.slice none 0 0:=by simpa using hv
                    subst this;cases hb)
      (λ_ _=>by show ArR _ _ _ _ _ _;rw[tQ];exact⟨none,0,[],rfl,rfl,bp _,by simp[dc,blk],λi hi=>(by cases hi),.inl ⟨rfl,rfl⟩⟩)
     have e0:tW s.H []=s.H:=by simp[tW]
     rw[e0] at hst;obtain⟨h3,h4⟩:=hE.1 t _ ht;refine⟨_,hst.1,yC hst.2.env h3 ?_,λn hlt=>by rw[tT (by omega)];exact hp n hlt⟩;simp only[SVr,CVr] at h4 ⊢;rw[h4,tQ];rfl
    ·cases hg
   ·cases hg
 | toA m p k =>
   simp only[ghx] at hg;split at hg
   ·rename_i cs hm;split at hg
    ·rename_i bs hbs;split at hg
     ·rename_i hk;cases hg;obtain⟨b,c,e,h1,h2,h3⟩:=hσ.ent _ (tI hm);have hst:=y6 (w':=w) hσ hE hm (e':=.abox (cs.take p) k bs (cs.drop (p+k))) (λ_ _ _=>rfl) (bp _) rfl rfl rfl (λ_=>by
       refine⟨hk,b,c,e,h1,h2,?_⟩;rw[uE,<-A3K hbs,<-lq,dm,dm];exact h3)
      exact⟨σ,hst.1,hst.2.env,hp⟩
     ·cases hg
    ·cases hg
   ·cases hg
theorem A65 {g:Gx} {s:St} {r:St×List Prop} (h:ghx g s=some r):s.nx<=r.1.nx:=by
 unfold ghx at h;repeat' split at h
 all_goals first|(cases h;done)|(cases h;exact bp _)|(cases h;exact vm _)
section
variable {P:Program} {R:Type} {N n0:Nat} {Q:Qf R} {m:MS}
def gxM (g:Gx) (m:MS):MS:=
 match ghx g m.s with
 |some r=>⟨m.cs,m.fs,r.1⟩
 |none=>m
theorem jgx (g:Gx) (ps:List Prop) (hp:tL ps) {x:Option R} (h:(ghx g m.s).map gl=some ps:=by kernel_rfl) (hr:J P N n0 Q (gxM g m) x):J P N n0 Q m x:=by
 constructor;intro hn C hN hn0 r hx;obtain⟨⟨s',ps'⟩,hg,e⟩:=bf.1 h;simp only at e;subst e hn0;have hnx:=A65 hg;have hM:gxM g m=⟨m.cs,m.fs,s'⟩:=by simp only[gxM,hg]
 rw[hM] at hr;have:=hr.run (fo hn hnx) C hN rfl r hx;exact λa w hs=>this a w (A66 hg hp hn hs)
theorem jg0 (g:Gx) {x:Option R} (h:(ghx g m.s).map gl=some []:=by kernel_rfl) (hr:J P N n0 Q (gxM g m) x):J P N n0 Q m x:=jgx g [] trivial h hr
theorem jgi (g:Gx) [Decidable p] {x:Option R} (h:(ghx g m.s).map (λr=>tL r.2)=some p:=by kernel_rfl) (hr:p->J P N n0 Q (gxM g m) x):J P N n0 Q m (if p then x else none):=by constructor;intro hn C hN hn0 r hx;obtain⟨hp,hx'⟩:=vV hx;obtain⟨⟨s',ps'⟩,hg,e⟩:=bf.1 h;exact(jgx g ps' (by rw[show tL ps'=p from e];exact hp) (by rw[hg];rfl) (hr hp)).run hn C hN hn0 r hx'
def nl1 (P:Program) (N:Nat) (Γ:Env) (o:Oper):Option (Nat×Sigma λk:Kd=>List k.ty):=
 match o.op,o.guard,o.dst with
 |.binOp .eql ts x (.const (.slice none 0 0)) _,none,some t=>match P.underlying ts,evc Γ x with
  |some (.slice _),some (.imm (.slice k) xs)=>if t<N then some (t,⟨k,xs⟩) else none
  |_,_=>none
 |_,_,_=>none
def mv1 (N:Nat) (Γ:Env) (o:Oper):Option (Nat×CV):=
 match o.op,o.guard,o.dst with
 |.move x,none,some t=>match evc Γ x with
  |some v=>if t<N then some (t,v) else none
  |none=>none
 |_,_,_=>none
def nlq (P:Program) (N:Nat) (m:MS):Option (Nat×Env×Sigma λk:Kd=>List k.ty):=
 match m.cs with
 |.region _ ops false::_=>match ops.toList with
  |[o]=>(nl1 P N m.s.Γ o).map λr=>(r.1,m.s.Γ,r.2)
  |[o1,o]=>match mv1 N m.s.Γ o1 with
   |some (t1,v)=>(nl1 P N ((t1,.c v)::m.s.Γ) o).map λr=>(r.1,(t1,.c v)::m.s.Γ,r.2)
   |none=>none
  |_=>none
 |_=>none
def nlM (P:Program) (N:Nat) (b:Bool) (m:MS):MS:=
 match nlq P N m with
 |some r=>⟨m.cs.tail,m.fs,⟨(r.1,.c (.val (.bool b)))::r.2.1,m.s.H,m.s.nx⟩⟩
 |none=>m
theorem A4G {r:Nat×Sigma λk:Kd=>List k.ty} (h:nl1 P N Γ o=some r):∃ts x ty e,o.op=.binOp .eql ts x (.const (.slice none 0 0)) ty/\o.guard=none/\o.dst=some r.1/\P.underlying ts=some (.slice e)/\evc Γ x=some (.imm (.slice r.2.1) r.2.2)/\r.1<N:=by
 unfold nl1 at h;split at h
 ·rename_i ts x ty t h1 h2 h3;split at h
  ·rename_i e k xs hu hx;split at h
   ·rename_i hlt;cases h;exact⟨ts,x,ty,e,h1,h2,h3,hu,hx,hlt⟩
   ·cases h
  ·cases h
 ·cases h
theorem A6V {r:Nat×CV} (h:mv1 N Γ o=some r):∃x,o.op=.move x/\o.guard=none/\o.dst=some r.1/\evc Γ x=some r.2/\r.1<N:=by
 unfold mv1 at h;split at h
 ·rename_i x t h1 h2 h3;split at h
  ·rename_i v hx;split at h
   ·rename_i hlt;cases h;exact⟨x,h1,h2,h3,hx,hlt⟩
   ·cases h
  ·cases h
 ·cases h
theorem A43 {k:Kd} (xs:List k.ty) {x:Option R} (h:(nlq P N m).map (λr=>r.2.2)=some ⟨k,xs⟩:=by kernel_rfl) (h1:xs=[]->J P N n0 Q (nlM P N true m) x) (h2:J P N n0 Q (nlM P N false m) x):J P N n0 Q m x:=by
 constructor;intro hn C hN hn0 r hx;subst hN hn0;obtain⟨⟨t,Γ',k',xs'⟩,hq,e⟩:=bf.1 h;simp only[Sigma.mk.injEq] at e;obtain⟨rfl,e⟩:=e;cases eq_of_heq e;have e1:nlM P C.N true m=⟨m.cs.tail,m.fs,⟨(t,.c (.val (.bool true)))::Γ',m.s.H,m.s.nx⟩⟩:=by simp only[nlM,hq]
 have e2:nlM P C.N false m=⟨m.cs.tail,m.fs,⟨(t,.c (.val (.bool false)))::Γ',m.s.H,m.s.nx⟩⟩:=by simp only[nlM,hq]
 have k1:=λe=>(e1▸h1 e).run hn C rfl rfl r hx;have k2:=(e2▸h2).run hn C rfl rfl r hx;unfold nlq at hq;split at hq
 ·rename_i id ops cs hm;rw[hm] at k1 k2 ⊢;split at hq
  ·rename_i o ho;obtain⟨⟨t0,k0,xs0⟩,hr1,e⟩:=bf.1 hq;obtain⟨ts,y,ty,e5,g1,g2,g3,g4,g5,g6⟩:=A4G hr1;cases e;have:ops = #[o]:=by apply ip;simpa using ho
   subst this;exact A5R _ g1 g2 g3 g4 g6 g5 k1 k2
  ·rename_i o1 o ho;split at hq
   ·rename_i t1 v hv;obtain⟨⟨t0,k0,xs0⟩,hr1,e⟩:=bf.1 hq;obtain⟨ts,y,ty,e5,g1,g2,g3,g4,g5,g6⟩:=A4G hr1;obtain⟨z,f1,f2,f3,f4,f5⟩:=A6V hv;cases e;have:ops = #[o1,o]:=by apply ip;simpa using ho
    subst this;exact xK (A5Y t1 f1 f2 f3 f5 f4 (A35 _ g1 g2 g3 g4 g6 g5 (λh=>wI (k1 h)) (wI k2)))
   ·cases hq
  ·cases hq
 ·cases hq
end
def uZ (xs:List (ByteArray×Int×Int×Int×List (Int×Int))) (i:Nat) (zs:List (Int×Int)):List (ByteArray×Int×Int×Int×List (Int×Int)):=
 xs.set i ((xs.getD i (cc,0,0,0,[])).1,(xs.getD i (cc,0,0,0,[])).2.1,(xs.getD i (cc,0,0,0,[])).2.2.1,(xs.getD i (cc,0,0,0,[])).2.2.2.1,zs)
section
open Go Go.ChangeMaps
theorem A3u {β:Type} {f:α->β} {l:List α} (hn:(l.map f).Nodup) {p q:α} (hp:p∈l) (hq:q∈l) (e:f p=f q):p=q:=by
 have hi:=List.pairwise_map.1 hn;obtain⟨i,hi1,rfl⟩:=fe hp;obtain⟨j,hj1,rfl⟩:=fe hq;rcases Nat.lt_trichotomy i j with h|h|h;·exact absurd e (fw.1 hi i j hi1 hj1 h)
 ·subst h;rfl
 ·exact absurd e.symm (fw.1 hi j i hj1 hi1 h)
theorem A6U {w:World} {cur:Option Int} (h:yD w v left cur) (ty:TypeId) :
 ∃r b,hd v=.pointer (some ⟨r,0,none⟩)/\v=.tuple [.pointer (some ⟨r,0,none⟩),.map (some b)].toArray/\
 ((left=[]/\(pw (.pointer (some ⟨r,0,none⟩)) false ty).run P w=.ok (.tuple #[.bool false]) w)\/
  ∃g∈left,∃(w1:World) (o:Obj),(w1=w\/w1=w.drew)/\(pw (.pointer (some ⟨r,0,none⟩)) false ty).run P w=.ok (.tuple #[.bool true,.int .i64 g,.agg #[]]) (setBlock w1 r o)/\yD (setBlock w1 r o) v (left.erase g) (some g)):=by
 obtain⟨b,r,es,clock,seen,hv,hne,h1,h2,h3,h4,h5,h6,h7⟩:=h;refine⟨r,b,by rw[hv];rfl,hv,?_⟩;have hrl:r<w.heap.size:=(dg.1 h2).1;rcases run_next_at (P:=P) w ty r b clock clock seen es clock h2 h1 h3.1 (bp _) with⟨k1,k2⟩|⟨e,he,w1,hw,k⟩
 ·refine .inl ⟨?_,k2⟩;apply List.eq_nil_iff_forall_not_mem.2;intro n hn;obtain⟨x,hx,_,hs⟩:=(h6 n).1 hn;have:x∈(leftOf es seen).toList:=by unfold leftOf;simp at hx hs ⊢;exact⟨hx,hs⟩
  have:0<(leftOf es seen).toList.length:=List.length_pos_of_mem this;simp at this;omega
 ·have he':e∈es.toList/\seen.contains e.born=false:=by unfold leftOf at he;simp at he ⊢;exact he
  obtain⟨g,hk,hva⟩:=h4 e he'.1;refine .inr ⟨g,(h6 g).2 ⟨e,he'.1,hk,he'.2⟩,w1,_,hw,by rw[k,hk,hva],?_⟩;have hb1:w1.heap=w.heap:=by rcases hw with rfl|rfl<;>rfl
  refine⟨b,r,es,clock,seen.push e.born,hv,hne,?_,?_,h3,h4,h5.erase g,λn=>?_,λg' hg=>?_⟩
  ·show (w1.heap.setIfInBounds r _)[b]? =_;rw[hb1,kg (λe=>hne e)];exact h1
  ·show (w1.heap.setIfInBounds r _)[r]? =_;rw[hb1,Array.getElem?_setIfInBounds];simp[hrl]
  ·rw[h5.mem_erase_iff,h6 n];constructor
   ·rintro⟨hng,x,hx,hxk,hxs⟩;refine⟨x,hx,hxk,?_⟩;have hxs':¬x.born∈seen:=by simpa using hxs
    have:x.born≠e.born:=λhbe=>hng (by have:=A3u h3.2.1 hx he'.1 hbe;rw[this,hk] at hxk;injection hxk with _ h;exact h.symm)
    simp[hxs',this]
   ·rintro⟨x,hx,hxk,hxs⟩;have hxs':¬x.born∈seen/\¬x.born=e.born:=by simpa[not_or] using hxs
    refine⟨λe1=>hxs'.2 ?_,x,hx,hxk,by simpa using hxs'.1⟩;subst e1;have:=A3u h3.2.2 hx he'.1 (hxk.trans hk.symm);rw[this]
  ·cases hg;exact⟨seen,e,rfl,he'.1,hk⟩
theorem A5Z {Q:Exit->Act->World->Prop} {H:tG} (t:Nat) {m:Nat} {cur:Option Int} {x:Operand} (ho:o.op=.next x false) (hg:o.guard=none) (hd':o.dst=some t) (ht:t<C.N)
 (hx:evc Γ x=some (.h m)) (hm:tJ H m=some (.mit left cur))
 (h1:∀g∈left,VO P C all rest Q ((t,.tup [(false,[.val (.bool true)]),(false,[.val (.int .i64 g)]),(true,[])])::Γ) ((m,.mit (left.erase g) (some g))::tO H m))
 (h0:left=[]->VO P C all rest Q ((t,.tup [(false,[.val (.bool false)])])::Γ) H):VO P C all (o::rest) Q Γ H:=by
 rintro a w ⟨σ,hσ,hE,hp⟩;have hM:yD w (σ m) left cur:=hσ.ent _ (tI hm);obtain⟨r,b,hhd,hv,hc⟩:=A6U (P:=P) hM o.type;have hxr:a.eval x=.pointer (some ⟨r,0,none⟩):=(show a.eval x=hd (σ m) from tX hE hx).trans hhd;have hw:gp o (yielded all a.tmps)=true:=by simp[gp,hg]
 unfold wpList;rw[if_pos hw];refine .inl ?_;unfold mb;rcases hc with⟨hl,hrun⟩|⟨g,hgl,w1,ob,hw1,hrun,hM'⟩
 ·have:(execOp a.eval o).run P w=.ok (.value (.tuple #[.bool false])) w:=by simp[execOp,ho,hxr,hrun]
  rw[this];have hsat:Sat C ((t,.tup [(false,[.val (.bool false)])])::Γ) H (a.put o.dst (.tuple #[.bool false])) w:=by rw[hd'];exact⟨σ,hσ,hE.put ht ⟨[.bool false],rfl,rfl,trivial⟩,hp⟩
  exact h0 hl _ _ hsat
 ·have:(execOp a.eval o).run P w=.ok (.value (.tuple #[.bool true,.int .i64 g,.agg #[]])) (setBlock w1 r ob):=by simp[execOp,ho,hxr,hrun]
  rw[this];have hb1:w1.heap=w.heap:=by rcases hw1 with rfl|rfl<;>rfl
  have hos:(setBlock w1 r ob).os=w.os/\(setBlock w1 r ob).tape=w.tape/\(setBlock w1 r ob).output=w.output:=by rcases hw1 with rfl|rfl<;>exact⟨rfl,rfl,rfl⟩
  have hst:=y6 (w':=setBlock w1 r ob) hσ hE hm (e':=.mit (left.erase g) (some g)) (λq _ hq=>by
   show (w1.heap.setIfInBounds r _)[q]? =_;rw[hb1,kg (λe=>hq (by rw[hv,<-e];exact uD de rfl))]) (by
   show w.heap.size<=(w1.heap.setIfInBounds r _).size;rw[hb1,qk];exact bp _) hos.1 hos.2.1 hos.2.2 (λ_=>hM')
  have hsat:Sat C ((t,.tup [(false,[.val (.bool true)]),(false,[.val (.int .i64 g)]),(true,[])])::Γ) ((m,.mit (left.erase g) (some g))::tO H m) (a.put o.dst (.tuple #[.bool true,.int .i64 g,.agg #[]])) (setBlock w1 r ob):=by rw[hd'];exact⟨σ,hst.1,hst.2.env.put ht ⟨[.bool true,.int .i64 g,.agg #[]],rfl,rfl,rfl,⟨[],rfl,trivial⟩,trivial⟩,hp⟩
  exact h1 g hgl _ _ hsat
def nxR (P:Program) (N:Nat) (g:Option Int) (m:MS):Option (List Int×MS):=
 match m.cs with
 |.region _ ops false::cs=>match ops.toList with
  | o :: os => match o.op,o.guard,o.dst with
      |.next x false,none,some t=>match evc m.s.Γ x with
       |some (.h n)=>match tJ m.s.H n with
        |some (.mit left cur)=>if t<N then
         match xY P N ops ops.size os (match g with
          |some g=>⟨(t,.tup [(false,[.val (.bool true)]),(false,[.val (.int .i64 g)]),(true,[])])::m.s.Γ,(n,.mit (left.erase g) (some g))::tO m.s.H n,m.s.nx⟩
          |none=>⟨(t,.tup [(false,[.val (.bool false)])])::m.s.Γ,m.s.H,m.s.nx⟩) with
         |some (s,[])=>some (left,⟨cs,m.fs,s⟩)
         |_=>none else none
        |_=>none
       |_=>none
      |_,_,_=>none
  |[]=>none
 |_=>none
def nxM (P:Program) (N:Nat) (g:Option Int) (m:MS):MS:=
 match nxR P N g m with
 |some r=>r.2
 |none=>m
variable {R:Type} {N n0:Nat} {Q:Qf R} {m:MS}
theorem A42 (left:List Int) {x:Option R} (e1:∀g,(nxR P N (some g) m).map di=some left) (e0:(nxR P N none m).map di=some left:=by kernel_rfl)
 (h1:∀g∈left,J P N n0 Q (nxM P N (some g) m) x) (h0:left=[]->J P N n0 Q (nxM P N none m) x):J P N n0 Q m x:=by
 constructor;intro hn C hN hn0 r hx;subst hN hn0;obtain⟨⟨l0,m0⟩,q0,e⟩:=bf.1 e0;simp only at e;subst e;have k0:=λe=>(h0 e).run;have k1:∀g∈l0,∃m',nxR P C.N (some g) m=some (l0,m')/\(C.n0<=m'.s.nx->VL P C m'.cs (QX P (Q C r) m'.fs) m'.s.Γ m'.s.H):=by intro g hg;obtain⟨⟨l1,m1⟩,q1,e⟩:=bf.1 (e1 g);simp only at e;subst e;refine⟨m1,q1,λhh=>?_⟩;have:=(h1 g hg).run;simp only[nxM,q1] at this;exact this hh C rfl rfl r hx
 simp only[nxM,q0] at k0;unfold nxR at q0 k1;split at q0
 ·rename_i id ops cs hm;split at q0
  ·rename_i o os hos;split at q0
   ·rename_i x' t ho hg hd;split at q0
    ·rename_i n hx';split at q0
     ·rename_i left cur hl;split at q0
      ·rename_i ht;split at q0
       ·rename_i s hr;cases q0;rw[hm];refine xK ?_;rw[hos];have hdrop:os.drop ops.size=[]:=by
         have:ops.size=os.length+1:=by rw[<-ep,hos];rfl
         simp[this]
        refine A5Z t ho hg hd ht hx' hl (λg hgl=>?_) (λe=>?_)
        ·obtain⟨m1,q1,hv⟩:=k1 g hgl;simp only[hm,hos,ho,hg,hd,hx',hl,ht,if_true] at q1;split at q1
         ·rename_i s1 hr1;cases q1;have hs:=xZ (Q:=Exit.then (wpL P cs (QX P (Q C r) m.fs)) (QX P (Q C r) m.fs)) hr1 hn trivial;refine hs.1 ?_;rw[hdrop];exact wI (hv (fo hn hs.2))
         ·cases q1
        ·have hs:=xZ (Q:=Exit.then (wpL P cs (QX P (Q C r) m.fs)) (QX P (Q C r) m.fs)) hr hn trivial;refine hs.1 ?_;rw[hdrop];exact wI (k0 e (fo hn hs.2) C rfl rfl r hx)
       ·cases q0
      ·cases q0
     ·cases q0
    ·cases q0
   ·cases q0
  ·cases q0
 ·cases q0
def A2J (t n i:Nat) (ls:List (List Int)) (s:St):St:=⟨(t,.c (.h s.nx))::s.Γ,(s.nx,.map (ls.getD i []))::tW s.H [n],s.nx+1⟩
theorem A70 {s:St} {w:World} {t:Nat} (ht:tJ s.Γ t=some (.c (.elm n i))) (hm:tJ s.H n=some (.sets ls none)) (hf:tY s.nx s.Γ s.H=true) (hi:i<ls.length) (hn:C.n0<=s.nx) (h:Sat C s.Γ s.H a w) :
 Sat C (A2J t n i ls s).Γ (A2J t n i ls s).H a w:=by
 obtain⟨σ,hσ,hE,hp⟩:=h;have hS:uO w σ (σ n) ls none:=hσ.ent _ (tI hm);obtain⟨A,cap,vs,hv,h1,h2,h3,h4,h5⟩:=hS;obtain⟨b,hb,hM⟩:=h3 i hi;have hc:cmp (σ n) i=.map (some b):=by rw[hv];simp only[cmp,tl,kw,bu,hb,Option.getD_some];rfl
 obtain⟨h6,h7⟩:=hE.1 t _ ht;have h7:a.tmps.getD t undef=cmp (σ n) i:=h7;have hst:=vL (w':=w) hσ hE [n] s.nx (.map (ls.getD i [])) (.map (some b)) hf (λ_ _ _=>rfl) (bp _) rfl rfl rfl
  (λq hq=>.inl ⟨n,by simp,⟨_,tI hm⟩,by cases hq;rw[hv];exact uD (cg _ (fm hb)) rfl⟩)
  (λ_ _=>⟨b,tQ _ _ _,by simpa[bu,hi] using hM⟩)
 refine⟨_,hst.1,yC hst.2.env h6 ?_,λk hk=>by rw[tT (by omega)];exact hp k hk⟩;show _=hd (upd σ s.nx _ s.nx);rw[tQ,h7,hc];rfl
theorem A44 (t n i:Nat) (ls:List (List Int)) (hi:i<ls.length) {x:Option R} (h:(tJ m.s.Γ t,tJ m.s.H n,tY m.s.nx m.s.Γ m.s.H)=(some (.c (.elm n i)),some (.sets ls none),true):=by kernel_rfl)
 (hr:J P N n0 Q ⟨m.cs,m.fs,A2J t n i ls m.s⟩ x):J P N n0 Q m x:=by
 constructor;intro hn C hN hn0 r hx;subst hn0;simp only[le] at h;have:=hr.run (fo hn (vm _)) C hN rfl r hx;exact λa w hs=>this a w (A70 h.1 h.2.1 h.2.2 hi hn hs)
def fgR (f:Int) (left s g o:List Int):Int×List (List Int)×Int×List Int×List Int:=
 (0,[s.filter λx=>!left.contains x],f,g.filter λx=>!left.contains x,left.foldl (λl x=>tZ x l) o)
def inW (l:List Int):Bool:=l.all λx=>decide (-9223372036854775808<=x/\x<=9223372036854775807)
theorem A69 (a b:Int) (l:List Int):tZ a (tZ b l)=tZ b (tZ a l):=by
 have key:∀{a b:Int},a<b->tZ a (tZ b l)=tZ b (tZ a l):=by
  intro a b h;simp only[tZ,List.filter_append,fx,py];have e1:decide (b<a)=false:=by simp;omega
  have e2:decide (a<b)=true:=by simpa using h
  simp only[e1,e2,if_true,Bool.false_eq_true,if_false,gd,List.cons_append];have f1:∀x:Int,(decide (x<a)&&decide (x<b))=decide (x<a):=λx=>by by_cases hx:x<a<;>simp[hx];omega
  have f2:∀x:Int,(decide (x<a)&&decide (b<x))=false:=λx=>by by_cases hx:x<a<;>simp[hx];omega
  have f3:∀x:Int,(decide (a<x)&&decide (b<x))=decide (b<x):=λx=>by by_cases hx:b<x<;>simp[hx];omega
  have f4:∀x:Int,(decide (x<b)&&decide (x<a))=decide (x<a):=λx=>by rw[qm];exact f1 x
  have f5:∀x:Int,(decide (b<x)&&decide (x<a))=false:=λx=>by rw[qm];exact f2 x
  have f6:∀x:Int,(decide (b<x)&&decide (a<x))=decide (b<x):=λx=>by rw[qm];exact f3 x
  have f7:∀x:Int,(decide (a<x)&&decide (x<b))=(decide (x<b)&&decide (a<x)):=λx=>qm _ _;have f8:l.filter (λ_=>false)=[]:=List.filter_eq_nil_iff.2 (by simp);simp[f1,f2,f3,f4,f5,f6,f7,f8]
 rcases Int.lt_trichotomy a b with h|h|h;·exact key h
 ·rw[h]
 ·exact(key h).symm
theorem A3l {a:Int}:∀{l o:List Int},a∈l->(l.erase a).foldl (λl x=>tZ x l) (tZ a o)=l.foldl (λl x=>tZ x l) o
 | b :: l,o,h => by
   by_cases e:b=a;·subst e;simp
   ·rw[List.erase_cons_tail (by simpa using e)];simp only[List.foldl_cons];rw[A69 b a];exact A3l (by simpa[mh e] using h)
theorem A3e {f a:Int} {s g o:List Int} (h:a∈left):fgR f (left.erase a) (uQ a s) (uQ a g) (tZ a o)=fgR f left s g o:=by
 have key:∀l:List Int,(uQ a l).filter (λx=>!(left.erase a).contains x)=l.filter λx=>!left.contains x:=λl=>by
  simp only[uQ,py];refine List.filter_congr λx _=>?_;by_cases e:x=a;·subst e;simp[h]
  ·simp[e,List.mem_erase_of_ne e]
 simp only[fgR,key,A3l h]
end
def uY (Γ:Env) (d:Nat):Env:=Γ.filter λp=>p.1 !=d
theorem A1r {d t:Nat} {sv:SV}:∀{Γ:Env},tJ (uY Γ d) t=some sv->t≠d/\tJ Γ t=some sv
 |[],h=>by cases h
 | (s,u) :: Γ,h => by
   unfold uY at h;rw[fx] at h;by_cases e:s=d
   ·subst e;rw[if_neg (by simp)] at h;obtain⟨h1,h2⟩:=A1r (Γ:=Γ) h;exact⟨h1,by rw[tJ,if_neg (λe=>h1 e.symm)];exact h2⟩
   ·rw[if_pos (by simpa using e)] at h;rw[tJ] at h ⊢;split at h;·rename_i e2;subst e2;rw[if_pos rfl];exact⟨e,h⟩
    ·rename_i e2;rw[if_neg e2];exact A1r (Γ:=Γ) h
theorem tM.dropped {H:tG} {w:World} {d:Nat} (hE:tM C σ H w Γ a):tM C σ H w (uY Γ d) (a.put (some d) u):=by
 refine⟨λt sv hl=>?_,by simpa[nr] using hE.2.1,hE.2.2⟩;obtain⟨hne,hl⟩:=A1r hl;obtain⟨h1,h2⟩:=hE.1 t sv hl;refine⟨h1,?_⟩;have:(a.put (some d) u).tmps.getD t undef=a.tmps.getD t undef:=by simp[nr,Array.getD_eq_getD_getElem?,kg (mh hne)]
 rw[this];exact h2
theorem A5X {o1 o2 o3:Oper} {Q:Exit->Act->World->Prop} {H:tG} {d1 d2:Nat} {x:Operand} {pre post:List CV} {bs:List Bool}
 (ho1:o1.op=.load t x) (hg1:o1.guard=none) (hd1:o1.dst=some d1) (ht1:d1<C.N) (ho2:o2.op=.alloc t) (hg2:o2.guard=none) (hd2:o2.dst=some d2) (ht2:d2<C.N) (hne:d1≠d2)
 (ho3:o3.op=.store t (.tmp d2) (.tmp d1)) (hg3:o3.guard=none) (hd3:o3.dst=none) (hx:evc Γ x=some (.h n)) (hm:tJ H n=some (.abox pre k bs post)) (hag:vE P t=some true)
 (hsz:u7 P t=some (pre.length+(k+post.length))) (hz:uL P t=some z) (hzs:z.cells.size=pre.length+(k+post.length)) (hf:tY nx Γ H=true) (hn:C.n0<=nx) (hone:(pre.all (CV.oneIn H)&&post.all (CV.oneIn H))=true)
 (hr:VO P C all rest Q ((d2,.c (.h nx))::uY Γ d1) ((nx,.abox pre k bs post)::H)):VO P C all (o1::o2::o3::rest) Q Γ H:=by
 rintro a w ⟨σ,hσ,hE,hp⟩;obtain⟨hk,b,c,e,hs,hh,hcv⟩:=hσ.ent _ (tI hm);have hxv:a.eval x=.pointer (some ⟨b,0,none⟩):=(show a.eval x=hd (σ n) from tX hE hx).trans hs.hd;have hl:(uE pre bs post).length=pre.length+(k+post.length):=by simp[uE,hk]
 have hlc:c.size=pre.length+(k+post.length):=by have:=vH hcv;simp at this;omega
 have hones:∀v∈c.toList,v.oneCell'=true:=by refine A1D hσ ?_ hcv;simp only[bq] at hone;rw[uE,vx,vx,hone.1,hone.2];simp[CV.oneIn,Value.oneCell']
 have hasz:a.tmps.size=C.N:=hE.2.1;have hw0:∀{o:Oper} {a:Act},o.guard=none->gp o (yielded all a.tmps)=true:=λhg=>by simp[gp,hg]
 unfold wpList;rw[if_pos (hw0 hg1)];refine .inl ?_;unfold mb;have hload:=run_loadCells_list (P:=P) w ⟨b,0,none⟩ c.toList (λj u hu=>by rw[im,cell_of_row w b (0+j) c e (0,0) hh];simpa using hu)
 have h1:(execOp a.eval o1).run P w=.ok (.value (.agg c)) w:=by rw[ep,hlc] at hload;simp[execOp,ho1,re,hxv,kv,loadVar,vY hag,uK hsz,hload]
 rw[h1];show wpList P all Q (o2::o3::rest) (a.put o1.dst (.agg c)) w;rw[hd1];unfold wpList;rw[if_pos (hw0 hg2)];refine .inl ?_;unfold mb;have h2:(execOp (a.put (some d1) (.agg c)).eval o2).run P w=.ok (.value (.pointer (some ⟨w.heap.size,0,none⟩))) (w.alloc (.cells z.cells t)):=by simp[execOp,ho2,Instr.alloc,wK hz,newVar,newRow]
 rw[h2];show wpList P all Q (o3::rest) ((a.put (some d1) (.agg c)).put o2.dst (.pointer (some ⟨w.heap.size,0,none⟩))) (w.alloc (.cells z.cells t));rw[hd2];generalize ha2:(a.put (some d1) (.agg c)).put (some d2) (.pointer (some ⟨w.heap.size,0,none⟩))=a2;have e2:a2.eval (.tmp d2)=.pointer (some ⟨w.heap.size,0,none⟩):=by subst ha2;simp[ui,nr,hasz,ht2]
 have e1:a2.eval (.tmp d1)=.agg c:=by subst ha2;simp[ui,nr,hasz,ht1,Array.getElem_setIfInBounds_ne,mh hne]
 unfold wpList;rw[if_pos (hw0 hg3)];refine .inl ?_;unfold mb;have hst:=run_storeCells_at P w.heap.size 0 t c.toList 0 z.cells (w.alloc (.cells z.cells t)) (heap_alloc_new w _) (by simp;omega) hones;have hcs:(z.cells.toList.take (0+0)++c.toList++z.cells.toList.drop (0+0+c.toList.length)).toArray=c:=by rw[nh (by simp;omega)];simp
 rw[hcs] at hst;have h3:(execOp a2.eval o3).run P (w.alloc (.cells z.cells t))=.ok .skip ((w.alloc (.cells z.cells t)).setRow w.heap.size c):=by have hcl:(Value.agg c).cells=c:=rfl;simp[execOp,ho3,Instr.storeAt,e2,e1,kv,storeVar,hcl,uK hsz,hst,hlc]
 rw[h3];show wpList P all Q rest (a2.put o3.dst undef) _;rw[hd3];have hal:=xA (w':=(w.alloc (.cells z.cells t)).setRow w.heap.size c) hσ hE hf (.abox pre k bs post) (.pointer (some ⟨w.heap.size,0,none⟩))
  (λb hb=>by rw[setRow_other _ _ _ _ (by omega)];exact uH w _ b hb) (by simp[mg]) rfl rfl rfl (λb hb=>by simp[Bk,blk] at hb;omega)
  (λhso ha=>⟨hk,w.heap.size,c,t,.inl (tQ _ _ _),setRow_heap _ _ _ _ _ _ (heap_alloc_new w _),by refine wW (λm hq=>tT λe=>?_) (wH hso ha hcv);subst e;have hno:(pre.any (CV.has m)||post.any (CV.has m))=false:=(uI hf _ (tI hm)).2;rw[A3B,hno] at hq;cases hq⟩)
 refine hr a2 _ ⟨_,hal.1,?_,λm hm=>by rw[tT (by omega)];exact hp m hm⟩;subst ha2;exact(hal.2.env.dropped (d:=d1)).put ht2 (by simp only[SVr,CVr];rw[tQ];rfl)
def A1W (P:Program) (N:Nat) (m:MS):Option MS:=
 match m.cs with
 |.region _ ops false::cs=>match xY P N ops 2 ops.toList m.s with
  |some (s,[])=>match ops.toList.drop 2 with
   |[o1,o2,o3]=>match o1.op,o1.dst,o2.op,o2.dst,o3.op,o3.dst with
    |.load t x,some d1,.alloc t2,some d2,.store t3 (.tmp e2) (.tmp e1),none=>match evc s.Γ x with
     |some (.h n)=>match tJ s.H n,uL P t with
      | some (.abox pre k bs post),some z =>
        if (t2=t∧t3=t∧e2=d2∧e1=d1∧d1≠d2)∧(d1<N∧d2<N)∧(o1.guard=none∧o2.guard=none∧o3.guard=none)∧(vE P t=some true∧u7 P t=some (pre.length+(k+post.length))∧z.cells.size=pre.length+(k+post.length))∧
            tY s.nx s.Γ s.H=true/\(pre.all (CV.oneIn s.H)&&post.all (CV.oneIn s.H))=true then
         some ⟨cs,m.fs,⟨(d2,.c (.h s.nx))::uY s.Γ d1,(s.nx,.abox pre k bs post)::s.H,s.nx+1⟩⟩ else none
      |_,_=>none
     |_=>none
    |_,_,_,_,_,_=>none
   |_=>none
  |_=>none
 |_=>none
def A1V (P:Program) (N:Nat) (m:MS):MS:=(A1W P N m).getD m
theorem A6F {R:Type} {N n0:Nat} {Q:Qf R} {m:MS} {x:Option R} (hr:J P N n0 Q (A1V P N m) x) (h:(A1W P N m).isSome=true:=by kernel_rfl):J P N n0 Q m x:=by
 constructor;intro hn C hN hn0 r hx;subst hN hn0;obtain⟨m',hm'⟩:=fz.1 h;have hr:=hr.run;rw[show A1V P C.N m=m' by rw[A1V,hm'];rfl] at hr;unfold A1W at hm';split at hm'
 ·rename_i id ops cs hcs;split at hm'
  ·rename_i s hrun;split at hm'
   ·rename_i o1 o2 o3 hd;split at hm'
    ·rename_i t x' d1 t2 d2 t3 e2 e1 ho1 hd1 ho2 hd2 ho3 hd3;split at hm'
     ·rename_i n hxe;split at hm'
      ·rename_i pre k bs post z hmm hz;split at hm'
       ·rename_i hc;obtain⟨⟨rfl,rfl,rfl,rfl,hne⟩,⟨h1,h2⟩,⟨g1,g2,g3⟩,⟨q1,q2,q3⟩,hf,hone⟩:=hc;cases hm';rw[hcs];refine xK ?_;obtain⟨k1,k2⟩:=xZ (Q:=Exit.then (wpL P cs (QX P (Q C r) m.fs)) (QX P (Q C r) m.fs)) hrun hn trivial;refine k1 ?_;rw[hd];exact A5X ho1 g1 hd1 h1 ho2 g2 hd2 h2 hne ho3 g3 hd3 hxe hmm q1 q2 hz q3 hf (fo hn k2) hone (wI (hr (fo hn (uj k2)) C rfl rfl r hx))
       ·cases hm'
      ·cases hm'
     ·cases hm'
    ·cases hm'
   ·cases hm'
  ·cases hm'
 ·cases hm'
def atC (x:aK.ty) (u:Value):List Value:=[.string x.1,.int .i64 x.2.1,.int .i64 x.2.2.1,.int .i64 x.2.2.2.1,u]
theorem A3G {A:Option Addr} {b off:Nat} {c:Array Value} {xs:List aK.ty} {x:aK.ty} (hl:vs.length=xs.length) (hA:A=some ⟨b,off,none⟩) (hnd:((.slice A (xs.length+1) cap::(vs++[u])).filterMap blk).Nodup)
 (hown:∀i (h:i<vs.length),∃zs,tV O' w' cK zs vs[i]/\∀y,xs[i]? =some y->zs=y.2.2.2.2) (hu:tV O' w' cK x.2.2.2.2 u) (hp:0<cap/\cap<=9223372036854775807) (hc:xs.length+1<=cap) (hh:w'.heap[b]? =some (.cells c e (0,0))) (hsz:off+cap*5<=c.size)
 (hold:∀i (h:i<xs.length),∃v,(∀j,j<5->c[off+i*5+j]? =(atC xs[i] v)[j]?)/\v.oneCell'=true/\vs[i]? =some v) (hnew:∀j,j<5->c[off+xs.length*5+j]? =(atC x u)[j]?) :
 ArR O' w' (.tuple (.slice A (xs.length+1) cap::(vs++[u])).toArray) (xs.length+1) (xs++[x]) none:=by
 have hone:u.oneCell'=true:=by obtain⟨A',cap',e',_⟩:=hu;rw[e'];rfl
 refine⟨A,cap,vs++[u],by simp,by simp[hl],by simp,by simpa using hnd,λi hi=>?_,.inr ⟨hp,by simpa using hc,b,off,c,e,hA,hh,hsz,λi hi=>?_⟩⟩
 ·by_cases h:i<vs.length
  ·obtain⟨zs,h1,h2⟩:=hown i h;refine⟨zs,by rw[ju h];exact h1,λy hy _=>h2 y ?_,λp hp=>by cases hp⟩;rw[dk (by omega)] at hy;exact hy
  ·have hi':i=vs.length:=by simp at hi;omega
   subst hi';refine⟨_,by rw[lh (bp _)];simpa using hu,λy hy _=>?_,λp hp=>by cases hp⟩;rw[dd (by omega)] at hy;simp[hl] at hy;rw[hy]
 ·have hi2:i<xs.length+1:=by simpa using hi
  simp only[hi2,if_true];by_cases h:i<xs.length
  ·obtain⟨v,h1,h2,h3⟩:=hold i h;refine⟨_,h1,v,by simp[atC,ju h],h2,λ_=>by rw[dk (by omega)];exact h3⟩
  ·have hi':i=xs.length:=by simp at hi;omega
   subst hi';exact⟨_,hnew,u,by simp[atC],hone,λ_=>by rw[<-hl];simp⟩
theorem A5m {w:World} {ty:TypeId} {i:TypeInfo} (ht:P.underlying t=some (.slice e)) (hi:P.info? e=some i) (hz:i.zero=some z) (hb:0<i.bytes) (hzs:z.cells.size=i.size) (h5:i.size=5)
 {A:Option Addr} {xs:List aK.ty} (hl:vs.length=xs.length) (hnd:((.slice A xs.length cap::vs).filterMap blk).Nodup)
 (hown:∀i (h:i<vs.length),∃zs,tV O w cK zs vs[i]/\∀y,xs[i]? =some y->zs=y.2.2.2.2)
 (hrow:(cap=0/\xs=[])\/((0<cap/\cap<=9223372036854775807)/\xs.length<=cap/\∃b off c e,A=some ⟨b,off,none⟩/\w.heap[b]? =some (.cells c e (0,0))/\off+cap*5<=c.size/\
  ∀i (h:i<xs.length),∃v,(∀j,j<5->c[off+i*5+j]? =(atC xs[i] v)[j]?)/\v.oneCell'=true/\vs[i]? =some v))
 {bt:Nat} {x:aK.ty} (hu:tV O w cK x.2.2.2.2 u) (hud:∀q,blk u=some q->∀v∈(.slice A xs.length cap::vs:List Value),blk v≠some q)
 (hbt:∀j v,(atC x u)[j]? =some v->w.cell? ⟨bt,0+j,none⟩=some v) (hbd:(xs.length+1)*i.bytes<=140737488355328) :
 ∃ A' cap' w',(Builtin.append_ #[t,t] ty #[.slice A xs.length cap,.slice (some ⟨bt,0,none⟩) 1 1]).run P w=.ok (.slice A' (xs.length+1) cap') w'∧
   (∀b,b<w.heap.size->¬Bk (.tuple (.slice A xs.length cap::vs).toArray) b->w'.heap[b]? =w.heap[b]?)/\w.heap.size<=w'.heap.size/\w'.os=w.os/\w'.tape=w.tape/\w'.output=w.output/\
   (∀b,Bk (.tuple (.slice A' (xs.length+1) cap'::(vs++[u])).toArray) b->Bk (.tuple (.slice A xs.length cap::vs).toArray) b\/blk u=some b\/w.heap.size<=b)/\
   ∀O',uA O w w'->(∀b,b<w.heap.size->¬O b->¬O' b)->ArR O' w' (.tuple (.slice A' (xs.length+1) cap'::(vs++[u])).toArray) (xs.length+1) (xs++[x]) none:=by
 have hone:u.oneCell'=true:=by obtain⟨A',cap',e',_⟩:=hu;rw[e'];rfl
 have hon5:∀v∈atC x u,v.oneCell'=true:=by intro v hv;simp only[atC,bv,gu,or_false] at hv;rcases hv with rfl|rfl|rfl|rfl|rfl<;>first|rfl|exact hone
 have hnew:∀j v,(atC x u)[j]? =some v->∃b off,some (⟨bt,0,none⟩:Addr)=some ⟨b,off,none⟩/\w.cell? ⟨b,off+j,none⟩=some v:=λj v hv=>⟨bt,0,rfl,hbt j v hv⟩;have hvl:∀v∈vs,∀q,blk v=some q->q<w.heap.size:=by intro v hv q hq;obtain⟨i,hi,rfl⟩:=fe hv;obtain⟨zs,hR,_⟩:=hown i hi;exact zG hR hq
 have hul:∀q,blk u=some q->q<w.heap.size:=λq hq=>zG hu hq;have hin:∀v∈vs,∀q,blk v=some q->Bk (.tuple (.slice A xs.length cap::vs).toArray) q:=λv hv q hq=>uD (cg _ hv) hq;by_cases hroom:xs.length+1<=cap
 ·rcases hrow with⟨rfl,rfl⟩|⟨hp,hlc,b,off,c,e2,rfl,hh,hsz,hcells⟩;·simp at hroom
  ·have hrun:=A2H (P:=P) (ty:=ty) (B:=some ⟨bt,0,none⟩) (n:=xs.length) (cap:=cap) (m:=1) (cap2:=1) (news:=atC x u) (off:=off) ht hi w (by rw[h5];rfl) hnew hon5 hroom hh (by rw[h5];simp[atC];omega);have hbr:Bk (.tuple (.slice (some ⟨b,off,none⟩) xs.length cap::vs).toArray) b:=uD de (uG hp.1);have hne:∀v∈vs,∀q,blk v=some q->q≠b:=by
    intro v hv q hq e;subst e;rw[dc,uG hp.1] at hnd;exact(dy.1 hnd).1 (ez.2 ⟨v,hv,hq⟩)
   have hnu:∀q,blk u=some q->q≠b:=λq hq e=>hud q hq _ de (by rw[e];exact uG hp.1);refine⟨_,_,_,hrun,λq _ hq=>setRow_other w b q _ (λe=>hq (e▸hbr)),by simp[mg],rfl,rfl,rfl,λq hq=>?_,λO' hso ha=>?_⟩
   ·obtain⟨v,hv,hq⟩:=hq;rcases bv.1 (lk.1 (mp.2 hv)) with rfl|hv;·rw[uG hp.1] at hq;cases hq;exact .inl hbr
    ·rcases cf.1 hv with hv|hv;·exact .inl (hin v hv q hq)
     ·simp at hv;subst hv;exact .inr (.inl hq)
   ·refine A3G (b:=b) (off:=off) hl rfl ?_ (λi hi=>?_) (vU hso ha (λq hq=>setRow_other w b q _ (hnu q ((v6 hu).1 hq))) hu) hp hroom (setRow_heap w b c _ e2 _ hh) ?_ (λi hi=>?_) (λj hj=>?_)
    ·have e1:(.slice (some ⟨b,off,none⟩) (xs.length+1) cap::(vs++[u]):List Value).filterMap blk=(.slice (some ⟨b,off,none⟩) xs.length cap::vs++[u]:List Value).filterMap blk:=by
      simp[dc,uG hp.1]
     rw[e1];exact A22 hnd λq hq v hv=>hud q hq v hv
    ·obtain⟨zs,h1,h2⟩:=hown i hi;exact⟨zs,vU hso ha (λq hq=>setRow_other w b q _ (hne _ (kz hi) q ((v6 h1).1 hq))) h1,h2⟩
    ·simp only[ge,cy,co,cq,ep,h5,atC,gk,eb];omega
    ·obtain⟨v,h1,h2,h3⟩:=hcells i hi;refine⟨v,λj hj=>?_,h2,h3⟩;rw[<-h1 j hj,fh,gd,vQ _ _ _ _ (by simp[h5];omega),if_pos (by rw[h5];omega)];simp
    ·rw[fh,gd,vQ _ _ _ _ (by simp[h5];omega),if_neg (by rw[h5];omega),if_pos (by rw[h5];simp[atC];omega),h5];congr 1;omega
 ·have hgl:∃olds:List Value,olds.length=xs.length*i.size/\(∀j v,olds[j]? =some v->∃b off,A=some ⟨b,off,none⟩/\w.cell? ⟨b,off+j,none⟩=some v)/\∀q (h:q<xs.length),∃v,(∀j,j<5->olds[q*5+j]? =(atC xs[q] v)[j]?)/\v.oneCell'=true/\vs[q]? =some v:=by
   rcases hrow with⟨_,rfl⟩|⟨hp,hlc,b,off,c,e2,rfl,hh,hsz,hcells⟩;·exact⟨[],by simp,λj v hv=>by simp at hv,λq hq=>by simp at hq⟩
   ·refine⟨(c.toList.drop off).take (xs.length*5),by simp[h5];omega,λj v hv=>⟨b,off,rfl,?_⟩,λq hq=>?_⟩
    ·rw[gv] at hv;split at hv
     ·rw[cell_of_row w b _ c e2 (0,0) hh];rw[ft] at hv;simpa using hv
     ·cases hv
    ·obtain⟨v,h1,h2,h3⟩:=hcells q hq;refine⟨v,λj hj=>?_,h2,h3⟩;rw[gv,if_pos (by omega),ft,<-h1 j hj];simp[Nat.add_assoc]
  obtain⟨olds,ho1,ho2,ho3⟩:=hgl;obtain⟨gc,hgc,hrun⟩:=A0v (P:=P) (ty:=ty) (A:=A) (B:=some ⟨bt,0,none⟩) (n:=xs.length) (cap:=cap) (m:=1) (cap2:=1) (olds:=olds) (news:=atC x u) ht hi hz w ho1 ho2 (by rw[h5];rfl) hnew (by omega)
   (by have:=zN hb hbd;omega) hbd
  refine⟨_,gc,_,hrun,λb hb _=>uH w.drew _ b hb,by simp,rfl,rfl,rfl,λq hq=>?_,λO' hso ha=>?_⟩
  ·obtain⟨v,hv,hq⟩:=hq;rcases bv.1 (lk.1 (mp.2 hv)) with rfl|hv;·rw[uG (by omega)] at hq;cases hq;exact .inr (.inr (bp _))
   ·rcases cf.1 hv with hv|hv;·exact .inl (hin v hv q hq)
    ·simp at hv;subst hv;exact .inr (.inl hq)
  ·refine A3G (b:=w.heap.size) (off:=0) hl rfl ?_ (λi hi=>?_) (vU hso ha (λq hq=>uH w.drew _ q (hul q ((v6 hu).1 hq))) hu) ⟨by omega,hgc.2⟩ hgc.1 (heap_alloc_new w.drew _) ?_ (λq hq=>?_) (λj hj=>?_)
   ·rw[dc,uG (by omega)];have hnd':(vs.filterMap blk).Nodup:=by
     rw[dc] at hnd;split at hnd;·exact hnd
     ·exact(dy.1 hnd).2
    refine dy.2 ⟨λhm=>?_,A22 hnd' λq hq v hv=>hud q hq v (cg _ hv)⟩;obtain⟨v,hv,hq⟩:=ez.1 hm;rcases cf.1 hv with hv|hv;·have:=hvl v hv _ hq;omega
    ·simp at hv;subst hv;have:=hul _ hq;omega
   ·obtain⟨zs,h1,h2⟩:=hown i hi;exact⟨zs,vU hso ha (λq hq=>uH w.drew _ q (hvl _ (kz hi) q ((v6 h1).1 hq))) h1,h2⟩
   ·simp only[Array.size_append,ge,ho1,size_zeroCells,hzs,h5,atC,gk,eb];omega
   ·obtain⟨v,h1,h2,h3⟩:=ho3 q hq;refine⟨v,λj hj=>?_,h2,h3⟩;rw[<-h1 j hj,ew,ff (by simp[ho1,h5];omega),ff (by simp[ho1,h5];omega)];simp
   ·rw[ew,ff (by simp[ho1,h5,atC];omega),Array.getElem?_append_right (by simp[ho1,h5])];simp[ho1,h5]
theorem A5W {o1 o2 o3 o4:Oper} {Q:Exit->Act->World->Prop} {H:tG} {tA tS:TypeId} {d1 d2 d3 d4 q m:Nat} {p s:Operand} {i:TypeInfo} {x:aK.ty} {xs:List aK.ty}
 (ho1:o1.op=.load tA p) (hg1:o1.guard=none) (hd1:o1.dst=some d1) (ht1:d1<C.N) (ho2:o2.op=.buildSlice tS 1 #[(0,.tmp d1)]) (hg2:o2.guard=none) (hd2:o2.dst=some d2) (ht2:d2<C.N)
 (ho3:o3.op=.call ⟨.builtin .append,#[s,.tmp d2],#[tS,tS]⟩) (hg3:o3.guard=none) (hd3:o3.dst=some d3) (ht3:d3<C.N) (ho4:o4.op=.assign (.tmp d3)) (hg4:o4.guard=none) (hd4:o4.dst=some d4) (ht4:d4<C.N)
 (hp:evc Γ p=some (.h q)) (hq:tJ H q=some (.box [.val (.string x.1),.val (.int .i64 x.2.1),.val (.int .i64 x.2.2.1),.val (.int .i64 x.2.2.2.1),.h m])) (hm:tJ H m=some (.row cK x.2.2.2.2)) (hn:tJ H n=some (.aown xs)) (hnm:n≠m)
 (hag:vE P tA=some true) (hsa:u7 P tA=some 5) (hu:P.underlying tS=some (.slice e)) (hse:u7 P e=some 5) (hi:P.info? e=some i) (hz:uL P e=some z) (hb:0<i.bytes) (hzs:z.cells.size=i.size) (h5:i.size=5)
 (hs:evc (uY (uY Γ d1) d2) s=some (.h n)) (hf:tY nx (uY (uY Γ d1) d2) H=true) (hnx:C.n0<=nx) (hbd:(xs.length+1)*i.bytes<=140737488355328)
 (hr:VO P C all rest Q ((d4,.c (.h nx))::uY (uY (uY Γ d1) d2) d3) ((nx,.aown (xs++[x]))::tW H [n,m,q])):VO P C all (o1::o2::o3::o4::rest) Q Γ H:=by
 rintro a w ⟨σ,hσ,hE,hpin⟩;have hiz:i.zero=some z:=by simpa[uL,hi] using hz
 obtain⟨b,c,e0,hs0,hh,hcv⟩:=hσ.ent _ (tI hq);have hpv:a.eval p=.pointer (some ⟨b,0,none⟩):=(show a.eval p=hd (σ q) from tX hE hp).trans hs0.hd;have hrow:tV (Ow C.G H σ) w cK x.2.2.2.2 (σ m):=hσ.ent _ (tI hm);have hdm:hd (σ m)=σ m:=v8 hrow;have hone:(σ m).oneCell'=true:=by obtain⟨A',cap',e',_⟩:=hrow;rw[e'];rfl
 have hc:c.toList=atC x (σ m):=by
  obtain⟨v1,r1,e1,k1,q1⟩:=uM hcv;obtain⟨v2,r2,rfl,k2,q2⟩:=uM q1;obtain⟨v3,r3,rfl,k3,q3⟩:=uM q2;obtain⟨v4,r4,rfl,k4,q4⟩:=uM q3;obtain⟨v5,r5,rfl,k5,q5⟩:=uM q4;cases r5 with
  |cons _ _=>exact q5.elim
  | nil =>
    cases k1;cases k2;cases k3;cases k4;rw[e1,show v5=σ m from (show v5=hd (σ m) from k5).trans hdm];rfl
 have hcs:c.size=5:=by rw[<-ep,hc];rfl
 have hca:c=(atC x (σ m)).toArray:=by rw[<-hc]
 have hasz:a.tmps.size=C.N:=hE.2.1;have hw0:∀{o:Oper} {a:Act},o.guard=none->gp o (yielded all a.tmps)=true:=λhg=>by simp[gp,hg]
 unfold wpList;rw[if_pos (hw0 hg1)];refine .inl ?_;unfold mb;have hload:=run_loadCells_list (P:=P) w ⟨b,0,none⟩ c.toList (λj u hu=>by rw[im,cell_of_row w b (0+j) c e0 (0,0) hh];simpa using hu)
 have h1:(execOp a.eval o1).run P w=.ok (.value (.agg c)) w:=by rw[ep,hcs] at hload;simp[execOp,ho1,re,hpv,kv,loadVar,vY hag,uK hsa,hload]
 rw[h1];show wpList P all Q (o2::o3::o4::rest) (a.put o1.dst (.agg c)) w;rw[hd1];have E1:=hE.dropped (d:=d1) (u:=.agg c);have ev1:(a.put (some d1) (.agg c)).eval (.tmp d1)=.agg c:=by simp[ui,nr,hasz,ht1]
 generalize a.put (some d1) (.agg c)=a1 at E1 ev1 ⊢;unfold wpList;rw[if_pos (hw0 hg2)];refine .inl ?_;unfold mb;have h2:(execOp a1.eval o2).run P w=.ok (.value (.slice (some ⟨w.heap.size,0,none⟩) 1 1)) (w.alloc (.cells c e)):=by
  have hrun:(lj tS 1 #[(0,.agg c)]).run P w=.ok (.slice (some ⟨w.heap.size,0,none⟩) 1 1) (w.alloc (.cells c e)):=by
   simp only[lj,Sem.run_bind,run_underlying hu,ed,uK hse,Sem.run_ite];rw[if_neg (by decide),if_neg (by decide)];simp only[wK hz,ed,Sem.run_pure];have hfill:=A1e (place:=λi=>some (i*5,5)) (c:=(lz (1*5)).map λi=>(z.cells[i%z.cells.size]!)) (i:=0) (v:=.agg c) (rest:=[]) (off:=0) (size:=5) (vs:=c.toList) rfl (by simp[qf]) (by simpa using hcs) (by simp[hcs]);rw[hfill];have:(c.toList++List.drop c.toList.length ((lz (1*5)).map λi=>(z.cells[i%z.cells.size]!)).toList)=c.toList:=by rw[nh (by simp[hcs]),cm]
   simp[Instr.fill,newRow];rw[nh (by simp[hcs])];simp
  simp[execOp,ho2,ev1,hrun]
 rw[h2];show wpList P all Q (o3::o4::rest) (a1.put o2.dst (.slice (some ⟨w.heap.size,0,none⟩) 1 1)) (w.alloc (.cells c e));rw[hd2];have hold:∀q,q<w.heap.size->(w.alloc (.cells c e)).heap[q]? =w.heap[q]?:=λq hq=>uH w _ q hq;have hgrow:w.heap.size<=(w.alloc (.cells c e)).heap.size:=by simp
 have E2:=(E1.go hold).dropped (d:=d2) (u:=.slice (some ⟨w.heap.size,0,none⟩) 1 1);have hσ1:=hσ.go hold hgrow rfl rfl rfl;have ev2:(a1.put (some d2) (.slice (some ⟨w.heap.size,0,none⟩) 1 1)).eval (.tmp d2)=.slice (some ⟨w.heap.size,0,none⟩) 1 1:=by
  have:d2<a1.tmps.size:=by rw[E1.2.1];exact ht2
  simp[ui,nr,this]
 generalize a1.put (some d2) (.slice (some ⟨w.heap.size,0,none⟩) 1 1)=a2 at E2 ev2 ⊢;have hrow1:tV (Ow C.G H σ) (w.alloc (.cells c e)) cK x.2.2.2.2 (σ m):=hσ1.ent _ (tI hm);have hbt:∀j v,(atC x (σ m))[j]? =some v->(w.alloc (.cells c e)).cell? ⟨w.heap.size,0+j,none⟩=some v:=by intro j v hv;rw[cell_of_row _ _ (0+j) c e (0,0) (heap_alloc_new w _),<-hv,<-hc];simp
 generalize w.alloc (.cells c e)=w1 at *;obtain⟨A,cap,vs,hv,hl,_,hnd,hown,hrw⟩:=hσ1.ent _ (tI hn);have hv':σ n=.tuple (.slice A xs.length cap::vs).toArray:=hv;have hsv:a2.eval s=.slice A xs.length cap:=by rw[show a2.eval s=hd (σ n) from tX E2 hs,hv'];rfl
 obtain⟨A',cap',w',hrun,g1,g2,g3,g4,g5,g6,g7⟩:=A5m (P:=P) (ty:=o3.type) (O:=Ow C.G H σ) (bt:=w.heap.size) hu hi hiz hb hzs h5 (by simpa using hl) hnd (λj hj=>by obtain⟨zs,k1,k2,_⟩:=hown j hj;exact⟨zs,k1,λy hy=>k2 y hy (by simp)⟩)
  (hrw.imp id λ⟨h1,h2,b,off,c,e,h3,h4,h5,h6⟩=>⟨h1,h2,b,off,c,e,h3,h4,h5,λj hj=>by obtain⟨cs,k1,k2⟩:=h6 j hj;rw[if_pos hj] at k2;obtain⟨u,rfl,k3,k4⟩:=k2;exact⟨u,k1,k3,k4 (by simp)⟩⟩) hrow1
  (λr hr v hvm hvb=>hσ1.disj _ (tI hm) _ (tI hn) (mh hnm) r ((v6 hrow1).2 hr) (by rw[hv'];exact uD hvm hvb)) hbt hbd
 unfold wpList;rw[if_pos (hw0 hg3)];refine .inl ?_;unfold mb;have h3:(execOp a2.eval o3).run P w1=.ok (.value (.slice A' (xs.length+1) cap')) w':=by simp[execOp,ho3,resolve,invoke,builtin,hsv,ev2,hrun]
 rw[h3];show wpList P all Q (o4::rest) (a2.put o3.dst (.slice A' (xs.length+1) cap')) w';rw[hd3];have hstep:=vL (w':=w') hσ1 E2 [n,m,q] nx (.aown (xs++[x])) (.tuple (.slice A' (xs.length+1) cap'::(vs++[σ m])).toArray) hf
  (λr hr hno=>g1 r hr (by rw[<-hv'];exact hno n (by simp) _ (tI hn))) g2 g3 g4 g5
  (λr hr=>by
   rcases g6 r hr with h|h|h;·exact .inl ⟨n,by simp,⟨_,tI hn⟩,by rw[hv'];exact h⟩
   ·exact .inl ⟨m,by simp,⟨_,tI hm⟩,(v6 hrow1).2 h⟩
   ·exact .inr h)
  (λhso ha=>by show ArR _ _ _ _ _ _;rw[tQ,cy];exact g7 _ hso ha)
 have E3:=hstep.2.env.dropped (d:=d3) (u:=.slice A' (xs.length+1) cap');have ev3:(a2.put (some d3) (.slice A' (xs.length+1) cap')).eval (.tmp d3)=.slice A' (xs.length+1) cap':=by
  have:d3<a2.tmps.size:=by rw[E2.2.1];exact ht3
  simp[ui,nr,this]
 generalize a2.put (some d3) (.slice A' (xs.length+1) cap')=a3 at E3 ev3 ⊢;unfold wpList;rw[if_pos (hw0 hg4)];refine .inl ?_;unfold mb;have h4:(execOp a3.eval o4).run P w'=.ok (.value (.slice A' (xs.length+1) cap')) w':=by simp[execOp,ho4,ev3]
 rw[h4];show wpList P all Q rest (a3.put o4.dst (.slice A' (xs.length+1) cap')) w';rw[hd4];exact hr _ _ ⟨_,hstep.1,E3.put ht4 (by simp only[SVr,CVr];rw[tQ];rfl),λr hlt=>by rw[tT (by omega)];exact hpin r hlt⟩
def A1M (P:Program) (N:Nat) (m:MS):Option (MS×Prop):=
 match m.cs with
 |.region _ ops false::cs=>match xY P N ops 1 ops.toList m.s with
  |some (s0,[])=>match ops.toList.drop 1 with
   |[o1,o2,o3,o4]=>match o1.op,o1.dst,o2.op,o2.dst,o3.op,o3.dst,o4.op,o4.dst with
    |.load tA p,some d1,.buildSlice tS 1 ⟨[(0,.tmp e1)]⟩,some d2,.call ⟨.builtin .append,⟨[s,.tmp e2]⟩,⟨[t1,t2]⟩⟩,some d3,.assign (.tmp e3),some d4=>match evc s0.Γ p,evc (uY (uY s0.Γ d1) d2) s with
     |some (.h q),some (.h n)=>match tJ s0.H q,tJ s0.H n with
      |some (.box [.val (.string tx),.val (.int .i64 r),.val (.int .i64 g),.val (.int .i64 k),.h m2]),some (.aown xs)=>match tJ s0.H m2,P.underlying tS with
       |some (.row (.pair (.int .i64) (.int .i64)) ys),some (.slice e)=>match P.info? e,uL P e with
        | some i,some z =>
          if (e1=d1∧e2=d2∧e3=d3∧t1=tS∧t2=tS∧n≠m2)∧(d1<N∧d2<N∧d3<N∧d4<N)∧(o1.guard=none∧o2.guard=none∧o3.guard=none∧o4.guard=none)∧(vE P tA=some true∧u7 P tA=some 5∧u7 P e=some 5)∧
              (0<i.bytes/\z.cells.size=i.size/\i.size=5)/\tY s0.nx (uY (uY s0.Γ d1) d2) s0.H=true then
           some (⟨cs,m.fs,⟨(d4,.c (.h s0.nx))::uY (uY (uY s0.Γ d1) d2) d3,(s0.nx,.aown (xs++[(tx,r,g,k,ys)]))::tW s0.H [n,m2,q],s0.nx+1⟩⟩,(xs.length+1)*i.bytes<=140737488355328) else none
        |_,_=>none
       |_,_=>none
      |_,_=>none
     |_,_=>none
    |_,_,_,_,_,_,_,_=>none
   |_=>none
  |_=>none
 |_=>none
def A1N (P:Program) (N:Nat) (m:MS):MS:=
 match A1M P N m with
 |some r=>r.1
 |none=>m
theorem A6E {R:Type} {N n0:Nat} {Q:Qf R} {m:MS} {x:Option R} [Decidable p] (h:(A1M P N m).map gl=some p:=by kernel_rfl) (hr:p->J P N n0 Q (A1N P N m) x):J P N n0 Q m (if p then x else none):=by
 constructor;intro hn C hN hn0 r hx;subst hN hn0;obtain⟨hpp,hx2⟩:=vV hx;obtain⟨⟨m',p'⟩,hm',e⟩:=bf.1 h;have hr2:=(hr hpp).run;rw[show A1N P C.N m=m' by rw[A1N,hm']] at hr2;simp only at e;subst e;unfold A1M at hm';split at hm'
 ·rename_i id ops cs hcs;split at hm'
  ·rename_i s hrun;split at hm'
   ·rename_i o1 o2 o3 o4 hd;split at hm'
    ·rename_i tA p d1 tS e1 d2 s' e2 t1 t2 d3 e3 d4 ho1 hd1 ho2 hd2 ho3 hd3 ho4 hd4;split at hm'
     ·rename_i q n hp hs;split at hm'
      ·rename_i tx r' g k m2 xs hq hnn;split at hm'
       ·rename_i ys e hmm hu;split at hm'
        ·rename_i i z hi hz;split at hm'
         ·rename_i hc;obtain⟨⟨rfl,rfl,rfl,rfl,rfl,hne⟩,⟨h1,h2,h3,h4⟩,⟨g1,g2,g3,g4⟩,⟨q1,q2,q3⟩,⟨b1,b2,b3⟩,hf⟩:=hc;cases hm';rw[hcs];refine xK ?_;obtain⟨k1,k2⟩:=xZ (Q:=Exit.then (wpL P cs (QX P (Q C r) m.fs)) (QX P (Q C r) m.fs)) hrun hn trivial;refine k1 ?_;rw[hd];exact A5W (x:=(tx,r',g,k,ys)) ho1 g1 hd1 h1 ho2 g2 hd2 h2 ho3 g3 hd3 h3 ho4 g4 hd4 h4 hp hq hmm hnn hne q1 q2 hu q3 hi hz b1 b2 b3 hs hf (fo hn k2) hpp (wI (hr2 (fo hn (uj k2)) C rfl rfl r hx2))
         ·cases hm'
        ·cases hm'
       ·cases hm'
      ·cases hm'
     ·cases hm'
    ·cases hm'
   ·cases hm'
  ·cases hm'
 ·cases hm'
abbrev vI (x:Int):CV:=.val (.int .i64 x)
abbrev cH (t n:Nat):Nat×SV:=(t,.c (.h n))
abbrev eS (n:Nat) (l:List (List Int)):Nat×Ent:=(n,.sets l none)
abbrev eM (n:Nat) (l:List Int):Nat×Ent:=(n,.map l)
abbrev eI (n:Nat) (l:List Int):Nat×Ent:=(n,.row (.int .i64) l)
abbrev eE (n:Nat) (l:List aK.ty) (r:Nat):Nat×Ent:=(n,.box [.imm (.slice aK) l,.h r])
abbrev eR (n u:Nat) (f:Int) (g o:Nat):Nat×Ent:=(n,.box [.h u,.val (.int .i64 f),.h g,.h o])
abbrev eV (n e:Nat) (r:Option (Option tH)) (l:List (Int×Int)) (s:List (Int×Int×Int)) (b:List Int):Nat×Ent:=(n,.box [.h e,.imm (.opt (.opt .node)) r,.imm (.slice (.pair (.int .i64) (.int .i64))) l,.imm (.slice (.pair (.int .i64) (.pair (.int .i64) (.int .i64)))) s,.imm (.slice (.int .i64)) b])
abbrev FP {R:Type} (P:Program) (f:FuncId) (n0:Nat) (args:List SV) (H:tG) (x:Option R) (res:R->SV):Prop:=FS P f n0 args H x res λ_=>H
theorem a1 (h:p):tL [p]:=ap1 h
theorem a2 (x0:p0) (x1:p1):tL [p0,p1]:=ap2 x0 (a1 x1)
theorem a3 (x0:p0) (x1:p1) (x2:p2):tL [p0,p1,p2]:=ap2 x0 (a2 x1 x2)
theorem a4 (x0:p0) (x1:p1) (x2:p2) (x3:p3):tL [p0,p1,p2,p3]:=ap2 x0 (a3 x1 x2 x3)
theorem a5 (x0:p0) (x1:p1) (x2:p2) (x3:p3) (x4:p4):tL [p0,p1,p2,p3,p4]:=ap2 x0 (a4 x1 x2 x3 x4)
theorem a6 (x0:p0) (x1:p1) (x2:p2) (x3:p3) (x4:p4) (x5:p5):tL [p0,p1,p2,p3,p4,p5]:=ap2 x0 (a5 x1 x2 x3 x4 x5)
theorem a7 (x0:p0) (x1:p1) (x2:p2) (x3:p3) (x4:p4) (x5:p5) (x6:p6):tL [p0,p1,p2,p3,p4,p5,p6]:=ap2 x0 (a6 x1 x2 x3 x4 x5 x6)
theorem a8 (x0:p0) (x1:p1) (x2:p2) (x3:p3) (x4:p4) (x5:p5) (x6:p6) (x7:p7):tL [p0,p1,p2,p3,p4,p5,p6,p7]:=ap2 x0 (a7 x1 x2 x3 x4 x5 x6 x7)
theorem a9 (x0:p0) (x1:p1) (x2:p2) (x3:p3) (x4:p4) (x5:p5) (x6:p6) (x7:p7) (x8:p8):tL [p0,p1,p2,p3,p4,p5,p6,p7,p8]:=ap2 x0 (a8 x1 x2 x3 x4 x5 x6 x7 x8)
theorem a10 (x0:p0) (x1:p1) (x2:p2) (x3:p3) (x4:p4) (x5:p5) (x6:p6) (x7:p7) (x8:p8) (x9:p9):tL [p0,p1,p2,p3,p4,p5,p6,p7,p8,p9]:=ap2 x0 (a9 x1 x2 x3 x4 x5 x6 x7 x8 x9)
theorem a11 (x0:p0) (x1:p1) (x2:p2) (x3:p3) (x4:p4) (x5:p5) (x6:p6) (x7:p7) (x8:p8) (x9:p9) (x10:p10):tL [p0,p1,p2,p3,p4,p5,p6,p7,p8,p9,p10]:=ap2 x0 (a10 x1 x2 x3 x4 x5 x6 x7 x8 x9 x10)
theorem a12 (x0:p0) (x1:p1) (x2:p2) (x3:p3) (x4:p4) (x5:p5) (x6:p6) (x7:p7) (x8:p8) (x9:p9) (x10:p10) (x11:p11):tL [p0,p1,p2,p3,p4,p5,p6,p7,p8,p9,p10,p11]:=ap2 x0 (a11 x1 x2 x3 x4 x5 x6 x7 x8 x9 x10 x11)
theorem a13 (x0:p0) (x1:p1) (x2:p2) (x3:p3) (x4:p4) (x5:p5) (x6:p6) (x7:p7) (x8:p8) (x9:p9) (x10:p10) (x11:p11) (x12:p12):tL [p0,p1,p2,p3,p4,p5,p6,p7,p8,p9,p10,p11,p12]:=ap2 x0 (a12 x1 x2 x3 x4 x5 x6 x7 x8 x9 x10 x11 x12)
theorem a14 (x0:p0) (x1:p1) (x2:p2) (x3:p3) (x4:p4) (x5:p5) (x6:p6) (x7:p7) (x8:p8) (x9:p9) (x10:p10) (x11:p11) (x12:p12) (x13:p13):tL [p0,p1,p2,p3,p4,p5,p6,p7,p8,p9,p10,p11,p12,p13]:=ap2 x0 (a13 x1 x2 x3 x4 x5 x6 x7 x8 x9 x10 x11 x12 x13)
theorem a15 (x0:p0) (x1:p1) (x2:p2) (x3:p3) (x4:p4) (x5:p5) (x6:p6) (x7:p7) (x8:p8) (x9:p9) (x10:p10) (x11:p11) (x12:p12) (x13:p13) (x14:p14):tL [p0,p1,p2,p3,p4,p5,p6,p7,p8,p9,p10,p11,p12,p13,p14]:=ap2 x0 (a14 x1 x2 x3 x4 x5 x6 x7 x8 x9 x10 x11 x12 x13 x14)
theorem a16 (x0:p0) (x1:p1) (x2:p2) (x3:p3) (x4:p4) (x5:p5) (x6:p6) (x7:p7) (x8:p8) (x9:p9) (x10:p10) (x11:p11) (x12:p12) (x13:p13) (x14:p14) (x15:p15):tL [p0,p1,p2,p3,p4,p5,p6,p7,p8,p9,p10,p11,p12,p13,p14,p15]:=ap2 x0 (a15 x1 x2 x3 x4 x5 x6 x7 x8 x9 x10 x11 x12 x13 x14 x15)
theorem a17 (x0:p0) (x1:p1) (x2:p2) (x3:p3) (x4:p4) (x5:p5) (x6:p6) (x7:p7) (x8:p8) (x9:p9) (x10:p10) (x11:p11) (x12:p12) (x13:p13) (x14:p14) (x15:p15) (x16:p16):tL [p0,p1,p2,p3,p4,p5,p6,p7,p8,p9,p10,p11,p12,p13,p14,p15,p16]:=ap2 x0 (a16 x1 x2 x3 x4 x5 x6 x7 x8 x9 x10 x11 x12 x13 x14 x15 x16)
theorem a18 (x0:p0) (x1:p1) (x2:p2) (x3:p3) (x4:p4) (x5:p5) (x6:p6) (x7:p7) (x8:p8) (x9:p9) (x10:p10) (x11:p11) (x12:p12) (x13:p13) (x14:p14) (x15:p15) (x16:p16) (x17:p17):tL [p0,p1,p2,p3,p4,p5,p6,p7,p8,p9,p10,p11,p12,p13,p14,p15,p16,p17]:=ap2 x0 (a17 x1 x2 x3 x4 x5 x6 x7 x8 x9 x10 x11 x12 x13 x14 x15 x16 x17)
theorem a19 {p18:Prop} (x0:p0) (x1:p1) (x2:p2) (x3:p3) (x4:p4) (x5:p5) (x6:p6) (x7:p7) (x8:p8) (x9:p9) (x10:p10) (x11:p11) (x12:p12) (x13:p13) (x14:p14) (x15:p15) (x16:p16) (x17:p17) (x18:p18):tL [p0,p1,p2,p3,p4,p5,p6,p7,p8,p9,p10,p11,p12,p13,p14,p15,p16,p17,p18]:=ap2 x0 (a18 x1 x2 x3 x4 x5 x6 x7 x8 x9 x10 x11 x12 x13 x14 x15 x16 x17 x18)
theorem a20 {p18 p19:Prop} (x0:p0) (x1:p1) (x2:p2) (x3:p3) (x4:p4) (x5:p5) (x6:p6) (x7:p7) (x8:p8) (x9:p9) (x10:p10) (x11:p11) (x12:p12) (x13:p13) (x14:p14) (x15:p15) (x16:p16) (x17:p17) (x18:p18) (x19:p19):tL [p0,p1,p2,p3,p4,p5,p6,p7,p8,p9,p10,p11,p12,p13,p14,p15,p16,p17,p18,p19]:=ap2 x0 (a19 x1 x2 x3 x4 x5 x6 x7 x8 x9 x10 x11 x12 x13 x14 x15 x16 x17 x18 x19)
section
variable {P:Program} {R:Type} {N n0:Nat} {Q:Qf R} {m:MS} {x:Option R}
theorem jM (n:Nat) (hr:J P N n0 Q (goM P N n m) x) (h:(uV P N n m).map gl=some []:=by kernel_rfl):J P N n0 Q m x:=jm n h hr
theorem jI (n:Nat) [Decidable p] (hr:p->J P N n0 Q (goM P N n m) x) (h:(uV P N n m).map (λr=>tL r.2)=some p:=by kernel_rfl):J P N n0 Q m (if p then x else none):=ji n h hr
theorem jN (n:Nat) (hp:tL ps) (hr:J P N n0 Q (goM P N n m) x) (h:(uV P N n m).map gl=some ps:=by kernel_rfl):J P N n0 Q m x:=jn n ps hp h hr
theorem jF {H:tG} {res:R->SV} {H1:R->tG} {y:Option R} (hf:P.funcs[f]? =some fn) (e:x=y)
 (h:J P fn.ntmps n0 (Qfn P fn res H1) ⟨A1P fn,[],⟨xO 0 args,H,n0⟩⟩ y) (hl:(decide (args.length<=fn.ntmps)&&fn.body.isSome)=true:=by kernel_rfl):FS P f n0 args H x res H1:=jfn hf (jy e h) hl
theorem jC {y:Option R} (h1:J P N n0 Q (cT m) x) (h2:J P N n0 Q (cF m) y) (h:cB0 m=some b:=by kernel_rfl):J P N n0 Q m (if b=true then x else y):=jc h (λ_=>h1) λ_=>h2
theorem jR (l:List (CP P)) (kn:List (Nat×Bool)) (hp:tL ps) (hr:J P N n0 Q (xW P N l kn m) x) (hc:(l.all λc=>uS P c.c.f)=true:=by kernel_rfl)
 (h:(vD P N l kn m).map (λd=>(d.c,d.e1.map di,d.e2.map di))=(vD P N l kn m).bind (λd=>some (ps,d.e1.map gl,d.e2.map gl)):=by kernel_rfl)
 (h0:(vD P N l kn m).isSome=true:=by kernel_rfl):J P N n0 Q m x:=jr l kn ps hp hc h h0 hr
theorem jRi (l:List (CP P)) (kn:List (Nat×Bool)) [Decidable p] (hr:p->J P N n0 Q (xW P N l kn m) x) (hc:(l.all λc=>uS P c.c.f)=true:=by kernel_rfl)
 (h:(vD P N l kn m).map (λd=>(tL d.c,d.e1.map di,d.e2.map di))=(vD P N l kn m).bind (λd=>some (p,d.e1.map gl,d.e2.map gl)):=by kernel_rfl)
 (h0:(vD P N l kn m).isSome=true:=by kernel_rfl):J P N n0 Q m (if p then x else none):=jri l kn hc h h0 hr
theorem jW (l:List (CP P)) (hr:J P N n0 Q (xN P N l [] m) x) (hmx:P.follows .mixedOrders=true:=by kernel_rfl) (hc:(l.all λc=>uS P c.c.f)=true:=by kernel_rfl)
 (h:(vA P N l [] m).map (λd=>(d.c,d.e1.map di,d.e2.map di))=(vA P N l [] m).bind (λd=>some ([],d.e1.map gl,d.e2.map gl)):=by kernel_rfl)
 (h0:(vA P N l [] m).map (λd=>decide (m.s.nx<=d.s.nx))=some true:=by kernel_rfl):J P N n0 Q m x:=jw0 l hmx hc h h0 hr
theorem jWp (l:List (CP P)) (kn:List (Nat×Bool)) (hp:tL ps) (hr:J P N n0 Q (xN P N l kn m) x) (hmx:P.follows .mixedOrders=true:=by kernel_rfl) (hc:(l.all λc=>uS P c.c.f)=true:=by kernel_rfl)
 (h:(vA P N l kn m).map (λd=>(d.c,d.e1.map di,d.e2.map di))=(vA P N l kn m).bind (λd=>some (ps,d.e1.map gl,d.e2.map gl)):=by kernel_rfl)
 (h0:(vA P N l kn m).map (λd=>decide (m.s.nx<=d.s.nx))=some true:=by kernel_rfl):J P N n0 Q m x:=jw l kn ps hp hmx hc h h0 hr
theorem jG (g:Gx) (hr:J P N n0 Q (gxM g m) x) (h:(ghx g m.s).map gl=some []:=by kernel_rfl):J P N n0 Q m x:=jg0 g h hr
theorem jT {res:R->SV} {H1:R->tG} (inv:List (Nat×Nat)) (hm:A1n m=true:=by kernel_rfl)
 (h:x.map (λr=>(some ((res r).ren inv),uF inv (H1 r),decide (((H1 r).map λp=>rn inv p.1)).Nodup&&decide ((H1 r).map di).Nodup&&inv.all λp=>decide (n0<=p.1))) =
  x.bind (λr=>some (yT P m.s.Γ m.s.H fn.results.toList,uT m.s.H ((H1 r).map λp=>rn inv p.1),true)):=by kernel_rfl):J P N n0 (Qfn P fn res H1) m x:=jt (rr inv h) hm
theorem jX {L:Nat->X->Option R} {Γ:X->Env} {H:X->tG} (z:X) (inv:List (Nat×Nat)) (hf:(wR inv (Γ z),uF inv (H z),decide ((H z).map λp=>rn inv p.1).Nodup&&decide ((H z).map di).Nodup&&inv.all λp=>decide (n0<=p.1))=(wF m.s.Γ ((Γ z).map di),uT m.s.H ((H z).map λp=>rn inv p.1),true):=by kernel_rfl)
 (h:(m.cs.isEmpty&&m.fs.isEmpty)=true:=by kernel_rfl):J P N n0 (Ql P Q fs L Γ H k) m (L k z):=jx z rfl inv hf h
theorem jA {cont:Y->Option R} {y:Option Y} (nx:Nat) (Γm:Y->Env) (Hm:Y->tG) (h1:J P N n0 (Qc P Q m.fs cont (λy=>y) Γm Hm) (zR m) y)
 (h2:∀y,J P N n0 Q (zU m (Γm y) (Hm y) nx) (cont y)) (h:(decide (n0<=nx)&&!m.cs.isEmpty)=true:=by kernel_rfl):J P N n0 Q m (y.bind cont):=ja nx Γm Hm h h1 h2
theorem jL (L:Nat->X->Option R) (k0:Nat) (x0:X) (nx:Nat) (inv:List (Nat×Nat)) (Γ:X->Env) (H:X->tG) (round:∀k x,J P N n0 (Ql P Q m.fs L Γ H k) (A1O m (Γ x) (H x) nx) (L (k+1) x)) (e:L k0 x0=x:=by rfl) (hz:∀x,L 0 x=none:=by intro;rfl)
 (hf:(wR inv (Γ x0),uF inv (H x0),decide ((H x0).map λp=>rn inv p.1).Nodup&&decide ((H x0).map di).Nodup&&inv.all λp=>decide (n0<=p.1))=(wF m.s.Γ ((Γ x0).map di),uT m.s.H ((H x0).map λp=>rn inv p.1),true):=by kernel_rfl) (h:(decide (n0<=nx)&&A1m m)=true:=by kernel_rfl):J P N n0 Q m x:=jl L k0 x0 e nx inv Γ H hz hf h round
def zr (l:List Nat):List (Nat×Nat):=(List.range l.length).zip l
def A0t (P:Program) (N:Nat) (cl:List (Nat×uW)) (m:MS):Option SA:=
 match m.cs with
 |.region _ ops false::_=>y4 P N cl [] ops ops.size 0 ops.toList m.s
 |_=>none
def A6f (P:Program) (N:Nat) (cl:List (Nat×uW)) (m:MS):MS:=
 match A0t P N cl m with
 |some r=>⟨m.cs.tail,m.fs,r.s⟩
 |none=>m
theorem jB {y:Option A} {k:A->Option R} {m0:Nat} {H:tG} {res:A->SV} {H1:A->tG} (i:Nat) (S:FS P f m0 args H y res H1) (ρ:List Nat) (nx:Nat)
 (hr:∀r,J P N n0 Q (A6f P N [(i,⟨f,m0,args,H,res r,H1 r,zr ρ,nx⟩)] m) (k r)) (hc:uS P f=true:=by kernel_rfl)
 (h:(λr=>(A0t P N [(i,⟨f,m0,args,H,res r,H1 r,zr ρ,nx⟩)] m).map (λd=>(d.c,d.e1.map di,d.e2.map di)))=(λr=>(A0t P N [(i,⟨f,m0,args,H,res r,H1 r,zr ρ,nx⟩)] m).bind (λd=>some ([],d.e1.map gl,d.e2.map gl))):=by kernel_rfl)
 (h0:(λr=>(A0t P N [(i,⟨f,m0,args,H,res r,H1 r,zr ρ,nx⟩)] m).isSome)=(λ_=>true):=by kernel_rfl):J P N n0 Q m (y.bind k):=
 jb λr hx=>jr0 [cp i (S r hx) (zr ρ) nx] (by simp only[List.all_cons,List.all_nil,Bool.and_true];exact hc) (congrFun h r) (congrFun h0 r) (hr r)
end
section
open Go Go.ChangeShapes Go.WideShapes Go.RowKit
def Kd.bytes:Kd->Nat
 |.int k=>k.bits/8
 |.bool=>1
 |.str=>16
 |.slice _=>24
 |.opt _=>8
 |.pair a b=>a.bytes+b.bytes
 |.node=>96
def Kd.ok:(k:Kd)->k.ty->Prop
 |.int ik,n=>(Bj ik n).wf=true
 |.bool,_=>True
 |.str,s=>s.size<=140737488351232
 |.slice e,xs=>xs.length*e.bytes<=140737488351232/\ ∀x∈xs,e.ok x
 |.opt e,x=> ∀y,x=some y->e.ok y
 |.pair a b,x=>a.ok x.1/\b.ok x.2
 |.node,_=>True
def Kd.bulk:(k:Kd)->k.ty->Nat
 |.int _,_=>1
 |.bool,_=>1
 |.str,s=>s.size+1
 |.slice e,xs=>((show List e.ty from xs).map e.bulk).sum+1
 |.opt _,_=>1
 |.pair a b,x=>a.bulk x.1+b.bulk x.2
 |.node,_=>1
theorem Kd.one_le:∀(k:Kd) (y:k.ty),1<=k.bulk y
 |.int _,_=>bp _
 |.bool,_=>bp _
 |.str,s=>by simp[Kd.bulk]
 |.slice e,xs=>by simp[Kd.bulk]
 |.opt _,_=>bp _
 |.pair a b,x=>by have:=a.one_le x.1;simp only[Kd.bulk];omega
 |.node,_=>bp _
theorem Kd.bulk_len {e:Kd}:∀{xs:List e.ty},xs.length+1<=Kd.bulk (.slice e) xs
 |[]=>by simp[Kd.bulk]
 | x :: xs => by have h1:=e.one_le x;have h2:=Kd.bulk_len (e:=e) (xs:=xs);simp only[Kd.bulk,dj,qn,gk] at h2 ⊢;omega
structure xG {H:Type} (B:DataW H->Nat) (BA:List (DataW H)->Nat):Prop where
 one:∀d,1<=B d
 str:∀b:List UInt8,B (.lit (.string b))=b.length+1
 slice:∀e s,B (.slice e s)=BA e+BA s+1
 agg:∀p,B (.agg p)=BA p+1
 nil:BA []=0
 cons:∀d r,BA (d::r)=B d+BA r
def xQ (g:TypeId->Kd->Bool):Nat->List Field->Kd->Bool
 |off,[f],k=>f.offset==off&&g f.type k
 |off,f::f'::fs,.pair a b=>f.offset==off&&g f.type a&&xQ g (off+a.sz) (f'::fs) b
 |_,_,_=>false
def yN (g:Kd->Bool):Nat->Kd->Bool
 |1,k=>g k
 |n+2,.pair a b=>g a&&yN g (n+1) b
 |_,_=>false
def uR (P:Program):Nat->TypeId->Kd->Bool
 |0,_,_=>false
 | f+1,t,k => P.cellsOf t == k.sz && decide (k.bytes ≤ P.bytesOf t) && (match P.underlying t,k with
   |_,.node=>false
   |some (.int i),.int j=>i==j
   |some .bool,.bool=>true
   |some .string,.str=>true
   |some (.slice e),.slice ke=>uR P f e ke
   |some (.struct fs),k=>xQ (uR P f) 0 fs.toList k
   |some (.array n e),k=>yN (uR P f e) n k
   |_,_=>false)
theorem A3P {α:Type} {Q:Nat->α->Prop}:∀{n:Nat},(∀i,i<n->∃y,Q i y)->∃ys:List α,ys.length=n/\∀i (h:i<ys.length),Q i ys[i]
 |0,_=>⟨[],rfl,λi h=>by simp at h⟩
 | n+1,h => by
   obtain⟨ys,hl,hq⟩:=A3P (n:=n) λi hi=>h i (by omega);obtain⟨y,hy⟩:=h n (by omega);refine⟨ys++[y],by simp[hl],λi hi=>?_⟩;rcases gw i ys.length with hlt|hge;·rw[ju hlt];exact hq i hlt
   ·have hin:i=n:=by simp at hi;omega
    subst hin;have:(ys++[y])[i]=y:=by rw[lh (by omega)];simp
    rw[this];exact hy
section
variable {H:Type} {enc:TypeId×Value->H} {P:Program} {w:World} {base:Nat} {sp:Nat->Bool} {held:Bool}
theorem A2e {e:TypeId}:∀{l:List (DataW H×List MemPlace)} {y:DataW H×List MemPlace},y∈l->∀m∈y.1.weights P e,m∈ve P e (l.map (·.1))
 | x :: l,y,hy,m,hm => by
   simp only[dj,ve,cf];rcases bv.1 hy with rfl|hy;·exact .inl hm
   ·exact .inr (A2e hy m hm)
theorem A71 {a:Addr} (hn:n=0\/a.spot=none) (h:w.cell? (a.add n)=some v):a.spot=none:=by
 rcases hn with rfl|hn
 ·unfold Addr.add World.cell? at h;simp only[if_true] at h;split at h
  ·split at h;·cases h
   ·rename_i hs;cases hsp:a.spot with
    |none=>rfl
    |some x=>rw[hsp] at hs;simp at hs
  ·cases h
 ·exact hn
theorem A6b:∀(n f:Nat) (t:TypeId) (k:Kd) (cs:List Value) (x:DataW H×List MemPlace),uR P f t k=true->xa enc P w base sp held n t cs=some x->(∀m∈x.1.weights P t,m<=reachBytes)->
 ∃y:k.ty,k.R (λ_=>False) w y cs/\k.ok y/\∀B BA,xG B BA->k.bulk y<=B x.1:=by
 intro n;induction n with
 |zero=>intro f t k cs x _ h;simp[xa] at h
 | succ n ih =>
   intro f t k cs x hf h hw;cases f with
   |zero=>simp[uR] at hf
   | succ f =>
     simp only[uR,bq,beq_iff_eq,decide_eq_true_eq] at hf;obtain⟨⟨hc,hb⟩,hf⟩:=hf;split at hf;·cases hf
     ·rename_i i j hu;have hij:i=j:=by simpa using hf
      subst hij;obtain⟨m,rfl,rfl,hwf⟩:=DataW.trod_int hu h;exact⟨m,rfl,hwf,λB BA h=>h.one _⟩
     ·rename_i hu;obtain⟨b,rfl,rfl⟩:=DataW.trod_bool hu h;exact⟨b,rfl,trivial,λB BA h=>h.one _⟩
     ·rename_i hu;obtain⟨s,rfl,rfl,hs⟩:=DataW.trod_string hu h;refine⟨s,rfl,?_,λB BA h=>by rw[h.str];simp[Kd.bulk]⟩;have:=hw s.data.toList.length (by simp[pi]);simpa[Kd.ok,reachBytes] using this
     ·rename_i e ke hu;rcases DataW.trod_slice hu h with h0|⟨a,len,cap,elems,rest,m,hm,rfl,rfl,hbase,hl,hmx,hlen,hel,hsp,hns⟩
      ·obtain⟨rfl,rfl⟩:=h0;exact⟨[],⟨none,0,rfl,bp _,λi hi=>by simp at hi⟩,⟨by simp,λx hx=>by cases hx⟩,λB BA h=>by simp[Kd.bulk];exact h.one _⟩
      ·obtain rfl:n=m:=by omega
       have hz:P.cellsOf e=ke.sz:=by
        cases f with
        |zero=>simp[uR] at hf
        |succ f=>simp only[uR,bq,beq_iff_eq,decide_eq_true_eq] at hf;exact hf.1.1
       have hby:ke.bytes<=P.bytesOf e:=by
        cases f with
        |zero=>simp[uR] at hf
        |succ f=>simp only[uR,bq,beq_iff_eq,decide_eq_true_eq] at hf;exact hf.1.2
       have each:∀i,i<len->∃y:ke.ty,(∃c,ke.R (λ_=>False) w y c/\w.cells? base (a.add (i*P.cellsOf e)) (P.cellsOf e)=some c)/\ke.ok y/\∀d,(elems.map (·.1))[i]? =some d->∀B BA,xG B BA->ke.bulk y<=B d:=by
        intro i hi;have he:=hel i hi;have hx:elems[i]? =some (elems[i]'(by omega)):=by simp
        rw[hx] at he;obtain⟨c,hcs,htr⟩:=Option.bind_eq_some_iff.1 he;obtain⟨y,hR,hok,hbk⟩:=ih f e ke c _ hf htr (λm hm=>hw m (by simp only[pi,hu,bv,cf];exact .inr (.inl (A2e (kz (by omega)) m hm))))
        exact⟨y,⟨c,hR,hcs⟩,hok,λd hd=>by rw[fu,hx] at hd;cases hd;exact hbk⟩
       obtain⟨ys,hyl,hys⟩:=A3P each;subst hyl;have hspot:ys≠[]->a.spot=none:=by
        intro hne;have h0:0<ys.length:=List.length_pos_iff.2 hne;obtain⟨⟨c,hR,hcs⟩,_⟩:=hys 0 h0;obtain⟨_,hcl,hcc⟩:=uk hcs;have hp:=Kd.sz_pos ke;have h1:=hcc 0 (by omega);have hs:c[0]? =some (c[0]'(by omega)):=by simp
        rw[hs] at h1;rw[ue] at h1;have:a.add 0=a:=by simp[Addr.add]
        rw[this] at h1;exact A71 (n:=0) (.inl rfl) (by rw[this];exact h1)
       refine⟨ys,⟨some a,cap,rfl,hl,λi hi=>?_⟩,⟨?_,?_⟩,?_⟩
       ·obtain⟨⟨c,hR,hcs⟩,_⟩:=hys i hi;have hsp0:=hspot (by intro e;rw[e] at hi;simp at hi);obtain⟨_,hcl,hcc⟩:=uk hcs;refine⟨a.block,a.off,c,?_,λh=>h,hR,λj hj=>?_⟩;·cases a;simp only at hsp0;subst hsp0;rfl
        ·have:=hcc j (by omega);rw[<-this];congr 1;cases a;simp only at hsp0;subst hsp0;rw[hz,im,im]
       ·have:=hw ((elems.map (·.1)).length+(rest.map (·.1)).length |>(·* P.bytesOf e)) (by simp[pi,hu]);simp only[du,reachBytes] at this;refine fo (Nat.mul_le_mul (show ys.length<=elems.length+rest.length by omega) hby) this
       ·intro y hy;obtain⟨i,hi,rfl⟩:=fe hy;exact(hys i hi).2.1
       ·intro B BA hB;have key:∀(ds:List (DataW H)) (zs:List ke.ty),zs.length<=ds.length->(∀i (h:i<zs.length) d,ds[i]? =some d->ke.bulk zs[i]<=B d)->(zs.map ke.bulk).sum<=BA ds:=by
         intro ds;induction ds with
         |nil=>intro zs hz _;have:zs=[]:=bx (by simpa using hz);subst this;simp
         | cons d ds ihd =>
           intro zs hz hq;cases zs with
           |nil=>simp
           | cons z zs =>
             have h1:=hq 0 (by simp) d rfl;have h2:=ihd zs (by simpa using hz) (λi h d' hd'=>by have:=hq (i+1) (by simpa using h) d' (by simpa using hd');rwa[List.getElem_cons_succ] at this)
             rw[hB.cons];simp only[dj,qn];simp only[List.getElem_cons_zero] at h1;omega
        have:=key (elems.map (·.1)) ys (by simp;omega) (λi h d hd=>(hys i h).2.2 d hd B BA hB);rw[hB.slice];simp only[Kd.bulk];omega
     ·rename_i fs hu _;obtain⟨xs,m,hm,rfl,hcl,hxl,hfs⟩:=DataW.trod_struct hu h;obtain rfl:n=m:=by omega
      have main:∀(l:List Field) (j off:Nat) (k:Kd),xQ (uR P f) off l k=true->(∀i g,l[i]? =some g->fs[j+i]? =some g)->j+l.length=fs.size->off+k.sz<=cs.length->(∀m∈om P (l.map (·.type)) ((xs.drop j).map (·.1)),m<=reachBytes)->
       ∃y:k.ty,k.R (λ_=>False) w y ((cs.drop off).take k.sz)/\k.ok y/\∀B BA,xG B BA->k.bulk y<=BA ((xs.drop j).map (·.1)):=by
       intro l;induction l with
       |nil=>intro j off k hfit;simp[xQ] at hfit
       | cons g l ihl =>
         intro j off k hfit hget hjl hoff hwt;have hg0:fs[j]? =some g:=by simpa using hget 0 g rfl
         have hx:=hfs j g hg0;have hjx:j<xs.length:=by rw[hxl];simp at hjl;omega
         have hxj:xs[j]? =some xs[j]:=by simp
         have hdrop:xs.drop j=xs[j]::xs.drop (j+1):=ij hjx;rw[hxj] at hx;have one:∀ka:Kd,uR P f g.type ka=true->g.offset=off->∃y:ka.ty,ka.R (λ_=>False) w y ((cs.drop off).take ka.sz)/\ka.ok y/\∀B BA,xG B BA->ka.bulk y<=B xs[j].1:=by
          intro ka hfa hgo;have hz:P.cellsOf g.type=ka.sz:=by
           cases f with
           |zero=>simp[uR] at hfa
           |succ f=>simp only[uR,bq,beq_iff_eq,decide_eq_true_eq] at hfa;exact hfa.1.1
          rw[hgo,hz] at hx;refine ih f g.type ka _ _ hfa hx λm hm=>hwt m ?_;rw[hdrop];simp only[dj,om,cf];exact .inl hm
         cases l with
         | nil =>
           simp only[xQ,bq,beq_iff_eq] at hfit;obtain⟨y,h1,o1,b1⟩:=one k hfit.2 hfit.1;exact⟨y,h1,o1,λB BA hB=>by rw[hdrop,dj,hB.cons];have:=b1 B BA hB;omega⟩
         | cons g' l =>
           cases k with
           | pair ka kb =>
             simp only[xQ,bq,beq_iff_eq] at hfit;obtain⟨⟨hgo,hfa⟩,hrest⟩:=hfit;obtain⟨y1,h1,o1,b1⟩:=one ka hfa hgo;simp only[Kd.sz] at hoff;obtain⟨y2,h2,o2,b2⟩:=ihl (j+1) (off+ka.sz) kb hrest (λi g hg=>by
              have:=hget (i+1) g (by simpa using hg);rwa[show j+(i+1)=j+1+i by omega] at this) (by simp at hjl ⊢;omega) (by omega) (λm hm=>hwt m (by rw[hdrop];simp only[dj,om,cf] at hm ⊢;exact .inr hm))
             refine⟨(y1,y2),⟨_,_,?_,h1,h2⟩,⟨o1,o2⟩,λB BA hB=>by rw[hdrop,dj,hB.cons];have:=b1 B BA hB;have:=b2 B BA hB;simp only[Kd.bulk];omega⟩;rw[Kd.sz,<-lq];exact tj ..
           |_=>simp[xQ] at hfit
      obtain⟨y,hR,hok,hbk⟩:=main fs.toList 0 0 _ hf (λi g hg=>by simpa using hg) (by simp) (by omega) (λm hm=>hw m (by simp only[pi,hu];simpa using hm));rw[ic,<-hc,<-hcl,my] at hR;exact⟨y,hR,hok,λB BA hB=>by rw[hB.agg];have:=hbk B BA hB;simp only[ic] at this;omega⟩
     ·rename_i len e hu _;obtain⟨xs,m,hm,rfl,hcl,hxl,hfs⟩:=DataW.trod_array hu h;obtain rfl:n=m:=by omega
      have main:∀(l j:Nat) (k:Kd),yN (uR P f e) l k=true->j+l=len->j*P.cellsOf e+k.sz<=cs.length->
       ∃y:k.ty,k.R (λ_=>False) w y ((cs.drop (j*P.cellsOf e)).take k.sz)/\k.ok y/\∀B BA,xG B BA->k.bulk y<=BA ((xs.drop j).map (·.1)):=by
       intro l;induction l with
       |zero=>intro j k hfit;simp[yN] at hfit
       | succ l ihl =>
         intro j k hfit hjl hoff;have hjx:j<xs.length:=by omega
         have hx:=hfs j (by omega);have hxj:xs[j]? =some xs[j]:=by simp
         have hdrop:xs.drop j=xs[j]::xs.drop (j+1):=ij hjx;rw[hxj] at hx;have zs:∀ka:Kd,uR P f e ka=true->P.cellsOf e=ka.sz:=by
          intro ka hfa;cases f with
          |zero=>simp[uR] at hfa
          |succ f=>simp only[uR,bq,beq_iff_eq,decide_eq_true_eq] at hfa;exact hfa.1.1
         have one:∀ka:Kd,uR P f e ka=true->∃y:ka.ty,ka.R (λ_=>False) w y ((cs.drop (j*P.cellsOf e)).take ka.sz)/\ka.ok y/\∀B BA,xG B BA->ka.bulk y<=B xs[j].1:=by
          intro ka hfa;have hz:=zs ka hfa;have hx2:xa enc P w base sp held n e ((cs.drop (j*P.cellsOf e)).take ka.sz)=some xs[j]:=by rw[<-hz];exact hx
          refine ih f e ka _ _ hfa hx2 λm hm=>hw m ?_;simp only[pi,hu];exact A2e (kz hjx) m hm
         cases l with
         | zero =>
           obtain⟨y,h1,o1,b1⟩:=one k hfit;exact⟨y,h1,o1,λB BA hB=>by rw[hdrop,dj,hB.cons];have:=b1 B BA hB;omega⟩
         | succ l =>
           cases k with
           | pair ka kb =>
             simp only[yN,bq] at hfit;obtain⟨hfa,hrest⟩:=hfit;have hz:=zs ka hfa;obtain⟨y1,h1,o1,b1⟩:=one ka hfa;simp only[Kd.sz] at hoff;obtain⟨y2,h2,o2,b2⟩:=ihl (j+1) kb hrest (by omega) (by rw[um,hz];rw[hz] at hoff;omega);refine⟨(y1,y2),⟨_,_,?_,h1,h2⟩,⟨o1,o2⟩,λB BA hB=>by rw[hdrop,dj,hB.cons];have:=b1 B BA hB;have:=b2 B BA hB;simp only[Kd.bulk];omega⟩;rw[Kd.sz,show (j+1)*P.cellsOf e=j*P.cellsOf e+ka.sz by rw[um,hz],<-lq];exact tj ..
           |_=>simp[yN] at hfit
      obtain⟨y,hR,hok,hbk⟩:=main len 0 _ hf (by omega) (by omega);rw[ue,ic,<-hc,<-hcl,my] at hR;exact⟨y,hR,hok,λB BA hB=>by rw[hB.agg];have:=hbk B BA hB;simp only[ic] at this;omega⟩
     ·cases hf
theorem A6x {ts:List TypeId} {ds:List (DataW H)} (h:(om P ts ds).all (·<=reachBytes)=true) {j:Nat} {d:DataW H} (ht:ts[j]? =some t) (hd:ds[j]? =some d):∀m∈d.weights P t,m<=reachBytes:=λm hm=>by simpa using cn.1 h m (DataW.weights_mem_each ht hd m hm)
theorem A5k {r:Reach} {b0 f:Nat} {k:Kd} {d:DataW H} {ps:List MemPlace} (hf:uR P f t k=true) (ha:vE P t=some false) (hval:Value.okWide P w r b0 t v)
 (h:DataW.Trod enc P w base sp held t v d ps) (hw:∀m∈d.weights P t,m<=reachBytes):∃y:k.ty,CVs (λ_=>False) w (λ_=>undef) (k.svs y) [v]/\k.ok y/\∀B BA,xG B BA->k.bulk y<=B d:=by
 have hone:v.cells.toList=[v]:=by
  cases f with
  |zero=>simp[uR] at hf
  | succ f =>
    simp only[uR,bq] at hf;replace hf:=hf.2;split at hf;·cases hf
    ·rename_i hu;obtain⟨n,rfl⟩:=okWide_int hu hval;rfl
    ·rename_i hu;obtain⟨n,rfl⟩:=okWide_bool hu hval;rfl
    ·rename_i hu;obtain⟨n,rfl⟩:=okWide_string hu hval;rfl
    ·rename_i hu;obtain⟨a,len,cap,rfl⟩:=okWide_slice hu hval;rfl
    ·rename_i hu _;simp[vE,hu] at ha
    ·rename_i hu _;simp[vE,hu] at ha
    ·cases hf
 obtain⟨n,hn⟩:=h;obtain⟨y,hR,hok,hbk⟩:=A6b n f t k _ _ hf hn hw;rw[hone] at hR;exact⟨y,wL hR,hok,hbk⟩
theorem A31 {O O':Nat->Prop} {w w':World} {σ:Nat->Value} (hw:uA O w w') (ho:∀b,b<w.heap.size->¬O b->¬O' b):∀{l:List SV} {vs:List Value},SVs O w σ l vs->SVs O' w' σ l vs
 |[],[],_=>trivial
 |_::_,_::_,h=>⟨wP hw ho h.1,A31 hw ho h.2⟩
 |[],_::_,h=>h.elim
 |_::_,[],h=>h.elim
theorem A5J (h:Spec P f 0 args [] (.c (.val (.bool true))) []) (hv:SVs (λ_=>False) w (λ_=>undef) args vs) :
 Calls P f vs.toArray w λe w'=>e=.returned (.bool true)/\Below w.heap.size w w':=by
 have hsat:tK (cx 0 (λ_=>False) (λ_=>undef) [] w 0) (λ_=>undef) [] w:=
  ⟨λp hp=>(by cases hp),by simp,λp hp=>(by cases hp),λp hp=>(by cases hp),⟨rfl,rfl,rfl,bp _,λ_ _ _=>rfl,λ_ h=>h.elim⟩⟩
 refine(h (λ_=>False) (λ_=>undef) w vs hsat (A31 (λ_ _ _=>rfl) (λb _ _ hb=>?_) hv)).mono ?_
 ·rcases hb with hb|⟨p,hp,_⟩;·exact hb
  ·cases hp
 ·rintro e w' ⟨v,σ',rfl,h1,h2,_⟩;have hv':v=.bool true:=h2;subst hv';refine⟨rfl,h1.fr.os,h1.fr.tape,h1.fr.output,h1.fr.size,λb hb=>h1.fr.block b hb λho=>?_⟩;obtain⟨p,hp,_⟩:=ho;cases hp
end
end
section
open Go Go.Proofs Go.Shelf
theorem yV (b:Nat):∀(vs:List Value) (o:Nat) (w:World) (c:Array Value) (e:TypeId) (fr:Nat×Nat),w.heap[b]? =some (.cells c e fr)->
 ∃c',(w.setCells b o vs).heap[b]? =some (.cells c' e fr)/\c'.size=c.size/\(∀j,j<o\/o+vs.length<=j->c'[j]? =c[j]?)/\(∀j,j<vs.length->o+j<c.size->c'[o+j]? =vs[j]?)
 |[],o,w,c,e,fr,h=>⟨c,h,rfl,λ_ _=>rfl,λj hj=>by simp at hj⟩
 | v :: vs,o,w,c,e,fr,h => by
   have h1:(w.setCell ⟨b,o,none⟩ v).heap[b]? =some (.cells (c.setIfInBounds o v) e fr):=by simp only[ny,md,h];simp
   obtain⟨c',e1,e2,e3,e4⟩:=yV b vs (o+1) _ _ e fr h1;rw[qk] at e2 e4;refine⟨c',e1,e2,λj hj=>?_,λj hj hs=>?_⟩
   ·simp only[gk] at hj;rw[e3 j (by omega),kg (by omega)]
   ·simp only[gk] at hj;cases j with
    | zero =>
      rw[ee,e3 o (by omega),Array.getElem?_setIfInBounds_self_of_lt (by omega)];rfl
    | succ j =>
      have:=e4 j (by omega) (by omega);rw[show o+(j+1)=o+1+j by omega,this];rfl
theorem yW {b b':Nat} (hne:b'≠b):∀(vs:List Value) (o:Nat) (w:World),(w.setCells b o vs).heap[b']? =w.heap[b']?
 |[],_,_=>rfl
 | v :: vs,o,w => by rw[oq,yW hne vs];simp only[ny,md];rw[if_neg (λh=>hne h.symm)]
theorem yX (b:Nat):∀(vs:List Value) (o:Nat) (w:World),(w.setCells b o vs).heap.size=w.heap.size/\(w.setCells b o vs).os=w.os/\(w.setCells b o vs).tape=w.tape/\(w.setCells b o vs).output=w.output
 |[],_,_=>⟨rfl,rfl,rfl,rfl⟩
 | v :: vs,o,w => by obtain⟨h1,h2,h3,h4⟩:=yX b vs (o+1) (w.setCell ⟨b,o,none⟩ v);exact⟨by rw[oq,h1];simp[ny],by rw[oq,h2];rfl,by rw[oq,h3];rfl,by rw[oq,h4];rfl⟩
theorem A3y {w:World} {ik:IntKind} {xs:List Int} (h:tV O w (.int ik) xs v):∃A cap,v=.slice A xs.length cap/\((cap=0/\xs=[])\/
 ((0<cap/\cap<=9223372036854775807)/\xs.length<=cap/\∃b off c e,A=some ⟨b,off,none⟩/\w.heap[b]? =some (.cells c e (0,0))/\off+cap<=c.size/\∀i,i<xs.length->c[off+i]? =(xs.map (dh ik))[i]?)):=by
 obtain⟨A,cap,hv,h⟩:=h;refine⟨A,cap,hv,?_⟩;rcases h with h|⟨h1,h2,b,off,c,e,h3,h4,h5,h6⟩;·exact .inl h
 ·refine .inr ⟨h1,h2,b,off,c,e,h3,h4,by simpa[Kd.sz] using h5,λi hi=>?_⟩;obtain⟨cs,hR,hc⟩:=h6 i hi;have hR':cs=[dh ik xs[i]]:=hR;subst hR';have:=hc 0 (by simp[Kd.sz]);simp only[Kd.sz,mf,ee] at this;rw[this];simp[fu,bj hi]
theorem A01 {w:World} {ik:IntKind} {xs:List Int} {b off:Nat} {c:Array Value} (hc:0<cap/\cap<=9223372036854775807) (hl:xs.length<=cap) (hh:w.heap[b]? =some (.cells c e (0,0))) (hs:off+cap<=c.size)
 (hcs:∀i,i<xs.length->c[off+i]? =(xs.map (dh ik))[i]?):tV O w (.int ik) xs (.slice (some ⟨b,off,none⟩) xs.length cap):=by
 refine⟨_,cap,rfl,.inr ⟨hc,hl,b,off,c,e,rfl,hh,by simpa[Kd.sz] using hs,λi hi=>⟨[dh ik xs[i]],rfl,λj hj=>?_⟩⟩⟩;have hj0:j=0:=by simpa[Kd.sz] using hj
 subst hj0;have:=hcs i hi;simp only[Kd.sz,mf,ee];rw[this];simp[fu,bj hi]
theorem A6B {A V B:List α} {j:Nat}:(A++(V++B))[j]? =if j<A.length then A[j]? else if j<A.length+V.length then V[j-A.length]? else B[j-(A.length+V.length)]?:=by
 by_cases h1:j<A.length;·rw[if_pos h1,dk h1]
 ·rw[if_neg h1,dd (by omega)];by_cases h2:j<A.length+V.length;·rw[if_pos h2,dk (by omega)]
  ·rw[if_neg h2,dd (by omega),show j-A.length-V.length=j-(A.length+V.length) by omega]
section
variable {P:Program} {ρ:Ren}
theorem zH {G:Nat->Prop} {w:World} {k0 k1 k2:Kd} {xs:List k0.ty} {ys:List k1.ty} (zs:List k2.ty) (h:tK (cx 0 G σ [(0,.row k0 xs),(1,.row k1 ys)] w 2) σ [(0,.row k0 xs),(1,.row k1 ys)] w)
 (hw:∀b,b<w.heap.size->¬Bk (σ 0) b->w'.heap[b]? =w.heap[b]?) (hs:w.heap.size<=w'.heap.size) (hos:w'.os=w.os) (ht:w'.tape=w.tape) (hou:w'.output=w.output)
 (hblk:∀b,Bk v b->Bk (σ 0) b\/w.heap.size<=b)
 (hrow:∀O',uA (Ow G [(0,.row k0 xs),(1,.row k1 ys)] σ) w w'->(∀b,b<w.heap.size->¬Ow G [(0,.row k0 xs),(1,.row k1 ys)] σ b->¬O' b)->tV O' w' k2 zs v) :
 ∃v' σ',rp v=rp v'/\tK (cx 0 G σ [(0,.row k0 xs),(1,.row k1 ys)] w 2) σ' [(2,.row k2 zs)] w'/\SVr (Ow G [(2,.row k2 zs)] σ') w' σ' (.c (.h 2)) v'/\∀n,n<2->σ' n=σ n:=by
 have hE:tM (cx 0 G σ [(0,.row k0 xs),(1,.row k1 ys)] w 2) σ [(0,.row k0 xs),(1,.row k1 ys)] w [] {tmps:=#[],defers:=[]}:=⟨λt sv hh=>by simp[tJ] at hh,rfl,rfl⟩;have hsw:=y7 (w':=w') h hE (m:=0) (nx:=2) (e:=.row k0 xs) rfl rfl k2 zs v hw hs hos ht hou hblk hrow;refine⟨v,upd σ 2 v,rfl,hsw.1.sub (λp hp=>?_) (by simp),?_,λn hn=>tT (by omega)⟩;·rw[List.mem_singleton.1 hp];simp
 ·have hR:tV _ _ _ _ (upd σ 2 v 2):=hsw.1.ent (2,.row k2 zs) (by simp);show v=hd (upd σ 2 v 2);rw[v8 hR,tQ]
theorem A51 (L:Lays2.n21 P ρ) (xs ys:List Int) (i:Int) (h0:0<=i) (hi:i<=xs.length) (hy:0<ys.length) (hb:xs.length+ys.length<=1000000) :
 Spec P (ρ.f 21) 2 [.c (.h 0),.c (.val (.int .i64 i)),.c (.h 1)] [(0,.row (.int .i64) xs),(1,.row (.int .i64) ys)] (.c (.h 2)) [(2,.row (.int .i64) (xs.take i.toNat++(ys++xs.drop i.toNat)))]:=by
 intro G σ w us hsat hargs;obtain⟨i,rfl⟩:∃n:Nat,i=n:=⟨i.toNat,by omega⟩;rw[Int.toNat_natCast];have hin:i<=xs.length:=by omega
 match us,hargs with
 | [u0,u1,u2],⟨a0,a1,a2,_⟩ =>
   have e0:tV (Ow G [(0,.row (.int .i64) xs),(1,.row (.int .i64) ys)] σ) w (.int .i64) xs (σ 0):=hsat.ent (0,.row (.int .i64) xs) (by simp);have e1:tV (Ow G [(0,.row (.int .i64) xs),(1,.row (.int .i64) ys)] σ) w (.int .i64) ys (σ 1):=hsat.ent (1,.row (.int .i64) ys) (by simp);have a0':u0=σ 0:=(show u0=hd (σ 0) from a0).trans (v8 e0);have a1':u1=.int .i64 (i:Int):=a1;have a2':u2=σ 1:=(show u2=hd (σ 1) from a2).trans (v8 e1);subst a0' a1' a2';have hdis:=hsat.disj (0,.row (.int .i64) xs) (by simp) (1,.row (.int .i64) ys) (by simp) (by simp);obtain⟨A,cap,hs,hA⟩:=A3y e0;obtain⟨B,vc,hsv,hB⟩:=A3y e1;rcases hB with⟨_,hB⟩|⟨hvc,hyl,vb,voff,cv,ev,rfl,hhv,hszv,hcv⟩;·rw[hB] at hy;simp at hy
   have hvs:∀j v,(ys.map (dh .i64))[j]? =some v->w.cell? ⟨vb,voff+j,none⟩=some v:=λj v hj=>by
    have hjl:j<ys.length:=by simpa using(dt.1 hj).1
    rw[cell_of_row w vb _ cv ev (0,0) hhv,hcv j hjl,hj]
   have h1v:∀v∈ys.map (dh .i64),v.oneCell'=true:=λv hv=>by obtain⟨n,_,rfl⟩:=cj.1 hv;rfl
   have h1c:∀v∈xs.map (dh .i64),v.oneCell'=true:=λv hv=>by obtain⟨n,_,rfl⟩:=cj.1 hv;rfl
   have hbv:Bk (σ 1) vb:=by rw[hsv];simp only[Bk,blk];rw[if_neg (by omega)]
   have hZ:(xs.take i++(ys++xs.drop i)).length=xs.length+ys.length:=by simp only[cy,co,cq];omega
   have hget:∀j,j<xs.length+ys.length->((xs.take i++(ys++xs.drop i)).map (dh .i64))[j]? =if j<i then (xs.map (dh .i64))[j]? else if j<i+ys.length then (ys.map (dh .i64))[j-i]? else (xs.map (dh .i64))[j-ys.length]?:=λj hj=>by
    rw[fu,A6B,co,show min i xs.length=i by omega];by_cases c1:j<i;·rw[if_pos c1,if_pos c1,nz c1,fu]
    ·rw[if_neg c1,if_neg c1];by_cases c2:j<i+ys.length;·rw[if_pos c2,if_pos c2,fu]
     ·rw[if_neg c2,if_neg c2,ft,fu,show i+(j-(i+ys.length))=j-ys.length by omega]
   rw[hs,hsv];rcases hA with⟨rfl,hA⟩|⟨hcap,hxl,b,off,c,e,rfl,hh,hsz,hc⟩
   ·subst hA;obtain rfl:i=0:=by simpa using hin
    have hcall:=ov L A 0 0 vb voff ys.length vc [] (ys.map (dh .i64)) w hy (bp _) (by omega) (by omega) rfl (by simp) (λ_=>rfl) (λ_ _ j v hj=>by simp at hj) hvs h1v;refine hcall.mono ?_;rintro en w' ⟨rfl,rfl⟩;have hgc:=grownCap_ge w (0+ys.length) 0 (ρ.t 3);have hgm:=grownCap_le_maxLen w (0+ys.length) 0 (ρ.t 3) (by simp only[maxLen];omega);simp only[maxLen] at hgm;refine zH (k2:=.int .i64) (List.take 0 []++(ys++List.drop 0 [])) hsat (λb' hb' _=>uH w.drew _ _ hb') (by show w.heap.size<=(w.heap.push _).size;simp) rfl rfl rfl (λb' hb'=>?_) (λO' _ _=>?_)
    ·simp only[Bk,blk] at hb';rw[if_neg (by omega)] at hb';injection hb' with hb';exact .inr (by omega)
    ·have:=A01 (O:=O') (ik:=.i64) (xs:=ys) (b:=w.heap.size) (off:=0) (cap:=grownCap w (0+ys.length) 0 (ρ.t 3)) (e:=ρ.t 3) (by omega) (by omega) (heap_alloc_new w.drew (.cells ((([]:List Value)++ys.map (dh .i64)).toArray++fv (dh .i64 0).cells (grownCap w (0+ys.length) 0 (ρ.t 3)-(0+ys.length))) (ρ.t 3)))
      (by simp[fv,qf];omega) (λj hj=>by rw[ew,ff (by simpa using hj)];simp)
     simpa using this
   ·have hb0:Bk (σ 0) b:=by rw[hs];simp only[Bk,blk];rw[if_neg (by omega)]
    have hvb:vb≠b:=λe=>hdis b hb0 (e▸hbv);have hcs:∀j v,(xs.map (dh .i64))[j]? =some v->w.cell? ⟨b,off+j,none⟩=some v:=λj v hj=>by
     have hjl:j<xs.length:=by simpa using(dt.1 hj).1
     rw[cell_of_row w b _ c e (0,0) hh,hc j hjl,hj]
    have hsome:∀k,k<off+cap->(w.cell? ⟨b,k,none⟩).isSome=true:=λk hk=>by rw[cell_of_row w b _ c e (0,0) hh,Array.getElem?_eq_getElem (by omega)];rfl
    have hfz:∀k,w.frozen? ⟨b,k,none⟩=false:=λk=>by simp[tk,hh]
    have hfv:∀k,w.frozen? ⟨vb,k,none⟩=false:=λk=>by simp[tk,hhv]
    have hbs:b<w.heap.size:=(dg.1 hh).1;by_cases hroom:xs.length+ys.length<=cap
    ·by_cases hend:i=xs.length
     ·subst hend;have hcall:=Any2.slices_Insert_int_end_room L b off xs.length cap vb voff ys.length vc (ys.map (dh .i64)) w hy hroom hcap.2 (by simp) (λj hj=>hsome _ (by omega)) (λj hj=>hfz _) hvs h1v;refine hcall.mono ?_;rintro en w' ⟨rfl,rfl⟩;obtain⟨c',f1,f2,f3,f4⟩:=yV b (ys.map (dh .i64)) (off+xs.length) w c e (0,0) hh;obtain⟨r1,r2,r3,r4⟩:=yX b (ys.map (dh .i64)) (off+xs.length) w;rw[du] at f3 f4;refine zH (k2:=.int .i64) (xs.take xs.length++(ys++xs.drop xs.length)) hsat (λb' _ hb'=>yW (λe=>hb' (by rw[e];exact hb0)) _ _ _) (by omega) r2 r3 r4 (λb' hb'=>.inl ?_) (λO' _ _=>?_)
      ·have hb2:blk (.slice (some ⟨b,off,none⟩) _ cap)=some b':=hb';rw[uG (by omega)] at hb2;cases hb2;exact hb0
      ·have:=A01 (O:=O') (ik:=.i64) (xs:=xs.take xs.length++(ys++xs.drop xs.length)) (b:=b) (off:=off) (cap:=cap) hcap (by omega) f1 (by omega) (λj hj=>by
        rw[hget j (by omega)];by_cases c1:j<xs.length;·rw[if_pos c1,f3 _ (by omega),hc j c1]
        ·rw[if_neg c1,if_pos (by omega),show off+j=off+xs.length+(j-xs.length) by omega,f4 _ (by omega) (by omega)])
       rw[hZ] at this;exact this
     ·have hcall:=Any2.slices_Insert_int_shift L b off xs.length cap i vb voff ys.length vc (xs.map (dh .i64)) (ys.map (dh .i64)) w (by omega) hy hroom hcap.2 hvb (by simp) (by simp) hcs (λj hj=>hsome _ (by omega)) (λj hj=>hfz _) hvs h1c h1v
       ev e cv.size c.size (by simp[ri,hhv]) (by simp[ri,hh]) (by omega) (hfv _) (hfv _)
      refine hcall.mono ?_;rintro en w' ⟨rfl,rfl⟩;obtain⟨c1,f1,f2,f3,f4⟩:=yV b ((xs.map (dh .i64)).drop i) (off+(i+ys.length)) w.drew c e (0,0) hh;obtain⟨r1,r2,r3,r4⟩:=yX b ((xs.map (dh .i64)).drop i) (off+(i+ys.length)) w.drew;obtain⟨c2,g1,g2,g3,g4⟩:=yV b (ys.map (dh .i64)) (off+i) _ c1 e (0,0) f1;obtain⟨s1,s2,s3,s4⟩:=yX b (ys.map (dh .i64)) (off+i) (w.drew.setCells b (off+(i+ys.length)) ((xs.map (dh .i64)).drop i));rw[cq,du] at f3 f4;rw[du] at g3 g4;refine zH (k2:=.int .i64) (xs.take i++(ys++xs.drop i)) hsat (λb' _ hb'=>?_) (by rw[s1,r1];exact bp _) (by rw[s2,r2];rfl) (by rw[s3,r3];rfl) (by rw[s4,r4];rfl) (λb' hb'=>.inl ?_) (λO' _ _=>?_);·rw[yW (λe=>hb' (by rw[e];exact hb0)),yW (λe=>hb' (by rw[e];exact hb0))];rfl
      ·have hb2:blk (.slice (some ⟨b,off,none⟩) _ cap)=some b':=hb';rw[uG (by omega)] at hb2;cases hb2;exact hb0
      ·have:=A01 (O:=O') (ik:=.i64) (xs:=xs.take i++(ys++xs.drop i)) (b:=b) (off:=off) (cap:=cap) hcap (by omega) g1 (by omega) (λj hj=>by
        rw[hget j (by omega)];by_cases d1:j<i;·rw[if_pos d1,g3 _ (by omega),f3 _ (by omega),hc j (by omega)]
        ·rw[if_neg d1];by_cases d2:j<i+ys.length;·rw[if_pos d2,show off+j=off+i+(j-i) by omega,g4 _ (by omega) (by omega)]
         ·rw[if_neg d2,g3 _ (by omega),show off+j=off+(i+ys.length)+(j-(i+ys.length)) by omega,f4 _ (by omega) (by omega),ft,show i+(j-(i+ys.length))=j-ys.length by omega])
       rw[hZ] at this;exact this
    ·by_cases hend:i=xs.length
     ·subst hend;have hcall:=ov L (some ⟨b,off,none⟩) xs.length cap vb voff ys.length vc (xs.map (dh .i64)) (ys.map (dh .i64)) w hy hxl (by omega) (by omega) (by simp) (by simp) (λh=>by cases h) (λa ha j v hj=>by
       injection ha with ha;subst ha;rw[im];exact hcs j v hj) hvs h1v
      refine hcall.mono ?_;rintro en w' ⟨rfl,rfl⟩;have hgc:=grownCap_ge w (xs.length+ys.length) cap (ρ.t 3);have hgm:=grownCap_le_maxLen w (xs.length+ys.length) cap (ρ.t 3) (by simp only[maxLen];omega);simp only[maxLen] at hgm;refine zH (k2:=.int .i64) (xs.take xs.length++(ys++xs.drop xs.length)) hsat (λb' hb' _=>uH w.drew _ _ hb') (by show w.heap.size<=(w.heap.push _).size;simp) rfl rfl rfl (λb' hb'=>?_) (λO' _ _=>?_)
      ·simp only[Bk,blk] at hb';rw[if_neg (by omega)] at hb';injection hb' with hb';exact .inr (by omega)
      ·have:=A01 (O:=O') (ik:=.i64) (xs:=xs.take xs.length++(ys++xs.drop xs.length)) (b:=w.heap.size) (off:=0) (cap:=grownCap w (xs.length+ys.length) cap (ρ.t 3)) (e:=ρ.t 3) (by omega) (by omega)
        (heap_alloc_new w.drew (.cells ((xs.map (dh .i64)++ys.map (dh .i64)).toArray++fv (dh .i64 0).cells (grownCap w (xs.length+ys.length) cap (ρ.t 3)-(xs.length+ys.length))) (ρ.t 3)))
        (by simp[fv,qf];omega) (λj hj=>by rw[ew,ff (by simp;omega)];simp only[fh,my,List.drop_length,cm,List.map_append])
       rw[hZ] at this;exact this
     ·have hcall:=Any2.slices_Insert_int_grow L b off xs.length cap i vb voff ys.length vc (xs.map (dh .i64)) (ys.map (dh .i64)) w (by omega) hy hxl (by omega) (by omega) (by simp) (by simp) hcs hvs h1c h1v;refine hcall.mono ?_;rintro en w' ⟨rfl,rfl⟩;have hgc:=grownCap_ge w (xs.length+ys.length) cap (ρ.t 3);have hgm:=grownCap_le_maxLen w (xs.length+ys.length) cap (ρ.t 3) (by simp only[maxLen];omega);simp only[maxLen] at hgm;obtain⟨gc,hgcd⟩:∃gc,gc=grownCap w (xs.length+ys.length) cap (ρ.t 3):=⟨_,rfl⟩;rw[<-hgcd] at hgc hgm ⊢;obtain⟨row,hrow⟩:∃row,row=((xs.map (dh .i64)).take i).toArray++fv (dh .i64 0).cells (xs.length+ys.length-i)++fv (dh .i64 0).cells (gc-(xs.length+ys.length)):=⟨_,rfl⟩;rw[<-hrow];have hrs:row.size=gc:=by rw[hrow];simp[fv,qf];omega
      have hrl:∀j,j<i->row[j]? =(xs.map (dh .i64))[j]?:=λj hj=>by rw[hrow,Array.append_assoc,ff (by simp;omega),fh,nz hj]
      have hnew:(w.alloc (.cells row (ρ.t 3))).drew.heap[w.heap.size]? =some (.cells row (ρ.t 3) (0,0)):=heap_alloc_new w _;obtain⟨c1,f1,f2,f3,f4⟩:=yV w.heap.size (ys.map (dh .i64)) i _ row (ρ.t 3) (0,0) hnew;obtain⟨r1,r2,r3,r4⟩:=yX w.heap.size (ys.map (dh .i64)) i (w.alloc (.cells row (ρ.t 3))).drew;obtain⟨c2,g1,g2,g3,g4⟩:=yV w.heap.size ((xs.map (dh .i64)).drop i) (i+ys.length) (((w.alloc (.cells row (ρ.t 3))).drew.setCells w.heap.size i (ys.map (dh .i64))).drew) c1 (ρ.t 3) (0,0) f1;obtain⟨s1,s2,s3,s4⟩:=yX w.heap.size ((xs.map (dh .i64)).drop i) (i+ys.length) (((w.alloc (.cells row (ρ.t 3))).drew.setCells w.heap.size i (ys.map (dh .i64))).drew);rw[du] at f3 f4;rw[cq,du] at g3 g4;refine zH (k2:=.int .i64) (xs.take i++(ys++xs.drop i)) hsat (λb' hb' _=>?_) ?_ (by rw[s2];exact r2) (by rw[s3];exact r3) (by rw[s4];exact r4) (λb' hb'=>?_) (λO' _ _=>?_)
      ·rw[yW (by omega)];show ((w.alloc (.cells row (ρ.t 3))).drew.setCells w.heap.size i (ys.map (dh .i64))).heap[b']? =_;rw[yW (by omega)];exact uH w _ _ hb'
      ·rw[s1];show _<=((w.alloc (.cells row (ρ.t 3))).drew.setCells w.heap.size i (ys.map (dh .i64))).heap.size;rw[r1];show w.heap.size<=(w.heap.push _).size;simp
      ·simp only[Bk,blk] at hb';rw[if_neg (by omega)] at hb';injection hb' with hb';exact .inr (by omega)
      ·have:=A01 (O:=O') (ik:=.i64) (xs:=xs.take i++(ys++xs.drop i)) (b:=w.heap.size) (off:=0) (cap:=gc) (by omega) (by omega) g1 (by omega) (λj hj=>by
        rw[hget j (by omega),ew];by_cases d1:j<i;·rw[if_pos d1,g3 _ (by omega),f3 _ (by omega),hrl j d1]
        ·rw[if_neg d1];by_cases d2:j<i+ys.length;·rw[if_pos d2,g3 _ (by omega),show j=i+(j-i) by omega,f4 _ (by omega) (by omega),show i+(j-i)-i=j-i by omega]
         ·rw[if_neg d2,show j=i+ys.length+(j-(i+ys.length)) by omega,g4 _ (by omega) (by omega),ft];congr 1;omega)
       rw[hZ] at this;exact this
end
end
section
open Go Go.Proofs
theorem A4w {b b':Nat} (h:uU v b e) (hs:v=.tuple [.pointer (some ⟨b',0,none⟩),.iface t .nilIface].toArray):b'=b/\e=t:=by
 rcases h with h|h;·rw[hs] at h;cases h
 ·rw[hs] at h;simp at h;exact⟨h.1,h.2.symm⟩
theorem A3I {w:World} {xs:List Int} (h:tK C σ [(0,.box [.slf 0 tb,.h 1]),(1,.brow te xs)] w) :
 ∃ b u A cap,σ 0=.tuple [.pointer (some ⟨b,0,none⟩),.iface tb .nilIface].toArray∧(u=.pointer none∨u=.pointer (some ⟨b,0,none⟩))∧w.heap[b]? = some (.cells #[u,.slice A xs.length cap] tb (0,0))∧σ 1=.slice A xs.length cap∧
   tV (Ow C.G [(0,.box [.slf 0 tb,.h 1]),(1,.brow te xs)] σ) w (.int .u8) xs (σ 1)/\w8 w (σ 1) te:=by
 obtain⟨b,c,e,hB,hh,hc⟩:∃b c e,uU (σ 0) b e/\w.heap[b]? =some (.cells c e (0,0))/\CVs (Ow C.G [(0,.box [.slf 0 tb,.h 1]),(1,.brow te xs)] σ) w σ [.slf 0 tb,.h 1] c.toList:=h.ent (0,.box [.slf 0 tb,.h 1]) (by simp);obtain⟨hR,hT⟩:tV (Ow C.G [(0,.box [.slf 0 tb,.h 1]),(1,.brow te xs)] σ) w (.int .u8) xs (σ 1)/\w8 w (σ 1) te:=h.ent (1,.brow te xs) (by simp);have hl:=vH hc;match hq:c.toList,hl,hc with
 | [u0,u1],_,hc =>
   obtain⟨⟨b',hs,hu⟩,h1,_⟩:=hc;obtain⟨rfl,rfl⟩:=A4w hB hs;have hR':=hR;obtain⟨A,cap,hv,_⟩:=hR';have h1':u1=.slice A xs.length cap:=(show u1=hd (σ 1) from h1).trans (by rw[hv];rfl);have hc':c = #[u0,.slice A xs.length cap]:=by apply ip;rw[hq,h1']
   rw[hc'] at hh;exact⟨b',u0,A,cap,hs,hu,hh,hv,hR,hT⟩
theorem A5s
 (hu:∀(b:Nat) (w:World),w.cell? ⟨b,0,none⟩=some (.pointer (some ⟨b,0,none⟩))->Calls P f #[.pointer (some ⟨b,0,none⟩)] w λe w'=>e=.returned (.tuple #[])/\w'=w)
 (hf:∀(b:Nat) (w:World),w.cell? ⟨b,0,none⟩=some (.pointer none)->w.shape? b=some (tb,2)->w.frozen? ⟨b,0,none⟩=false->Calls P f #[.pointer (some ⟨b,0,none⟩)] w λe w'=>e=.returned (.tuple #[])/\w'=w.setCell ⟨b,0,none⟩ (.pointer (some ⟨b,0,none⟩)))
 {xs:List Int}:FS P f 2 [.c (.h 0)] [(0,.box [.slf 0 tb,.h 1]),(1,.brow te xs)] (some ()) (λ_=>.tup []) λ_=>[(0,.box [.slf 0 tb,.h 1]),(1,.brow te xs)]:=by
 intro r _ G σ w vs hsat hargs;obtain⟨b,u,A,cap,hs,hu0,hh,hv,hR,hT⟩:=A3I hsat;match vs,hargs with
 | [v0],⟨a0,_⟩ =>
   have a0':v0=.pointer (some ⟨b,0,none⟩):=(show v0=hd (σ 0) from a0).trans (by rw[hs];rfl);subst a0';rcases hu0 with rfl|rfl
   ·refine(hf b w (by rw[cell_of_row w b _ _ _ _ hh];rfl) (by simp[ri,hh]) (by simp[tk,hh])).mono ?_;rintro e w' ⟨rfl,rfl⟩;have hE:tM (cx 0 G σ [(0,.box [.slf 0 tb,.h 1]),(1,.brow te xs)] w 2) σ [(0,.box [.slf 0 tb,.h 1]),(1,.brow te xs)] w [] {tmps:=#[],defers:=[]}:=⟨λt sv hh=>by simp[tJ] at hh,rfl,rfl⟩;have hst:=y6 (w':=w.setCell ⟨b,0,none⟩ (.pointer (some ⟨b,0,none⟩))) hsat hE (m:=0) (e:=.box [.slf 0 tb,.h 1]) (e':=.box [.slf 0 tb,.h 1]) rfl
     (λq _ hq=>by have hne:q≠b:=λe=>hq (by subst e;rw[hs];exact uD de rfl);simp only[ny,md];rw[if_neg (λe=>hne e.symm)])
     (by simp[ny]) rfl rfl rfl (λhso=>by refine⟨b,#[.pointer (some ⟨b,0,none⟩),.slice A xs.length cap],tb,.inr hs,by simp[ny,md,hh],?_⟩;exact⟨⟨b,hs,.inr rfl⟩,by show _=hd (σ 1);rw[hv];rfl,trivial⟩)
    exact⟨_,σ,rfl,hst.1,⟨[],rfl,trivial⟩,λ_ _=>rfl⟩
   ·refine(hu b w (by rw[cell_of_row w b _ _ _ _ hh];rfl)).mono ?_;rintro e w' ⟨rfl,rfl⟩;exact⟨_,σ,rfl,hsat,⟨[],rfl,trivial⟩,λ_ _=>rfl⟩
def inB (xs:List Int):Bool:=xs.all λx=>decide (0<=x)&&decide (x<256)
theorem A5n {st pt it ty:TypeId} (hpt:P.underlying pt=some (.pointer te)) (hce:P.cellsOf te=1)
 (hS:∀(b:Nat) (p:Value) (A:Option Addr) (n cap:Nat) (q:Option Addr) (s:ByteArray) (w w2:World),w.heap[b]? =some (.cells #[p,.slice A n cap] tb (0,0))->
  (Builtin.unsafeSliceData_ #[st] pt #[.slice A n cap]).run P w.drew=.ok (.pointer q) w.drew->(Builtin.unsafeString_ #[pt,it] ty #[.pointer q,.int .i64 n]).run P w.drew=.ok (.string s) w2->
  Calls P f #[.pointer (some ⟨b,0,none⟩)] w λe w'=>e=.returned (.string s)/\w'=w2)
 {xs:List Int}:FS P f 2 [.c (.h 0)] [(0,.box [.slf 0 tb,.h 1]),(1,.brow te xs)] (if inB xs=true then some (tP xs) else none) (λr=>.c (.val (.string r))) λ_=>[]:=by
 intro r hr G σ w vs hsat hargs;obtain⟨hin,hr⟩:=vV hr;cases hr;obtain⟨b,u,A,cap,hs,hu0,hh,hv,hR,hT⟩:=A3I hsat;match vs,hargs with
 | [v0],⟨a0,_⟩ =>
   have a0':v0=.pointer (some ⟨b,0,none⟩):=(show v0=hd (σ 0) from a0).trans (by rw[hs];rfl);subst a0';have fin:∀(s:ByteArray) (w2:World),s=tP xs->(∀q,¬Bk (σ 1) q->w2.heap[q]? =w.heap[q]?)->w2.heap.size=w.heap.size->w2.os=w.os->w2.tape=w.tape->w2.output=w.output->
    ∃v σ',rp (.string s)=.returned v/\tK (cx 0 G σ [(0,.box [.slf 0 tb,.h 1]),(1,.brow te xs)] w 2) σ' [] w2/\SVr (Ow G [] σ') w2 σ' (.c (.val (.string (tP xs)))) v/\∀n,n<2->σ' n=σ n:=by
    rintro s w2 rfl g1 g2 g3 g4 g5;refine⟨_,σ,rfl,⟨λp hp=>(by cases hp),by simp,λp hp=>(by cases hp),λp hp=>(by cases hp),g3,g4,g5,by rw[g2];exact bp _,λq hq ho=>?_,hsat.fr.gsize⟩,rfl,λ_ _=>rfl⟩;exact g1 q λhb=>ho ⟨(1,.brow te xs),by simp,hb⟩
   rcases hT _ _ _ hv with⟨rfl,rfl⟩|⟨hc,g,cur,rfl,hg⟩
   ·have hx:xs=[]:=by
     obtain⟨A',cap',e,hx⟩:=hR;rw[hv] at e;cases e;rcases hx with⟨_,hx⟩|⟨hx,_⟩;·exact hx
     ·omega
    subst hx;refine(hS b u none 0 0 none .empty w w.drew hh rfl (qc w.drew _ _ _ _)).mono ?_;rintro e w' ⟨rfl,rfl⟩;exact fin _ _ rfl (λ_ _=>rfl) rfl rfl rfl rfl
   ·have hSD:=Lib.run_unsafeSliceData_row (P:=P) (w:=w.drew) #[st] pt ⟨g,0,none⟩ xs.length cap (by omega);by_cases h0:xs=[]
    ·subst h0;refine(hS b u _ 0 cap _ .empty w w.drew hh hSD (qc w.drew _ _ _ _)).mono ?_;rintro e w' ⟨rfl,rfl⟩;exact fin _ _ rfl (λ_ _=>rfl) rfl rfl rfl rfl
    ·have hR':=hR;obtain⟨A',cap',e,hx⟩:=hR';rw[hv] at e;cases e;rcases hx with⟨rfl,_⟩|⟨hp,hl,b',off,c',e',e1,hh',hsz,hcs⟩;·omega
     ·cases e1;rw[hg] at hh';cases hh';have hUS:=Lib.run_unsafeString_row (P:=P) w.drew pt it ty te hpt hce g cur.size (by simp[ri,show w.drew.heap[g]? =_ from hg]) (xs.map λn=>cw n.toNat) (by simpa using h0) (by simp only[du,Kd.sz] at hsz ⊢;omega) (by simp only[du];omega) (λj x hx=>by
       rw[fu] at hx;obtain⟨y,hy,rfl⟩:=bf.1 hx;obtain⟨hj,rfl⟩:=dt.1 hy;obtain⟨cs,hR1,hc1⟩:=hcs j hj;have:=hc1 0 (by simp[Kd.sz]);simp only[Kd.R] at hR1;subst hR1;have hm:=cn.1 hin _ (kz hj);simp only[bq,decide_eq_true_eq] at hm;rw[im,cell_of_row w.drew g _ cur te (0,0) hg];simp only[Kd.sz,mf,ew,ee,List.getElem?_cons_zero] at this ⊢;rw[this];congr 2;have:(cw (xs[j]).toNat).toNat=(xs[j]).toNat:=by simp[UInt8.toNat_ofNat'];omega
       rw[this];omega)
      rw[du] at hUS;refine(hS b u _ xs.length cap _ _ w _ hh hSD hUS).mono ?_;rintro e w' ⟨rfl,rfl⟩;refine fin _ _ rfl (λq hq=>?_) ?_ ?_ ?_ ?_
      ·have hne:q≠g:=λe=>hq (by subst e;rw[hv];exact uG (by omega));simp only[uo];split;·rfl
       ·simp only[md];rw[if_neg (λe=>hne e.symm)];rfl
      ·simp only[uo];split;·rfl
       ·simp only[Array.size_modify];rfl
      all_goals (simp only[uo];split<;>rfl)
theorem A6S {ρ:ni} (L:xc P ρ):FS P (ρ.f 5) 1 [.c (.h 0)] [(0,.map l)] (some l) (λ_=>.c (.h 1)) λr=>[(0,.map l),(1,.map r)]:=by
 intro r hr G σ w vs hsat hargs;cases hr;obtain⟨b,hs,hM⟩:∃b,σ 0=.map (some b)/\uN w b l:=hsat.ent (0,.map l) (by simp);match vs,hargs with
 | [v0],⟨a0,_⟩ =>
   have a0':v0=.map (some b):=(show v0=hd (σ 0) from a0).trans (by rw[hs];rfl);subst a0';have hM':=hM;obtain⟨es,clock,hb,hrest⟩:=hM';refine(vz L b es clock w hb).mono ?_;rintro e w' ⟨rfl,rfl⟩;have hE:tM (cx 0 G σ [(0,.map l)] w 1) σ [(0,.map l)] w [] {tmps:=#[],defers:=[]}:=⟨λt sv hh=>by simp[tJ] at hh,rfl,rfl⟩;have hal:=xA (w':=w.alloc (.map es clock)) hsat hE (m:=1) (by simp[tY,Ent.has]) (.map l) (.map (some w.heap.size)) (λq hq=>uH w _ _ hq) (by simp) rfl rfl rfl (λq hq=>by cases hq;exact bp _)
    (λ_ _=>⟨w.heap.size,tQ _ _ _,es,clock,heap_alloc_new w _,hrest⟩)
   refine⟨_,_,rfl,hal.1.sub (λp hp=>?_) (by simp),?_,λn hn=>tT (by omega)⟩
   ·simp only[bv,gu,or_false] at hp ⊢;exact hp.symm
   ·show _=hd (upd σ 1 _ 1);rw[tQ];rfl
theorem A3W {w:World} (h:tK C σ [(0,.sets ls none)] w) (hi:i<ls.length):∃b,cmp (σ 0) i=.map (some b)/\uN w b (ls.getD i []):=by
 obtain⟨A,cap,vs,hv,_,hl,hm,_,_⟩:uO w σ (σ 0) ls none:=h.ent (0,.sets ls none) (by simp);obtain⟨b,h1,h2⟩:=hm i hi;refine⟨b,?_,?_⟩
 ·rw[hv];simp only[cmp,tl,kw,bu,h1];rfl
 ·rw[bu,bj hi];exact h2
theorem A6R {ρ:ni} (L:xc P ρ):FS P (ρ.f 5) 1 [.c (.elm 0 i)] [(0,.sets ls none)] (if i<ls.length then some (ls.getD i []) else none) (λ_=>.c (.h 1)) λr=>[(0,.sets ls none),(1,.map r)]:=by
 intro r hr G σ w vs hsat hargs;obtain⟨hi,hr⟩:=vV hr;cases hr;obtain⟨b,hs,hM⟩:=A3W hsat hi;match vs,hargs with
 | [v0],⟨a0,_⟩ =>
   have a0':v0=.map (some b):=(show v0=cmp (σ 0) i from a0).trans hs;subst a0';have hM':=hM;obtain⟨es,clock,hb,hrest⟩:=hM';refine(vz L b es clock w hb).mono ?_;rintro e w' ⟨rfl,rfl⟩;have hE:tM (cx 0 G σ [(0,.sets ls none)] w 1) σ [(0,.sets ls none)] w [] {tmps:=#[],defers:=[]}:=⟨λt sv hh=>by simp[tJ] at hh,rfl,rfl⟩;have hal:=xA (w':=w.alloc (.map es clock)) hsat hE (m:=1) (by simp[tY,Ent.has]) (.map (ls.getD i [])) (.map (some w.heap.size)) (λq hq=>uH w _ _ hq) (by simp) rfl rfl rfl (λq hq=>by cases hq;exact bp _)
    (λ_ _=>⟨w.heap.size,tQ _ _ _,es,clock,heap_alloc_new w _,hrest⟩)
   refine⟨_,_,rfl,hal.1.sub (λp hp=>?_) (by simp),?_,λn hn=>tT (by omega)⟩
   ·simp only[bv,gu,or_false] at hp ⊢;exact hp.symm
   ·show _=hd (upd σ 1 _ 1);rw[tQ];rfl
end
section
open Go Go.Proofs Go.RowKit Go.Maps Go.WideShapes
open Go.WideElems (Fit rd rg)
theorem A6P {P:Program} {w:World} {b:Nat} {k:TypeId} (hk:P.underlying k=some (.int .i64)) (hM:uN w b l) (hlen:l.length<=maxLen) :
 ∃D0:DataW Unit,w.ownsMap P k (λ_=>some (.nil,[])) b l.length D0/\(intKeys D0).Perm l/\tc D0=l.length:=by
 have hbd:∀n∈l,-9223372036854775808<=n/\n<=9223372036854775807:=by obtain⟨_,_,_,_,_,_,_,h⟩:=hM;exact h
 obtain⟨es,clock,hb,hs,h1,hp⟩:=A1x hM;have hsz:es.size=l.length:=by have:=hp.length_eq;simpa using this
 have hrd:∀x∈es.toList,rd P k (λ_=>some ((Cj:DataW Unit),[])) x=some (Bj .i64 (A03 x.key),Cj):=by intro x hx;obtain⟨n,hkey,_,hn⟩:=h1 x hx;have hw:(Bj .i64 n).wf=true:=WalkArith.wf_i64 (hbd n hn);simp[rd,keyOf,hk,hkey,mapKey,hw,A03]
 have F:Fit P k (λ_=>some ((.nil:DataW Unit),[])) es clock:=⟨by omega,hs,λx hx=>⟨_,hrd x hx⟩⟩;have hperm:(intKeys (.map ((es.toList.map (rg P k λ_=>some ((.nil:DataW Unit),[]))).foldr DataW.insert []))).Perm l:=by simp only[intKeys];refine((sorted_perm _).map _).trans ?_;rw[List.map_map];refine List.Perm.trans (List.Perm.of_eq (List.map_congr_left λx hx=>?_)) hp;simp[rg,hrd x hx,intOf]
 refine⟨_,⟨es,clock,hb,F,by omega,rfl⟩,hperm,?_⟩;have:=hperm.length_eq;simpa[intKeys,tc] using this
theorem A6z {ss:List Int} (h:ss.Perm l) (hl:l.Pairwise (·< ·)):ss.mergeSort (λx y=>decide (x<=y))=l:=by rw[show ss.mergeSort (λx y=>decide (x<=y))=l.mergeSort (λx y=>decide (x<=y)) from mergeSort_of_perm_i h];exact List.mergeSort_of_pairwise (hl.imp λh=>by simp;omega)
section
variable {P:Program} {ρ:ni}
theorem A3q {H:tG} {w:World} (h:C.N=0):tM C σ H w [] {tmps:=#[],defers:=[]}:=⟨λt sv hh=>by simp[tJ] at hh,h.symm,rfl⟩
theorem A6G (L:SlLaysZI.n7 P ρ):FS P (ρ.f 7) 1 [.c (.elm 0 i)] [(0,.sets ls none)] (if i<ls.length then some () else none) (λ_=>.c (.clo (ρ.f 10) [1])) λ_=>[(0,.sets ls none),(1,.box [.elm 0 i])]:=by
 intro r hr G σ w vs hsat hargs;obtain⟨hi,hr⟩:=vV hr;obtain⟨b,hs,hM⟩:=A3W hsat hi;match vs,hargs with
 | [v0],⟨a0,_⟩ =>
   have a0':v0=.map (some b):=(show v0=cmp (σ 0) i from a0).trans hs;subst a0';refine((callsIn_wide (n:=1)).1 (AnyZI.keys_in L Fence.wide 1 trivial rfl (some b) w)).mono ?_;rintro e w' ⟨rfl,rfl⟩;have hal:=xA (w':=w.alloc (.cells #[.map (some b)] (ρ.t 23))) hsat (A3q rfl) (m:=1) (by simp[tY,Ent.has]) (.box [.elm 0 i]) (.pointer (some ⟨w.heap.size,0,none⟩)) (λq hq=>uH w _ _ hq) (by simp) rfl rfl rfl (λq hq=>by cases hq;exact bp _)
    (λ_ _=>⟨w.heap.size,#[.map (some b)],ρ.t 23,.inl (tQ _ _ _),heap_alloc_new w _,by refine⟨?_,trivial⟩;show _=cmp (upd σ 1 _ 0) i;rw[tT (by decide)];exact hs.symm⟩)
   refine⟨_,_,rfl,hal.1.sub (λp hp=>?_) (by simp),?_,λn hn=>tT (by omega)⟩
   ·simp only[bv,gu,or_false] at hp ⊢;exact hp.symm
   ·show _=Value.func (.func (ρ.f 10)) #[] #[hd (upd σ 1 _ 1)];rw[tQ];rfl
theorem A6y {g:FuncId} {k:TypeId} (hk:P.underlying k=some (.int .i64))
 (hS:∀(m b:Nat) (l:List Int) (w:World) (D0:DataW Unit),w.cell? ⟨m,0,none⟩=some (.map (some b))->m<w.heap.size->w.ownsMap P k (λ_=>some (.nil,[])) b l.length D0->tc D0=l.length->l.length<=maxLen->l.length*8<=140737488355328->
  Calls P f #[.func (.func g) #[] #[.pointer (some ⟨m,0,none⟩)]] w λe w'=>∃(v:Value) (ss:List Int),e=.returned v/\ss.Perm (intKeys D0)/\
   w'.ownsRow w.heap.size k 1 v ss.length ((ss.mergeSort (λx y=>decide (x<=y))).map encZ)/\(v=.slice none 0 0↔ss=[])/\Below w.heap.size w w')
:FS P f 2 [.c (.clo g [0])] [(0,.box [.elm 1 i]),(1,.sets ls none)] (if i<ls.length/\bg (ls.getD i [])*8<=140737488355328 then some (ls.getD i []) else none) (λ_=>.c (.h 2)) λr=>[(0,.box [.elm 1 i]),(1,.sets ls none),(2,.row (.int .i64) r)]:=by
 intro r hr G σ w vs hsat hargs;obtain⟨⟨hi,hby⟩,hr⟩:=vV hr;cases hr;obtain⟨m,c,e,hB,hh,hc⟩:∃b c e,uU (σ 0) b e/\w.heap[b]? =some (.cells c e (0,0))/\CVs (Ow G [(0,.box [.elm 1 i]),(1,.sets ls none)] σ) w σ [.elm 1 i] c.toList:=hsat.ent (0,.box [.elm 1 i]) (by simp);have hsets:uO w σ (σ 1) ls none:=hsat.ent (1,.sets ls none) (by simp);obtain⟨A,cap,us,hv,_,hl,hm,_,_⟩:=hsets;obtain⟨b,h1,hM⟩:=hm i hi;have hcm:cmp (σ 1) i=.map (some b):=by rw[hv];simp only[cmp,tl,kw,bu,h1];rfl
 have hli:ls.getD i []=ls[i]:=by rw[bu,bj hi];rfl
 rw[hli] at hby ⊢;have hcell:w.cell? ⟨m,0,none⟩=some (.map (some b)):=by
  rw[cell_of_row w m _ c e (0,0) hh];have hlen:=vH hc;match hq:c.toList,hlen,hc with
  | [u0],_,hc =>
    have:u0=.map (some b):=hc.1.trans hcm;rw[<-ig,hq,this];rfl
 have hmax:ls[i].length<=maxLen:=by unfold maxLen;omega
 obtain⟨D0,hown,hperm,hsz⟩:=A6P hk hM hmax;match vs,hargs with
 | [v0],⟨a0,_⟩ =>
   have a0':v0=.func (.func g) #[] #[.pointer (some ⟨m,0,none⟩)]:=by have:v0=.func (.func g) #[] ([0].map λn=>hd (σ n)).toArray:=a0;rw[this];simp[hB.hd]
   subst a0';refine(hS m b ls[i] w D0 hcell (dg.1 hh).1 hown hsz hmax hby).mono ?_;rintro e' w' ⟨v,ss,rfl,hss,hrow,hnil,hbel⟩;have hlt:ls[i].Pairwise (·< ·):=by obtain⟨_,_,_,_,_,_,h,_⟩:=hM;exact h
   have hso:=A6z (hss.trans hperm) hlt;have hsl:ss.length=ls[i].length:=(hss.trans hperm).length_eq;rw[hso,hsl] at hrow;have hal:=xA (w':=w') hsat (A3q rfl) (m:=2) (by simp[tY,Ent.has,CV.has]) (.row (.int .i64) ls[i]) v (λq hq=>hbel.block q hq) hbel.size hbel.os hbel.tape hbel.output
    (λq hq=>by
     rcases hrow.2 with⟨rfl,_⟩|⟨g',cap',cur,rfl,hge,_⟩;·cases hq
     ·simp only[Bk,blk] at hq;split at hq;·cases hq
      ·cases hq;exact hge)
    (λ_ _=>by
     show tV _ _ (.int .i64) ls[i] (upd σ 2 v 2);rw[tQ];rcases hrow.2 with⟨rfl,hz⟩|⟨g',cap',cur,rfl,hge,hg,hle,hcm',hcs,htk⟩;·exact⟨none,0,by rw[hz],.inl ⟨rfl,bx hz⟩⟩
     ·refine⟨_,cap',rfl,?_⟩;by_cases h0:cap'=0;·exact .inl ⟨h0,bx (by omega)⟩
      ·refine .inr ⟨⟨by omega,by unfold maxLen at hcm';omega⟩,hle,g',0,cur,k,rfl,hg,by simp only[Kd.sz];omega,λj hj=>⟨[.int .i64 ls[i][j]],rfl,λq hq=>?_⟩⟩;have hq0:q=0:=by simp only[Kd.sz] at hq;omega
       subst hq0;have:(cur.toList.take (ls[i].length*1))[j]? =some (.int .i64 ls[i][j]):=by rw[htk];simp[encZ,hj]
       rw[gv] at this;rw[if_pos (by omega)] at this;simpa[Kd.sz] using this)
   refine⟨v,_,rfl,hal.1.sub (λp hp=>?_) (by simp),?_,λn hn=>tT (by omega)⟩
   ·simp only[bv,gu,or_false] at hp ⊢;rcases hp with h|h|h;·exact .inr (.inl h)
    ·exact .inr (.inr h)
    ·exact .inl h
   ·show v=hd (upd σ 2 v 2);rw[tQ];rcases hrow.2 with⟨rfl,_⟩|⟨_,_,_,rfl,_⟩<;>rfl
end
end
end Go.Pal
