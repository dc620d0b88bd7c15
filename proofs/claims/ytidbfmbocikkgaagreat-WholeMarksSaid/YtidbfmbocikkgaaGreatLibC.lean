/- A walk through code on symbolic values, part 3 of 3: what is shown of every program, no statement of this one. -/
import Derived.Test.YtidbfmbocikkgaaGreatLibB
set_option linter.unusedVariables false
set_option linter.unusedSimpArgs false
set_option linter.unnecessarySimpa false
namespace Go.Pal
open Go
structure SA where
 s:St
 c:List Prop
 e1:List (List SV×List SV)
 e2:List (List Heap×List Heap)
def putΓ (o:Oper) (v:SV) (Γ:Env):Env:=
 match o.dst with
 | some d => (d,v) :: Γ
 | none => Γ
def seqAll (P:Program) (N:Nat) (calls:List (Nat×CallI)) (kn:List (Nat×Bool)) (all:Array Oper):Nat→Nat→List Oper→St→Option SA
 | 0,_,_,s => some ⟨s,[],[],[]⟩
 | _+1,_,[],s => some ⟨s,[],[],[]⟩
 | n+1,i,o :: os,s => match stepD P calls kn all s.Γ s.H s.nx i o with
    | some d => if dstLt N o=true ∧ (d.ν.all fun n => s.Γ.all fun p => !p.2.has n)=true then
     match seqAll P N calls kn all n (i+1) os ⟨putΓ o d.v (mapΓ d.f s.Γ),d.H,d.nx⟩ with
     | some r => some ⟨r.s,d.c ++ r.c,(d.sl,d.sr) :: r.e1,(d.hl,d.hr) :: r.e2⟩
     | none => none
     else none
    | none => none
section
variable {P:Program}
theorem Env_putΓ {C:FC} {σ:Nat→Value} {H:Heap} {w:World} {Γ:Env} {a:Act} {o:Oper} {sv:SV} {u:Value} (hE:EnvR C σ H w Γ a) (hv:SVr (Ow C.G H σ) w σ sv u) (hd:dstLt C.N o=true):EnvR C σ H w (putΓ o sv Γ) (a.put o.dst u):=by
 unfold putΓ
 unfold dstLt at hd
 cases h:o.dst with
 | none => exact hE
 | some d =>
   rw [h] at hd
   exact hE.put (of_decide_eq_true hd) hv
theorem seqAll_sound {C:FC} {calls:List (Nat×CallI)} {kn:List (Nat×Bool)} {all:Array Oper} {Q:Exit→Act→World→Prop} (hcalls:∀ p∈calls,Spec P p.2.f p.2.m0 p.2.args0 p.2.H0 p.2.res0 p.2.H1∧callable P p.2.f=true) :
 ∀ {n i:Nat} {os:List Oper} {s:St} {r:SA},seqAll P C.N calls kn all n i os s=some r→C.n0≤s.nx→allP r.c→(∀ p∈r.e1,p.1=p.2)→(∀ p∈r.e2,p.1=p.2)→
   VO P C all (os.drop n) Q r.s.Γ r.s.H→VO P C all os Q s.Γ s.H
 | 0,i,os,s,r,h,_,_,_,_,hr => by cases h; exact hr
 | n+1,i,[],s,r,h,_,_,_,_,hr => by cases h; exact hr
 | n+1,i,o :: os,s,r,h,hn,hc,h1,h2,hr => by
   unfold seqAll at h
   split at h
   ·rename_i d hd
    split at h
    ·rename_i hcond
     split at h
     ·rename_i r1 hr1
      cases h
      rw [allP_append] at hc
      obtain ⟨htri,hle⟩:=stepD_soundF (C:=C) hcalls hd hn hc.1 (h1 (d.sl,d.sr) (by simp)) (h2 (d.hl,d.hr) (by simp))
      have ih:=seqAll_sound (Q:=Q) hcalls hr1 (Nat.le_trans hn hle) hc.2 (fun p hp=>h1 p (by simp [hp])) (fun p hp=>h2 p (by simp [hp])) hr
      intro a w hs
      obtain ⟨σ,hσ,hE,hp⟩:=hs
      unfold wpList
      rcases htri σ a w hσ hE hp with ⟨hw,hv,hH,hid⟩ | ⟨hw,hgo⟩
      ·rw [if_neg (by rw [hw]; simp)]
       refine ih _ _ ⟨σ,by simp only [hH]; exact hσ,?_,hp⟩
       simp only [hH]
       exact Env_putΓ (EnvR_map hE (by rw [hid]; exact fun _ _ h=>h)) (by rw [hv]; rfl) hcond.1
      ·rw [if_pos hw]
       refine .inl (hgo _ _ fun u w' σ' g1 g2 g3 g4 g5 g6 g7=>ih _ _ ⟨σ',g1,?_,g6⟩)
       refine Env_putΓ (EnvR_map (hE.step g3 g4 fun t sv hl m hm=>g5 m fun hν=>?_) g7) g2 hcond.1
       have:=List.all_eq_true.1 hcond.2 m hν
       have:=List.all_eq_true.1 this _ (look_mem hl)
       simp only [hm] at this
       cases this
     ·cases h
    ·cases h
   ·cases h
theorem no_none {α:Type} {x:α} (h:none=some x):False:=by cases h
end
end Go.Pal
namespace Go.Pal
open Go
theorem ap1 {p:Prop} (h:p):allP [p]:=h
theorem ap2 {p q:Prop} {ps:List Prop} (h:p) (h':allP (q :: ps)):allP (p :: q :: ps):=⟨h,h'⟩
section
variable {P:Program}
def QG (K:Act→World→Prop) (Q:Exit→Act→World→Prop):Exit→Act→World→Prop
 | .normal,a,w => K a w
 | .goto _,_,_ => False
 | e,a,w => Q e a w
theorem VL_scope {C:FC} {Γ:Env} {H:Heap} {c:Code} {cs:List Code} {Q:Exit→Act→World→Prop} (h:VL P C [c] (QG (wpL P cs Q) Q) Γ H):VL P C (.scope c :: cs) Q Γ H:=by
 intro a w hs
 refine wp_scope_straight (Code.wp_mono ?_ (h a w hs))
 intro e a w he
 cases e <;> exact he
theorem VL_label {C:FC} {Γ:Env} {H:Heap} {l:Nat} {cs:List Code} {Q:Exit→Act→World→Prop} (h:VL P C cs Q Γ H):VL P C (.label l :: cs) Q Γ H:=fun a w hs=>wp_label (h a w hs)
theorem QG_end {C:FC} {Γ:Env} {H:Heap} {cs:List Code} {Q:Exit→Act→World→Prop} (h:VL P C cs Q Γ H):Post C (QG (wpL P cs Q) Q) .normal Γ H:=h
theorem QG_exit {C:FC} {Γ:Env} {H:Heap} {i:Nat} {K:Act→World→Prop} {Q:Exit→Act→World→Prop} (h:Post C Q (.exit i) Γ H):Post C (QG K Q) (.exit i) Γ H:=h
end
abbrev kP:Kd:=.pair (.int .i64) (.int .i64)
abbrev kE:Kd:=.pair (.int .i64) (.pair (.int .i64) .str)
abbrev kS:Kd:=.pair (.int .i64) (.pair (.int .i64) (.int .i64))
abbrev zP:Int×Int:=(0,0)
abbrev zE:Int×(Int×ByteArray):=(0,(0,ByteArray.empty))
abbrev zS:Int×(Int×Int):=(0,(0,0))
abbrev w6 (n:Int):Int:=IntKind.wrap .i64 n
abbrev cI (n:Int):SV:=.c (.val (.int .i64 n))
abbrev cB (b:Bool):SV:=.c (.val (.bool b))
abbrev cS (s:ByteArray):SV:=.c (.val (.string s))
abbrev lnI {α:Type} (l:List α):Int:=((List.length l:Nat):Int)
end Go.Pal
namespace Go.Pal
open Go
abbrev Qf (R:Type):=FC→R→Exit→Act→World→Prop
inductive Fm where
 | blk (id:Nat) (rest:List Code)
 | scp (rest:List Code)
structure MS where
 cs:List Code
 fs:List Fm
 s:St
def popTo (i:Nat):List Fm→Option (List Code×List Fm)
 | [] => none
 | .blk id rest :: fs => if i=id then some (rest,fs) else popTo i fs
 | .scp _ :: fs => popTo i fs
section
variable {P:Program}
def QX (P:Program) (Q:Exit→Act→World→Prop):List Fm→Exit→Act→World→Prop
 | [] => Q
 | .blk id rest :: fs => QB id (wpL P rest (QX P Q fs)) (QX P Q fs)
 | .scp rest :: fs => QG (wpL P rest (QX P Q fs)) (QX P Q fs)
theorem QX_ret {Q:Exit→Act→World→Prop} {a:Act} {w:World} {fs:List Fm} (h:Q .ret a w):QX P Q fs .ret a w:=by
 induction fs with
 | nil => exact h
 | cons f fs ih => cases f <;> exact ih
theorem QX_exit {C:FC} {Q:Exit→Act→World→Prop} {Γ:Env} {H:Heap} {i:Nat} {rest:List Code} {fs':List Fm}:∀ {fs:List Fm},popTo i fs=some (rest,fs')→VL P C rest (QX P Q fs') Γ H→Post C (QX P Q fs) (.exit i) Γ H
 | [],h,_ => by cases h
 | .blk id r :: fs,h,hv => by
   simp only [popTo] at h
   split at h
   ·rename_i e; subst e; cases h; exact QB_here hv
   ·rename_i e; exact QB_out e (QX_exit h hv)
 | .scp _ :: fs,h,hv => QG_exit (QX_exit (fs := fs) (by simpa [popTo] using h) hv)
theorem QX_out {C:FC} {Q:Exit→Act→World→Prop} {Γ:Env} {H:Heap} {i:Nat}:∀ {fs:List Fm},popTo i fs=none→Post C Q (.exit i) Γ H→Post C (QX P Q fs) (.exit i) Γ H
 | [],_,h => h
 | .blk id r :: fs,h,hv => by
   simp only [popTo] at h
   split at h
   ·cases h
   ·rename_i e; exact QB_out e (QX_out h hv)
 | .scp _ :: fs,h,hv => QG_exit (QX_out (fs := fs) (by simpa [popTo] using h) hv)
def runM (P:Program) (N:Nat):Nat→MS→Option (MS×List Prop)
 | 0,m => some (m,[])
 | n+1,⟨[],.blk _ rest :: fs,s⟩ => runM P N n ⟨rest,fs,s⟩
 | n+1,⟨[],.scp rest :: fs,s⟩ => runM P N n ⟨rest,fs,s⟩
 | _+1,⟨[],[],_⟩ => none
 | n+1,⟨c :: cs,fs,s⟩ => match c with
    | .seq x y => runM P N n ⟨x :: y :: cs,fs,s⟩
    | .skip => runM P N n ⟨cs,fs,s⟩
    | .label _ => runM P N n ⟨cs,fs,s⟩
    | .region _ ops false => match runOps P N ops ops.size ops.toList s with
     | some (s',ps) => match runM P N n ⟨cs,fs,s'⟩ with
      | some (m',qs) => some (m',ps ++ qs)
      | none => none
     | none => none
    | .block id c => runM P N n ⟨[c],.blk id cs :: fs,s⟩
    | .scope c => runM P N n ⟨[c],.scp cs :: fs,s⟩
    | .exit i => match popTo i fs with
     | some (rest,fs') => runM P N n ⟨rest,fs',s⟩
     | none => none
    | .cond c x y => match evc s.Γ c with
     | some (.val (.bool true)) => runM P N n ⟨x :: cs,fs,s⟩
     | some (.val (.bool false)) => runM P N n ⟨y :: cs,fs,s⟩
     | _ => none
    | _ => none
theorem runM_sound {C:FC} {Q:Exit→Act→World→Prop}:∀ {n:Nat} {m m':MS} {ps:List Prop},runM P C.N n m=some (m',ps)→C.n0≤m.s.nx→allP ps→
 (VL P C m'.cs (QX P Q m'.fs) m'.s.Γ m'.s.H→VL P C m.cs (QX P Q m.fs) m.s.Γ m.s.H)∧m.s.nx≤m'.s.nx
 | 0,m,m',ps,h,_,_ => by cases h; exact ⟨fun h => h,Nat.le_refl _⟩
 | n+1,⟨[],.blk _ rest :: fs,s⟩,m',ps,h,hn,hp => by
   obtain ⟨h1,h2⟩:=runM_sound (n:=n) (m:=⟨rest,fs,s⟩) (Q:=Q) h hn hp
   exact ⟨fun hv=>VL_nil (QB_end (h1 hv)),h2⟩
 | n+1,⟨[],.scp rest :: fs,s⟩,m',ps,h,hn,hp => by
   obtain ⟨h1,h2⟩:=runM_sound (n:=n) (m:=⟨rest,fs,s⟩) (Q:=Q) h hn hp
   exact ⟨fun hv=>VL_nil (QG_end (h1 hv)),h2⟩
 | _+1,⟨[],[],_⟩,_,_,h,_,_ => by cases h
 | n+1,⟨c :: cs,fs,s⟩,m',ps,h,hn,hp => by
   simp only [runM] at h
   split at h
   ·obtain ⟨h1,h2⟩:=runM_sound (n:=n) (Q:=Q) h hn hp
    exact ⟨fun hv=>VL_seq (h1 hv),h2⟩
   ·obtain ⟨h1,h2⟩:=runM_sound (n:=n) (Q:=Q) h hn hp
    exact ⟨fun hv=>VL_skip (h1 hv),h2⟩
   ·obtain ⟨h1,h2⟩:=runM_sound (n:=n) (Q:=Q) h hn hp
    exact ⟨fun hv=>VL_label (h1 hv),h2⟩
   ·rename_i id ops
    split at h
    ·rename_i s' ps1 hr
     split at h
     ·rename_i m1 qs hm
      cases h
      rw [allP_append] at hp
      have hnx:s.nx≤s'.nx:=(runOps_sound (Q:=fun _ _ _=>True) hr hn hp.1).2
      obtain ⟨h1,h2⟩:=runM_sound (n:=n) (Q:=Q) hm (Nat.le_trans hn hnx) hp.2
      refine ⟨fun hv=>VL_region ?_,Nat.le_trans hnx h2⟩
      refine (runOps_sound hr hn hp.1).1 ?_
      have:ops.toList.drop ops.size=[]:=by simp
      rw [this]
      exact VO_nil (h1 hv)
     ·cases h
    ·cases h
   ·obtain ⟨h1,h2⟩:=runM_sound (n:=n) (Q:=Q) h hn hp
    exact ⟨fun hv=>VL_block (h1 hv),h2⟩
   ·obtain ⟨h1,h2⟩:=runM_sound (n:=n) (Q:=Q) h hn hp
    exact ⟨fun hv=>VL_scope (h1 hv),h2⟩
   ·split at h
    ·rename_i rest fs' hpop
     obtain ⟨h1,h2⟩:=runM_sound (n:=n) (Q:=Q) h hn hp
     exact ⟨fun hv=>VL_exit (QX_exit hpop (h1 hv)),h2⟩
    ·cases h
   ·split at h
    ·rename_i hb
     obtain ⟨h1,h2⟩:=runM_sound (n:=n) (Q:=Q) h hn hp
     exact ⟨fun hv=>VL_cond true hb (fun _=>h1 hv) (fun e=>by cases e),h2⟩
    ·rename_i hb
     obtain ⟨h1,h2⟩:=runM_sound (n:=n) (Q:=Q) h hn hp
     exact ⟨fun hv=>VL_cond false hb (fun e=>by cases e) (fun _=>h1 hv),h2⟩
    ·cases h
   ·cases h
structure J {R:Type} (P:Program) (N n0:Nat) (Q:Qf R) (m:MS) (x:Option R):Prop where
 run:n0≤m.s.nx→∀ C:FC,C.N=N→C.n0=n0→∀ r,x=some r→VL P C m.cs (QX P (Q C r) m.fs) m.s.Γ m.s.H
structure PJ {R:Type} (n0 N:Nat) (Q:Qf R) (e:Exit) (s:St) (x:Option R):Prop where
 run:n0≤s.nx→∀ C:FC,C.N=N→C.n0=n0→∀ r,x=some r→Post C (Q C r) e s.Γ s.H
def goM (P:Program) (N n:Nat) (m:MS):MS:=
 match runM P N n m with
 | some r => r.1
 | none => m
variable {R:Type} {N n0:Nat} {Q:Qf R} {m:MS}
theorem jn (n:Nat) (ps:List Prop) (hp:allP ps) {x:Option R} (h:(runM P N n m).map Prod.snd=some ps:=by kernel_rfl) (hr:J P N n0 Q (goM P N n m) x):J P N n0 Q m x:=by
 constructor
 intro hn C hN hn0 r hx
 subst hN hn0
 obtain ⟨⟨m',ps'⟩,hm,e⟩:=Option.map_eq_some_iff.1 h
 subst e
 have hgo:goM P C.N n m=m':=by simp only [goM,hm]
 rw [hgo] at hr
 obtain ⟨h1,h2⟩:=runM_sound (Q:=Q C r) hm hn hp
 exact h1 (hr.run (Nat.le_trans hn h2) C rfl rfl r hx)
theorem jm (n:Nat) {x:Option R} (h:(runM P N n m).map Prod.snd=some []:=by kernel_rfl) (hr:J P N n0 Q (goM P N n m) x):J P N n0 Q m x:=jn n [] trivial h hr
theorem ji (n:Nat) {p:Prop} [Decidable p] {x:Option R} (h:(runM P N n m).map (fun r=>allP r.2)=some p:=by kernel_rfl) (hr:p→J P N n0 Q (goM P N n m) x):J P N n0 Q m (if p then x else none):=by
 constructor
 intro hn C hN hn0 r hx
 obtain ⟨hp,hx'⟩:=of_if hx
 obtain ⟨⟨m',ps'⟩,hm,e⟩:=Option.map_eq_some_iff.1 h
 exact jn n ps' (by rw [show allP ps'=p from e]; exact hp) (by rw [hm]; rfl) (hr hp) |>.run hn C hN hn0 r hx'
theorem jp {p:Prop} [Decidable p] {x:Option R} (hr:p→J P N n0 Q m x):J P N n0 Q m (if p then x else none):=.mk fun hn C hN hn0 r hx=>(hr (of_if hx).1).run hn C hN hn0 r (of_if hx).2
theorem jb {A:Type} {y:Option A} {k:A→Option R} (hr:∀ z,y=some z→J P N n0 Q m (k z)):J P N n0 Q m (y.bind k):=.mk fun hn C hN hn0 r hx=>by
 obtain ⟨z,h1,h2⟩:=of_bind hx
 exact (hr z h1).run hn C hN hn0 r h2
theorem js {b:Bool} {x y:Option R} (h1:b=true→J P N n0 Q m x) (h2:b=false→J P N n0 Q m y):J P N n0 Q m (if b=true then x else y):=.mk fun hn C hN hn0 r hx=>by
 cases b with
 | true => exact (h1 rfl).run hn C hN hn0 r (by simpa using hx)
 | false => exact (h2 rfl).run hn C hN hn0 r (by simpa using hx)
theorem jd:J P N n0 Q m none:=.mk fun _ _ _ _ _ h=>by cases h
def cB0 (m:MS):Option Bool:=
 match m.cs with
 | .cond c _ _ :: _ => match evc m.s.Γ c with
  | some (.val (.bool b)) => some b
  | _ => none
 | _ => none
def cT (m:MS):MS:=
 match m.cs with
 | .cond _ x _ :: cs => ⟨x :: cs,m.fs,m.s⟩
 | _ => m
def cF (m:MS):MS:=
 match m.cs with
 | .cond _ _ y :: cs => ⟨y :: cs,m.fs,m.s⟩
 | _ => m
theorem cB0_some {m:MS} {b:Bool} (h:cB0 m=some b):∃ c x y cs,m.cs=.cond c x y :: cs∧evc m.s.Γ c=some (.val (.bool b)):=by
 unfold cB0 at h
 split at h
 ·rename_i c x y cs hm
  split at h
  ·rename_i b' he
   cases h
   exact ⟨c,x,y,cs,hm,he⟩
  ·cases h
 ·cases h
theorem jk {x:Option R} {b c:Bool} (hb:b=c) (h:cB0 m=some b:=by kernel_rfl) (hr:J P N n0 Q (if c=true then cT m else cF m) x):J P N n0 Q m x:=by
 constructor
 intro hn C hN hn0 r hx
 obtain ⟨o,u,v,cs,hm,he⟩:=cB0_some h
 rw [hm]
 refine VL_cond b he (fun e=>?_) (fun e=>?_)
 ·rw [if_pos (hb.symm.trans e)] at hr
  have hr:=hr.run (by simp only [cT,hm]; exact hn) C hN hn0 r hx
  simp only [cT,hm] at hr
  exact hr
 ·rw [if_neg (by rw [← hb,e]; simp)] at hr
  have hr:=hr.run (by simp only [cF,hm]; exact hn) C hN hn0 r hx
  simp only [cF,hm] at hr
  exact hr
theorem jc {b:Bool} {x y:Option R} (h:cB0 m=some b:=by kernel_rfl) (h1:b=true→J P N n0 Q (cT m) x) (h2:b=false→J P N n0 Q (cF m) y):J P N n0 Q m (if b=true then x else y):=
 js (fun hb=>jk hb h (by rw [if_pos rfl]; exact h1 hb)) (fun hb=>jk hb h (by rw [if_neg (by simp)]; exact h2 hb))
theorem jy {x y:Option R} (e:x=y) (hr:J P N n0 Q m y):J P N n0 Q m x:=e▸hr
def ghM (gs:List Gh) (m:MS):MS:=
 match ghosts gs m.s with
 | some s => ⟨m.cs,m.fs,s⟩
 | none => m
theorem ghosts_nx:∀ {gs:List Gh} {s s':St},ghosts gs s=some s'→s.nx≤s'.nx
 | [],_,_,h => by cases h; exact Nat.le_refl _
 | g :: gs,s,s',h => by
   simp only [ghosts] at h
   split at h
   ·rename_i s1 h1
    exact Nat.le_trans (ghost_nx h1) (ghosts_nx h)
   ·cases h
theorem jg (gs:List Gh) {x:Option R} (hr:J P N n0 Q (ghM gs m) x):J P N n0 Q m x:=by
 constructor
 intro hn C hN hn0 r hx
 unfold ghM at hr
 split at hr
 ·rename_i s hs
  have:=ghosts_nx hs
  refine VL_ghost gs m.s.nx s (by cases m; cases ‹St›; exact hs) (by omega) ?_
  exact hr.run (by show n0≤s.nx; omega) C hN hn0 r hx
 ·exact hr.run hn C hN hn0 r hx
def itM (n:Nat) (b:Bool) (m:MS):MS:=
 match look m.s.H n with
 | some (.it t pos _) => ⟨m.cs,m.fs,⟨m.s.Γ,(n,.it t pos (some b)) :: eraseH m.s.H n,m.s.nx⟩⟩
 | _ => m
def itB (n:Nat) (m:MS):Option Bool:=
 match look m.s.H n with
 | some (.it t pos _) => some (decide (pos<t.size))
 | _ => none
theorem jit (n:Nat) {b c:Bool} {x:Option R} (hb:b=c) (h:itB n m=some b:=by kernel_rfl) (hr:J P N n0 Q (itM n c m) x):J P N n0 Q m x:=by
 constructor
 intro hn C hN hn0 r hx
 unfold itB at h
 unfold itM at hr
 split at h
 ·rename_i t pos k hl
  rw [hl] at hr
  cases h
  exact VL_iter n c hb hl (hr.run hn C hN hn0 r hx)
 ·cases h
structure CP (P:Program) where
 i:Nat
 c:CallI
 h:Spec P c.f c.m0 c.args0 c.H0 c.res0 c.H1
def cp (i:Nat) {f:FuncId} {m0:Nat} {args:List SV} {H:Heap} {res:SV} {H':Heap} (h:Spec P f m0 args H res H') (ρ:List (Nat×Nat)) (nx:Nat):CP P:=⟨i,⟨f,m0,args,H,res,H',ρ,nx⟩,h⟩
def cpL (l:List (CP P)):List (Nat×CallI):=l.map fun c=>(c.i,c.c)
theorem cpL_sound {l:List (CP P)} (h:(l.all fun c=>callable P c.c.f)=true):∀ p∈cpL l,Spec P p.2.f p.2.m0 p.2.args0 p.2.H0 p.2.res0 p.2.H1∧callable P p.2.f=true:=by
 intro p hp
 obtain ⟨c,hc,rfl⟩:=List.mem_map.1 hp
 exact ⟨c.h,List.all_eq_true.1 h c hc⟩
def regA (P:Program) (N:Nat) (l:List (CP P)) (kn:List (Nat×Bool)) (m:MS):Option SA:=
 match m.cs with
 | .region _ ops false :: _ => seqAll P N (cpL l) kn ops ops.size 0 ops.toList m.s
 | _ => none
def regM (P:Program) (N:Nat) (l:List (CP P)) (kn:List (Nat×Bool)) (m:MS):MS:=
 match regA P N l kn m with
 | some r => ⟨m.cs.tail,m.fs,r.s⟩
 | none => m
theorem seqAll_nx {calls:List (Nat×CallI)} {kn:List (Nat×Bool)} {all:Array Oper}:∀ {n i:Nat} {os:List Oper} {s:St} {r:SA},seqAll P N calls kn all n i os s=some r→s.nx≤r.s.nx
 | 0,_,_,_,_,h => by cases h; exact Nat.le_refl _
 | _+1,_,[],_,_,h => by cases h; exact Nat.le_refl _
 | n+1,i,o :: os,s,r,h => by
   unfold seqAll at h
   split at h
   ·rename_i d hd
    split at h
    ·split at h
     ·rename_i r1 hr1
      cases h
      exact Nat.le_trans (stepD_nx hd) (seqAll_nx hr1)
     ·cases h
    ·cases h
   ·cases h
theorem map_fst_snd {α:Type} {l:List (α×α)} (h:l.map Prod.fst=l.map Prod.snd):∀ p∈l,p.1=p.2:=map_eq_mem h
theorem jr (l:List (CP P)) (kn:List (Nat×Bool)) (ps:List Prop) (hp:allP ps) {x:Option R}
 (hc:(l.all fun c=>callable P c.c.f)=true:=by kernel_rfl)
 (h:(regA P N l kn m).map (fun d=>(d.c,d.e1.map Prod.fst,d.e2.map Prod.fst))=(regA P N l kn m).bind (fun d=>some (ps,d.e1.map Prod.snd,d.e2.map Prod.snd)):=by kernel_rfl)
 (h0:(regA P N l kn m).isSome=true:=by kernel_rfl) (hr:J P N n0 Q (regM P N l kn m) x):J P N n0 Q m x:=by
 constructor
 intro hn C hN hn0 r hx
 subst hN hn0
 obtain ⟨d,hd⟩:=Option.isSome_iff_exists.1 h0
 rw [hd] at h
 simp only [Option.map_some,Option.bind_some,Option.some.injEq,Prod.mk.injEq] at h
 obtain ⟨rfl,h1,h2⟩:=h
 have hM:regM P C.N l kn m=⟨m.cs.tail,m.fs,d.s⟩:=by simp only [regM,hd]
 rw [hM] at hr
 unfold regA at hd
 split at hd
 ·rename_i id ops cs hm
  rw [hm]
  refine VL_region ?_
  have hnx:=seqAll_nx hd
  refine seqAll_sound (cpL_sound hc) hd hn hp (map_fst_snd h1) (map_fst_snd h2) ?_
  have:ops.toList.drop ops.size=[]:=by simp
  rw [this]
  have hr:=hr.run (by show C.n0≤d.s.nx; omega) C rfl rfl r hx
  rw [hm] at hr
  exact VO_nil hr
 ·cases hd
theorem jr0 (l:List (CP P)) {x:Option R}
 (hc:(l.all fun c=>callable P c.c.f)=true:=by kernel_rfl)
 (h:(regA P N l [] m).map (fun d=>(d.c,d.e1.map Prod.fst,d.e2.map Prod.fst))=(regA P N l [] m).bind (fun d=>some ([],d.e1.map Prod.snd,d.e2.map Prod.snd)):=by kernel_rfl)
 (h0:(regA P N l [] m).isSome=true:=by kernel_rfl) (hr:J P N n0 Q (regM P N l [] m) x):J P N n0 Q m x:=jr l [] [] trivial hc h h0 hr
theorem jri (l:List (CP P)) (kn:List (Nat×Bool)) {p:Prop} [Decidable p] {x:Option R}
 (hc:(l.all fun c=>callable P c.c.f)=true:=by kernel_rfl)
 (h:(regA P N l kn m).map (fun d=>(allP d.c,d.e1.map Prod.fst,d.e2.map Prod.fst))=(regA P N l kn m).bind (fun d=>some (p,d.e1.map Prod.snd,d.e2.map Prod.snd)):=by kernel_rfl)
 (h0:(regA P N l kn m).isSome=true:=by kernel_rfl) (hr:p→J P N n0 Q (regM P N l kn m) x):J P N n0 Q m (if p then x else none):=by
 constructor
 intro hn C hN hn0 r hx
 obtain ⟨hp,hx'⟩:=of_if hx
 obtain ⟨d,hd⟩:=Option.isSome_iff_exists.1 h0
 rw [hd] at h
 simp only [Option.map_some,Option.bind_some,Option.some.injEq,Prod.mk.injEq] at h
 exact jr l kn d.c (h.1▸hp) hc (by rw [hd]; simp only [Option.map_some,Option.bind_some,Option.some.injEq,Prod.mk.injEq]; exact ⟨trivial,h.2.1,h.2.2⟩) h0 (hr hp) |>.run hn C hN hn0 r hx'
def drwA (P:Program) (N:Nat) (l:List (CP P)) (kn:List (Nat×Bool)) (m:MS):Option DA:=
 match m.cs with
 | .region _ ops true :: _ => drawAll P N (cpL l) kn ops m.s.Γ m.s.H m.s.nx
 | _ => none
def drwM (P:Program) (N:Nat) (l:List (CP P)) (kn:List (Nat×Bool)) (m:MS):MS:=
 match drwA P N l kn m with
 | some r => ⟨m.cs.tail,m.fs,r.s⟩
 | none => m
theorem jw (l:List (CP P)) (kn:List (Nat×Bool)) (ps:List Prop) (hp:allP ps) {x:Option R} (hmx:P.follows .mixedOrders=true:=by kernel_rfl)
 (hc:(l.all fun c=>callable P c.c.f)=true:=by kernel_rfl)
 (h:(drwA P N l kn m).map (fun d=>(d.c,d.e1.map Prod.fst,d.e2.map Prod.fst))=(drwA P N l kn m).bind (fun d=>some (ps,d.e1.map Prod.snd,d.e2.map Prod.snd)):=by kernel_rfl)
 (h0:(drwA P N l kn m).map (fun d=>decide (m.s.nx≤d.s.nx))=some true:=by kernel_rfl) (hr:J P N n0 Q (drwM P N l kn m) x):J P N n0 Q m x:=by
 constructor
 intro hn C hN hn0 r hx
 subst hN hn0
 obtain ⟨d,hd,hnx⟩:=Option.map_eq_some_iff.1 h0
 have hnx:=of_decide_eq_true hnx
 rw [hd] at h
 simp only [Option.map_some,Option.bind_some,Option.some.injEq,Prod.mk.injEq] at h
 obtain ⟨rfl,h1,h2⟩:=h
 have hM:drwM P C.N l kn m=⟨m.cs.tail,m.fs,d.s⟩:=by simp only [drwM,hd]
 rw [hM] at hr
 unfold drwA at hd
 split at hd
 ·rename_i id ops cs hm
  rw [hm]
  have hr:=hr.run (by show C.n0≤d.s.nx; omega) C rfl rfl r hx
  rw [hm] at hr
  exact VL_draw hmx (cpL l) kn (cpL_sound hc) m.s.nx d hd hn hp h1 h2 hr
 ·cases hd
theorem jw0 (l:List (CP P)) {x:Option R} (hmx:P.follows .mixedOrders=true:=by kernel_rfl)
 (hc:(l.all fun c=>callable P c.c.f)=true:=by kernel_rfl)
 (h:(drwA P N l [] m).map (fun d=>(d.c,d.e1.map Prod.fst,d.e2.map Prod.fst))=(drwA P N l [] m).bind (fun d=>some ([],d.e1.map Prod.snd,d.e2.map Prod.snd)):=by kernel_rfl)
 (h0:(drwA P N l [] m).map (fun d=>decide (m.s.nx≤d.s.nx))=some true:=by kernel_rfl) (hr:J P N n0 Q (drwM P N l [] m) x):J P N n0 Q m x:=jw l [] [] trivial hmx hc h h0 hr
theorem jwi (l:List (CP P)) (kn:List (Nat×Bool)) {p:Prop} [Decidable p] {x:Option R} (hmx:P.follows .mixedOrders=true:=by kernel_rfl)
 (hc:(l.all fun c=>callable P c.c.f)=true:=by kernel_rfl)
 (h:(drwA P N l kn m).map (fun d=>(allP d.c,d.e1.map Prod.fst,d.e2.map Prod.fst))=(drwA P N l kn m).bind (fun d=>some (p,d.e1.map Prod.snd,d.e2.map Prod.snd)):=by kernel_rfl)
 (h0:(drwA P N l kn m).map (fun d=>decide (m.s.nx≤d.s.nx))=some true:=by kernel_rfl) (hr:p→J P N n0 Q (drwM P N l kn m) x):J P N n0 Q m (if p then x else none):=by
 constructor
 intro hn C hN hn0 r hx
 obtain ⟨hp,hx'⟩:=of_if hx
 obtain ⟨d,hd,_⟩:=Option.map_eq_some_iff.1 h0
 rw [hd] at h
 simp only [Option.map_some,Option.bind_some,Option.some.injEq,Prod.mk.injEq] at h
 exact jw l kn d.c (h.1▸hp) hmx hc (by rw [hd]; simp only [Option.map_some,Option.bind_some,Option.some.injEq,Prod.mk.injEq]; exact ⟨trivial,h.2.1,h.2.2⟩) h0 (hr hp) |>.run hn C hN hn0 r hx'
def fits (inv:List (Nat×Nat)) (Γ:Env) (H:Heap) (s:St) (n0:Nat):Prop:=
 (renΓ inv Γ,renH inv H,decide ((H.map fun p=>rn inv p.1)).Nodup&&decide (H.map Prod.fst).Nodup&&inv.all fun p=>decide (n0≤p.1))=(pickΓ s.Γ (Γ.map Prod.fst),pickH s.H (H.map fun p=>rn inv p.1),true)
theorem fits_sat {C:FC} {inv:List (Nat×Nat)} {Γ:Env} {H:Heap} {s:St} {a:Act} {w:World} (h:fits inv Γ H s C.n0) (hs:Sat C s.Γ s.H a w):Sat C Γ H a w:=by
 unfold fits at h
 simp only [Prod.mk.injEq,Bool.and_eq_true,decide_eq_true_eq,List.all_eq_true] at h
 exact Sat_to inv h.1 h.2.1 h.2.2.1.1 h.2.2.1.2 h.2.2.2 hs
def Qc {Rc Y:Type} (P:Program) (Q:Qf R) (fs:List Fm) (cont:Rc→Option R) (ι:Y→Rc) (Γm:Y→Env) (Hm:Y→Heap):Qf Rc:=fun C q e a w=>
 match e with
 | .normal => ∃ y,ι y=q ∧ Sat C (Γm y) (Hm y) a w
 | e => ∀ r,cont q=some r → QX P (Q C r) fs e a w
def cut1 (m:MS):MS:=⟨m.cs.take 1,[],m.s⟩
def cutR (m:MS) (Γ:Env) (H:Heap) (nx:Nat):MS:=⟨m.cs.tail,m.fs,⟨Γ,H,nx⟩⟩
theorem jcut {Rc Y:Type} {cont:Rc→Option R} {x:Option Rc} (ι:Y→Rc) (nx:Nat) (Γm:Y→Env) (Hm:Y→Heap) (h:(decide (n0≤nx)&&!m.cs.isEmpty)=true:=by kernel_rfl) (h1:J P N n0 (Qc P Q m.fs cont ι Γm Hm) (cut1 m) x)
 (h2:∀ y,J P N n0 Q (cutR m (Γm y) (Hm y) nx) (cont (ι y))):J P N n0 Q m (x.bind cont):=by
 constructor
 intro hn C hN hn0 r hx
 simp only [Bool.and_eq_true,decide_eq_true_eq] at h
 obtain ⟨q,hq,hr⟩:=of_bind hx
 cases hm:m.cs with
 | nil => rw [hm] at h; simp at h
 | cons c cs =>
   have k1:=h1.run hn C hN hn0 q hq
   simp only [cut1,hm,List.take_succ_cons,List.take_zero,QX] at k1
   refine V_cut q ι Γm Hm (fun a w hs=>?_) (fun y hy=>?_)
   ·have:=k1 a w hs
    simp only [wpL] at this ⊢
    refine wp_mono this fun e a w he=>?_
    cases e with
    | normal => exact he
    | exit i => exact he r hr
    | goto l => exact he r hr
    | ret => exact he r hr
    | panic c => exact he r hr
    | outgrown => exact he r hr
   ·have:=(h2 y).run h.1 C hN hn0 r (by rw [hy]; exact hr)
    simp only [cutR,hm,List.tail_cons] at this
    exact this
theorem ja {Y:Type} {cont:Y→Option R} {x:Option Y} (nx:Nat) (Γm:Y→Env) (Hm:Y→Heap) (h:(decide (n0≤nx)&&!m.cs.isEmpty)=true:=by kernel_rfl) (h1:J P N n0 (Qc P Q m.fs cont (fun y=>y) Γm Hm) (cut1 m) x)
 (h2:∀ y,J P N n0 Q (cutR m (Γm y) (Hm y) nx) (cont y)):J P N n0 Q m (x.bind cont):=jcut (fun y=>y) nx Γm Hm h h1 h2
theorem ja2 {A Y:Type} {f:A→Option R} {cont:Y→Option R} {x:Option (A ⊕ Y)} (nx:Nat) (Γm:Y→Env) (Hm:Y→Heap) (h:(decide (n0≤nx)&&!m.cs.isEmpty)=true:=by kernel_rfl) (h1:J P N n0 (Qc P Q m.fs (Sum.elim f cont) Sum.inr Γm Hm) (cut1 m) x)
 (h2:∀ y,J P N n0 Q (cutR m (Γm y) (Hm y) nx) (cont y)):J P N n0 Q m (x.bind (Sum.elim f cont)):=jcut Sum.inr nx Γm Hm h h1 h2
def Ql {X:Type} (P:Program) (Q:Qf R) (fs:List Fm) (L:Nat→X→Option R) (Γ:X→Env) (H:X→Heap) (k:Nat):Qf R:=fun C r e a w=>
 match e with
 | .normal => ∃ x,L k x=some r ∧ Sat C (Γ x) (H x) a w
 | e => QX P (Q C r) fs e a w
def isLoop (m:MS):Bool:=
 match m.cs with
 | .loop _ :: _ => true
 | _ => false
def bodyL (m:MS):List Code:=
 match m.cs with
 | .loop c :: _ => [c]
 | _ => []
def bodM (m:MS) (Γ:Env) (H:Heap) (nx:Nat):MS:=⟨bodyL m,[],⟨Γ,H,nx⟩⟩
theorem jl {X:Type} {y:Option R} (L:Nat→X→Option R) (k0:Nat) (x0:X) (e:L k0 x0=y) (nx:Nat) (inv:List (Nat×Nat)) (Γ:X→Env) (H:X→Heap) (hz:∀ x,L 0 x=none)
 (hf:(renΓ inv (Γ x0),renH inv (H x0),decide ((H x0).map fun p=>rn inv p.1).Nodup&&decide ((H x0).map Prod.fst).Nodup&&inv.all fun p=>decide (n0≤p.1))=(pickΓ m.s.Γ ((Γ x0).map Prod.fst),pickH m.s.H ((H x0).map fun p=>rn inv p.1),true):=by kernel_rfl) (h:(decide (n0≤nx)&&isLoop m)=true:=by kernel_rfl)
 (round:∀ k x,J P N n0 (Ql P Q m.fs L Γ H k) (bodM m (Γ x) (H x) nx) (L (k+1) x)):J P N n0 Q m y:=by
 subst e
 constructor
 intro hn C hN hn0 r hx
 replace hf:fits inv _ _ m.s n0:=hf
 simp only [Bool.and_eq_true,decide_eq_true_eq] at h
 have key:VL P C m.cs (QX P (Q C r) m.fs) (Γ x0) (H x0):=by
  unfold isLoop at h
  cases hm:m.cs with
  | nil => rw [hm] at h; simp at h
  | cons c cs =>
    rw [hm] at h
    cases c with
    | loop body =>
      refine VL_loop Γ H (fun k x=>L k x=some r) k0 x0 hx (fun x=>by rw [hz]; simp) fun k x hk=>?_
      have:=(round k x).run (by exact h.1) C hN hn0 r hk
      simp only [bodM,bodyL,hm,QX] at this
      intro a w hs
      have:=this a w hs
      simp only [wpL] at this ⊢
      refine wp_mono this fun e a w he=>?_
      cases e <;> exact he
    | _ => simp at h
 subst hn0
 exact fun a w hs=>key a w (fits_sat hf hs)
theorem jx {X:Type} {fs:List Fm} {L:Nat→X→Option R} {Γ:X→Env} {H:X→Heap} {k:Nat} {y:Option R} (x:X) (e:L k x=y) (inv:List (Nat×Nat)) (hf:(renΓ inv (Γ x),renH inv (H x),decide ((H x).map fun p=>rn inv p.1).Nodup&&decide ((H x).map Prod.fst).Nodup&&inv.all fun p=>decide (n0≤p.1))=(pickΓ m.s.Γ ((Γ x).map Prod.fst),pickH m.s.H ((H x).map fun p=>rn inv p.1),true):=by kernel_rfl)
 (h:(m.cs.isEmpty&&m.fs.isEmpty)=true:=by kernel_rfl):J P N n0 (Ql P Q fs L Γ H k) m y:=by
 subst e
 constructor
 intro hn C hN hn0 r hx
 replace hf:fits inv _ _ m.s n0:=hf
 simp only [Bool.and_eq_true,List.isEmpty_iff] at h
 rw [h.1,h.2]
 subst hn0
 exact VL_nil fun a w hs=>⟨x,hx,fits_sat hf hs⟩
theorem jo {Rc Y:Type} {cont:Rc→Option R} {ι:Y→Rc} {fs:List Fm} {Γm:Y→Env} {Hm:Y→Heap} {m:MS} {y:Y} (inv:List (Nat×Nat)) (hf:(renΓ inv (Γm y),renH inv (Hm y),decide ((Hm y).map fun p=>rn inv p.1).Nodup&&decide ((Hm y).map Prod.fst).Nodup&&inv.all fun p=>decide (n0≤p.1))=(pickΓ m.s.Γ ((Γm y).map Prod.fst),pickH m.s.H ((Hm y).map fun p=>rn inv p.1),true):=by kernel_rfl)
 (h:(m.cs.isEmpty&&m.fs.isEmpty)=true:=by kernel_rfl):J P N n0 (Qc P Q fs cont ι Γm Hm) m (some (ι y)):=by
 constructor
 intro hn C hN hn0 r hx
 replace hf:fits inv _ _ m.s n0:=hf
 simp only [Bool.and_eq_true,List.isEmpty_iff] at h
 rw [h.1,h.2]
 cases hx
 subst hn0
 exact VL_nil fun a w hs=>⟨y,rfl,fits_sat hf hs⟩
def Qx (P:Program) (Q:Qf R) (fs:List Fm):Qf R:=fun C r=>QX P (Q C r) fs
def isRet (m:MS):Bool:=
 match m.cs with
 | .ret :: _ => true
 | _ => false
def exitOf (m:MS):Option Nat:=
 match m.cs with
 | .exit i :: _ => if (popTo i m.fs).isNone then some i else none
 | _ => none
theorem jt {x:Option R} (h:PJ n0 N Q .ret m.s x) (hm:isRet m=true:=by kernel_rfl):J P N n0 Q m x:=by
 constructor
 intro hn C hN hn0 r hx
 have k:=h.run hn C hN hn0 r hx
 unfold isRet at hm
 split at hm
 ·rename_i cs e
  rw [e]
  exact VL_ret fun a w hs=>QX_ret (k a w hs)
 ·cases hm
theorem je {x:Option R} (h:PJ n0 N Q .normal m.s x) (hm:(m.cs.isEmpty&&m.fs.isEmpty)=true:=by kernel_rfl):J P N n0 Q m x:=by
 constructor
 intro hn C hN hn0 r hx
 simp only [Bool.and_eq_true,List.isEmpty_iff] at hm
 rw [hm.1,hm.2]
 exact VL_nil (h.run hn C hN hn0 r hx)
theorem jq (i:Nat) {x:Option R} (h:PJ n0 N Q (.exit i) m.s x) (hm:exitOf m=some i:=by kernel_rfl):J P N n0 Q m x:=by
 constructor
 intro hn C hN hn0 r hx
 have k:=h.run hn C hN hn0 r hx
 unfold exitOf at hm
 split at hm
 ·rename_i j cs e
  split at hm
  ·rename_i hp
   cases hm
   rw [e]
   exact VL_exit (QX_out (by simpa using hp) k)
  ·cases hm
 ·cases hm
variable {s:St}
theorem rl {X:Type} {fs:List Fm} {L:Nat→X→Option R} {Γ:X→Env} {H:X→Heap} {k:Nat} {x:Option R} (h:PJ n0 N Q .ret s x):PJ n0 N (Ql P Q fs L Γ H k) .ret s x:=.mk fun hn C hN hn0 r hx a w hs=>QX_ret (h.run hn C hN hn0 r hx a w hs)
theorem rc {Rc Y:Type} {cont:Rc→Option R} {ι:Y→Rc} {fs:List Fm} {Γm:Y→Env} {Hm:Y→Heap} {q:Rc} (h:PJ n0 N Q .ret s (cont q)):PJ n0 N (Qc P Q fs cont ι Γm Hm) .ret s (some q):=.mk fun hn C hN hn0 r hx a w hs r' hr'=>by
 cases hx
 exact QX_ret (h.run hn C hN hn0 r' hr' a w hs)
theorem ql {X:Type} {fs:List Fm} {L:Nat→X→Option R} {Γ:X→Env} {H:X→Heap} {k i:Nat} {x:Option R} (h:PJ n0 N (Qx P Q fs) (.exit i) s x):PJ n0 N (Ql P Q fs L Γ H k) (.exit i) s x:=.mk h.run
def popM (i:Nat) (fs:List Fm) (s:St):MS:=
 match popTo i fs with
 | some r => ⟨r.1,r.2,s⟩
 | none => ⟨[],[],s⟩
theorem qh {fs:List Fm} {i:Nat} {x:Option R} (h:J P N n0 Q (popM i fs s) x) (hp:(popTo i fs).isSome=true:=by kernel_rfl):PJ n0 N (Qx P Q fs) (.exit i) s x:=.mk fun hn C hN hn0 r hx=>by
 obtain ⟨⟨rest,fs'⟩,hr⟩:=Option.isSome_iff_exists.1 hp
 have:=h.run (by simp only [popM,hr]; exact hn) C hN hn0 r hx
 simp only [popM,hr] at this
 exact QX_exit hr this
def Qfn (P:Program) (fn:Func) (res:R→SV) (H1:R→Heap):Qf R:=fun C r=>QF P C fn (res r) (H1 r)
theorem SatW_ren {C:FC} {σ:Nat→Value} {H Ht:Heap} {w:World} (inv:List (Nat×Nat)) (hH:renH inv Ht=pickH H (Ht.map fun p=>rn inv p.1))
 (hn1:((Ht.map fun p=>rn inv p.1)).Nodup) (hn2:(Ht.map Prod.fst).Nodup) (hσ:SatW C σ H w) :
 SatW C (fun n=>σ (rn inv n)) Ht w∧∀ b,b<w.heap.size→¬ Ow C.G H σ b→¬ Ow C.G Ht (fun n=>σ (rn inv n)) b:=by
 have hsub:∀ p∈renH inv Ht,p∈H:=fun p hp=>by rw [hH] at hp; exact look_mem (mem_pickH hp).2
 have hkeys:(renH inv Ht).map Prod.fst=Ht.map fun p=>rn inv p.1:=by simp [renH]
 have hσ2:=hσ.sub hsub (by rw [hkeys]; exact hn1)
 have how:Ow C.G Ht (fun n=>σ (rn inv n))=Ow C.G (renH inv Ht) σ:=by
  funext b
  apply propext
  constructor
  ·rintro (hg | ⟨p,hp,hb⟩)
   ·exact .inl hg
   ·exact .inr ⟨(rn inv p.1,p.2.ren inv),List.mem_map.2 ⟨p,hp,rfl⟩,hb⟩
  ·rintro (hg | ⟨q,hq,hb⟩)
   ·exact .inl hg
   ·obtain ⟨p,hp,rfl⟩:=List.mem_map.1 hq
    exact .inr ⟨p,hp,hb⟩
 have hmem:∀ p∈Ht,(rn inv p.1,p.2.ren inv)∈renH inv Ht:=fun p hp=>List.mem_map.2 ⟨p,hp,rfl⟩
 refine ⟨⟨fun p hp=>?_,hn2,fun p hp q hq hpq b hb hb'=>?_,fun p hp b hb=>hσ2.mine _ (hmem p hp) b hb,hσ2.fr⟩,fun b _ ho hb=>?_⟩
 ·rw [how]
  exact EntR_ren.1 (hσ2.ent _ (hmem p hp))
 ·have hne:rn inv p.1≠rn inv q.1:=fun e=>hpq (by rw [inj_of_nodup (f:=fun p=>rn inv p.1) hn1 hp hq e])
  exact hσ2.disj _ (hmem p hp) _ (hmem q hq) hne b hb hb'
 ·rw [how] at hb
  exact ow_sub hsub ho hb
theorem look_none_of_lt {inv:List (Nat×Nat)} {n n0:Nat} (h:∀ p∈inv,n0≤p.1) (hn:n<n0):rn inv n=n:=by
 unfold rn
 cases hl:look inv n with
 | none => rfl
 | some m =>
   have:=h _ (look_mem hl)
   simp at this
   omega
theorem rf {fn:Func} {res:R→SV} {H1:R→Heap} (e:Exit) (he:e=.ret∨e=.normal) (inv:List (Nat×Nat)) {x:Option R}
 (h:x.map (fun r=>(some ((res r).ren inv),renH inv (H1 r),decide (((H1 r).map fun p=>rn inv p.1)).Nodup&&decide ((H1 r).map Prod.fst).Nodup&&inv.all fun p=>decide (n0≤p.1))) =
  x.bind (fun r=>some (resS P s.Γ s.H fn.results.toList,pickH s.H ((H1 r).map fun p=>rn inv p.1),true))):PJ n0 N (Qfn P fn res H1) e s x:=by
 constructor
 intro hn C hN hn0 r hx
 subst hx hn0
 simp only [Option.map_some,Option.bind_some,Option.some.injEq,Prod.mk.injEq,Bool.and_eq_true,decide_eq_true_eq,List.all_eq_true] at h
 obtain ⟨h1,h2,⟨h3,h4⟩,h5⟩:=h
 rintro a w ⟨σ,hσ,hE,hp⟩
 obtain ⟨v,hv,hs⟩:=resS_sound (P:=P) hσ hE h1.symm
 obtain ⟨k1,k2⟩:=SatW_ren inv h2 h3 h4 hσ
 have hp':∀ n,n<C.n0→(fun n=>σ (rn inv n)) n=C.σ0 n:=fun n hlt=>by
  simp only [look_none_of_lt h5 hlt]
  exact hp n hlt
 have hv':=SVr_ren.1 (SVr_mono (fun _ _ _=>rfl) k2 hs)
 rcases he with rfl | rfl
 ·exact ⟨hE.2.2,v,hv,v,_,rfl,k1,hv',hp'⟩
 ·exact ⟨hE.2.2,v,hv,v,_,rfl,k1,hv',hp'⟩
theorem rr {fn:Func} {res:R→SV} {H1:R→Heap} (inv:List (Nat×Nat)) {x:Option R}
 (h:x.map (fun r=>(some ((res r).ren inv),renH inv (H1 r),decide (((H1 r).map fun p=>rn inv p.1)).Nodup&&decide ((H1 r).map Prod.fst).Nodup&&inv.all fun p=>decide (n0≤p.1))) =
  x.bind (fun r=>some (resS P s.Γ s.H fn.results.toList,pickH s.H ((H1 r).map fun p=>rn inv p.1),true)):=by kernel_rfl):PJ n0 N (Qfn P fn res H1) .ret s x:=rf .ret (.inl rfl) inv h
theorem rn' {fn:Func} {res:R→SV} {H1:R→Heap} (inv:List (Nat×Nat)) {x:Option R}
 (h:x.map (fun r=>(some ((res r).ren inv),renH inv (H1 r),decide (((H1 r).map fun p=>rn inv p.1)).Nodup&&decide ((H1 r).map Prod.fst).Nodup&&inv.all fun p=>decide (n0≤p.1))) =
  x.bind (fun r=>some (resS P s.Γ s.H fn.results.toList,pickH s.H ((H1 r).map fun p=>rn inv p.1),true)):=by kernel_rfl):PJ n0 N (Qfn P fn res H1) .normal s x:=rf .normal (.inr rfl) inv h
def bodyOf (fn:Func):List Code:=match fn.body with | some c=>[c] | none=>[]
def FS {R:Type} (P:Program) (f:FuncId) (n0:Nat) (args:List SV) (H:Heap) (x:Option R) (res:R→SV) (H1:R→Heap):Prop:=∀ r,x=some r→Spec P f n0 args H (res r) (H1 r)
theorem jfn {f:FuncId} {fn:Func} {n0:Nat} {args:List SV} {H:Heap} {res:R→SV} {H1:R→Heap} {x:Option R} (hf:P.funcs[f]? = some fn)
 (h:J P fn.ntmps n0 (Qfn P fn res H1) ⟨bodyOf fn,[],⟨envFrom 0 args,H,n0⟩⟩ x) (hl:(decide (args.length≤fn.ntmps)&&fn.body.isSome)=true:=by kernel_rfl):FS P f n0 args H x res H1:=by
 intro r hx
 simp only [Bool.and_eq_true,decide_eq_true_eq] at hl
 obtain ⟨c,hc⟩:=Option.isSome_iff_exists.1 hl.2
 refine Spec_intro hf hc hl.1 fun C hN hn=>?_
 have:=h.run (Nat.le_refl _) C hN hn r hx
 simp only [bodyOf,hc,QX] at this
 exact this
end
end Go.Pal
namespace Go.Pal
open Go
inductive Gx where
 | ar0 (m:Nat)
 | ao (m:Nat)
 | un (m:Nat)
 | absorb (n:Nat)
 | nilSets (m i:Nat)
 | nilSetsSlot (t:Nat)
 | nilB (m i:Nat) (e:TypeId)
 | lits (n:Nat)
 | toA (m p k:Nat)
def boolsL:List CV→Option (List Bool)
 | [] => some []
 | .val (.bool b) :: l => (boolsL l).map (b :: ·)
 | _ => none
theorem boolsL_map:∀ {l:List CV} {bs:List Bool},boolsL l=some bs→l=bs.map fun b=>CV.val (.bool b)
 | [],bs,h => by cases h; rfl
 | .val (.bool b) :: l,bs,h => by
   obtain ⟨cs,hc,rfl⟩:=Option.map_eq_some_iff.1 h
   rw [List.map_cons,← boolsL_map hc]
def absF (n nx m len:Nat):CV→CV
 | .h q => if q=n then .h nx else if q=m then .elm nx len else .h q
 | .elt q sz i o => if q=n then .elt nx sz i o else .elt q sz i o
 | .elm q i => if q=n then .elm nx i else .elm q i
 | s => s
def ghx (g:Gx) (s:St):Option (St×List Prop):=
 match g with
 | .ar0 m => match look s.H m with
  | some (.row (.pair .str (.pair (.int .i64) (.pair (.int .i64) (.pair (.int .i64) (.slice (.pair (.int .i64) (.int .i64))))))) xs) => if free s.nx s.Γ s.H=true then
   some (⟨mapΓ (reH m s.nx) s.Γ,mapH (reH m s.nx) ((s.nx,.arow 0 xs) :: dropH s.H [m]),s.nx+1⟩,[]) else none
  | _ => none
 | .ao m => match look s.H m with
  | some (.arow k xs) => some (⟨s.Γ,(m,.aown xs) :: eraseH s.H m,s.nx⟩,[List.length xs ≤ k])
  | _ => none
 | .un m => match look s.H m with
  | some (.aown xs) => if free s.nx s.Γ s.H=true then some (⟨mapΓ (reH m s.nx) s.Γ,mapH (reH m s.nx) ((s.nx,.row aK xs) :: dropH s.H [m]),s.nx+1⟩,[]) else none
  | _ => none
 | .absorb n => match look s.H n with
  | some (.sets ls (some m)) => match look s.H m with
   | some (.map l) => if (n ≠ m) ∧ free s.nx s.Γ s.H=true then some (⟨mapΓ (absF n s.nx m ls.length) s.Γ,mapH (absF n s.nx m ls.length) ((s.nx,.sets (ls ++ [l]) none) :: dropH s.H [n,m]),s.nx+1⟩,[]) else none
   | _ => none
  | _ => none
 | .nilSets m i => match look s.H m with
  | some (.box cs) => match cs[i]? with
   | some (.val (.slice none 0 0)) => if free s.nx s.Γ s.H=true then some (⟨s.Γ,(s.nx,.sets [] none) :: (m,.box (cs.set i (.h s.nx))) :: eraseH s.H m,s.nx+1⟩,[]) else none
   | _ => none
  | _ => none
 | .nilB m i e => match look s.H m with
  | some (.box cs) => match cs[i]? with
   | some (.val (.slice none 0 0)) => if free s.nx s.Γ s.H=true then some (⟨s.Γ,(s.nx,.brow e []) :: (m,.box (cs.set i (.h s.nx))) :: eraseH s.H m,s.nx+1⟩,[]) else none
   | _ => none
  | _ => none
 | .nilSetsSlot t => match look s.Γ t with
  | some (.c (.val (.slice none 0 0))) => if free s.nx s.Γ s.H=true then some (⟨(t,.c (.h s.nx)) :: s.Γ,(s.nx,.sets [] none) :: s.H,s.nx+1⟩,[]) else none
  | _ => none
 | .lits n => match look s.H n with
  | some (.lit [.h m]) => match look s.H m with
   | some (.map _) => if (n ≠ m) ∧ free s.nx s.Γ s.H=true then some (⟨mapΓ (reH n s.nx) s.Γ,mapH (reH n s.nx) ((s.nx,.sets [] (some m)) :: dropH s.H [n]),s.nx+1⟩,[]) else none
   | _ => none
  | _ => none
 | .toA m p k => match look s.H m with
  | some (.box cs) => match boolsL ((cs.drop p).take k) with
   | some bs => if bs.length=k then some (⟨s.Γ,(m,.abox (cs.take p) k bs (cs.drop (p+k))) :: eraseH s.H m,s.nx⟩,[]) else none
   | none => none
  | _ => none
theorem xch {C:FC} {Γ:Env} {H:Heap} {a:Act} {w:World} {σ:Nat→Value} (h:SatW C σ H w) (hE:EnvR C σ H w Γ a) (hp:∀ n,n<C.n0→σ n=C.σ0 n) (ns:List Nat) (nx:Nat) (e':Ent) (v':Value) (f:CV→CV) (hf:free nx Γ H=true) (hn:C.n0≤nx)
 (hblk:∀ b,Bk v' b→∃ n∈ns,(∃ e,(n,e)∈H)∧Bk (σ n) b)
 (hent:(∀ b,b<w.heap.size→¬ Ow C.G H σ b→¬ Ow C.G ((nx,e') :: dropH H ns) (upd σ nx v') b)→EntR (Ow C.G ((nx,e') :: dropH H ns) (upd σ nx v')) w (upd σ nx v') nx e')
 (hr:∀ s v,CVr (Ow C.G ((nx,e') :: dropH H ns) (upd σ nx v')) w (upd σ nx v') s v→CVr (Ow C.G ((nx,e') :: dropH H ns) (upd σ nx v')) w (upd σ nx v') (f s) v) :
 Sat C (mapΓ f Γ) (mapH f ((nx,e') :: dropH H ns)) a w:=by
 have hst:=stepSE (w':=w) h hE ns nx e' v' hf (fun _ _ _=>rfl) (Nat.le_refl _) rfl rfl rfl (fun b hb=>.inl (hblk b hb)) (fun _ ha=>hent ha)
 obtain ⟨h1,h2⟩:=retell f hst.1 hst.2.env hr
 exact ⟨_,h1,h2,fun n hlt=>by rw [upd_ne (by omega)]; exact hp n hlt⟩
theorem arow_row {O O':Nat→Prop} {w:World} {xs:List aK.ty} {v:Value} (h:RowR O w aK xs v) (ho:∀ b,b<w.heap.size→¬ O b→¬ O' b):ArR O' w (.tuple [v].toArray) 0 xs none:=by
 obtain ⟨A,cap,rfl,h⟩:=h
 refine ⟨A,cap,[],rfl,rfl,Nat.zero_le _,?_,fun i hi=>by simp at hi,?_⟩
 ·rw [List.filterMap_cons]
  split <;> simp
 ·rcases h with h | ⟨hp,hl,b,off,c,e,rfl,hh,hs,hr⟩
  ·exact .inl h
  ·refine .inr ⟨hp,hl,b,off,c,e,rfl,hh,hs,fun i hi=>?_⟩
   obtain ⟨cs,hR,hc⟩:=hr i hi
   exact ⟨cs,hc,by rw [if_neg (by omega)]; exact R_mono (fun _ _ _=>rfl) ho hR⟩
theorem row_aown {O O':Nat→Prop} {w:World} {xs:List aK.ty} {v:Value} (h:ArR O w v xs.length xs none) (ho:∀ b,b<w.heap.size→¬ O b→¬ O' b) (hO:∀ (i:Nat) (u:Value) (b:Nat),(tl v)[i]? = some u→blk u=some b→¬ O' b):RowR O' w aK xs (hd v):=by
 obtain ⟨A,cap,vs,rfl,h1,h2,h3,h4,h5⟩:=h
 refine ⟨A,cap,rfl,?_⟩
 rcases h5 with h5 | ⟨hp,hl,b,off,c,e,rfl,hh,hs,hr⟩
 ·exact .inl h5
 ·refine .inr ⟨hp,hl,b,off,c,e,rfl,hh,hs,fun i hi=>?_⟩
  obtain ⟨cs,hcs,hu⟩:=hr i hi
  rw [if_pos hi] at hu
  obtain ⟨u,rfl,hone,hvu⟩:=hu
  have hvu:=hvu (by simp)
  refine ⟨_,?_,hcs⟩
  have hiv:i<vs.length:=by omega
  obtain ⟨zs,hR,hz,_⟩:=h4 i hiv
  have hu':vs[i]=u:=by rw [List.getElem?_eq_getElem hiv] at hvu; exact Option.some.inj hvu
  have hzs:zs=xs[i].2.2.2.2:=hz _ (List.getElem?_eq_getElem hi) (by simp)
  rw [hu'] at hR
  have himm:=RowR_imm (O':=O') hR (fun b hb=>hO i u b (by simpa [tl] using hvu) ((Bk_row hR).1 hb)) ho
  rw [hzs] at himm
  exact ⟨[_],[_,_,_,u],rfl,rfl,[_],[_,_,u],rfl,rfl,[_],[_,u],rfl,rfl,[_],[u],rfl,rfl,himm⟩
theorem own_dropped {C:FC} {σ:Nat→Value} {H:Heap} {w:World} (h:SatW C σ H w) {m nx:Nat} {e e':Ent} {v':Value} (hm:look H m=some e) (hfr:∀ p∈H,p.1≠nx) {b:Nat} (hb:Bk (σ m) b) (hv:¬ Bk v' b):¬ Ow C.G ((nx,e') :: dropH H [m]) (upd σ nx v') b:=by
 rintro (hg | ⟨p,hp,hb'⟩)
 ·exact (h.mine _ (look_mem hm) b hb).1 hg
 ·rcases List.mem_cons.1 hp with rfl | hp
  ·rw [upd_same] at hb'; exact hv hb'
  ·obtain ⟨hp1,hp2⟩:=mem_dropH.1 hp
   rw [upd_ne (hfr p hp1)] at hb'
   exact h.disj p hp1 _ (look_mem hm) (by simpa using hp2) b hb' hb
theorem absF_sound {O:Nat→Prop} {w:World} {σ:Nat→Value} {n nx m len:Nat} (hh:hd (σ nx)=hd (σ n)) (hc:∀ i,cmp (σ nx) i=cmp (σ n) i) (hm:cmp (σ nx) len=hd (σ m)):∀ {s:CV} {v:Value},CVr O w σ s v→CVr O w σ (absF n nx m len s) v
 | .h q,v,h => by
   simp only [absF]
   split
   ·rename_i e; subst e; simp only [CVr] at h ⊢; rw [hh]; exact h
   ·split
    ·rename_i e; subst e; simp only [CVr] at h ⊢; rw [hm]; exact h
    ·exact h
 | .elt q sz i o,v,h => by
   simp only [absF]
   split
   ·rename_i e; subst e; simp only [CVr] at h ⊢; rw [hh]; exact h
   ·exact h
 | .elm q i,v,h => by
   simp only [absF]
   split
   ·rename_i e; subst e; simp only [CVr] at h ⊢; rw [hc]; exact h
   ·exact h
 | .val _,_,h => h
 | .imm _ _,_,h => h
 | .cell _ _,_,h => h
 | .ielt _ _,_,h => h
 | .sub _ _ _ _,_,h => h
 | .clo _ _,_,h => h
 | .zc,_,h => h
 | .slf _ _,_,h => h
theorem sets_absorb {w:World} {σ:Nat→Value} {v:Value} {ls:List (List Int)} {m b2:Nat} {l:List Int} (h:SetsR w σ v ls (some m)) (hm:σ m=.map (some b2)) (hM:MapR w b2 l) (hd2:¬ Bk v b2) :
 ∃ A cap vs,v=.tuple (.slice A vs.length cap :: vs).toArray∧ls.length<vs.length∧(∀ σ',SetsR w σ' (.tuple (.slice A (vs.set ls.length (.map (some b2))).length cap :: vs.set ls.length (.map (some b2))).toArray) (ls++[l]) none)∧
   (∀ b,Bk (.tuple (.slice A (vs.set ls.length (.map (some b2))).length cap :: vs.set ls.length (.map (some b2))).toArray) b→Bk v b∨b=b2)∧(vs[ls.length]? = some (.agg #[.map (some b2)])):=by
 obtain ⟨A,cap,vs,rfl,hnd,hl,hms,hlast,hrow⟩:=h
 have hlt:ls.length<vs.length:=by simp at hl; omega
 obtain ⟨hl1,hl2⟩:=hlast m rfl
 rw [hm] at hl1
 have hl1:vs[ls.length]? = some (.agg #[.map (some b2)]):=hl1
 have hvb:∀ v∈vs,blk v≠some b2:=fun v hv e=>hd2 (Bk_tuple (List.mem_cons_of_mem _ hv) e)
 refine ⟨A,cap,vs,rfl,hlt,fun σ'=>⟨A,cap,vs.set ls.length (.map (some b2)),rfl,?_,by simpa using hl,fun i hi=>?_,fun m' e=>(by cases e),?_⟩,fun b hb=>?_,hl1⟩
 ·have hs:(Value.slice A (vs.set ls.length (.map (some b2))).length cap)=.slice A vs.length cap:=by rw [List.length_set]
  rw [hs,← List.set_cons_succ]
  refine nodup_set hnd fun b hb=>?_
  cases hb
  refine .inr fun v hv=>?_
  rcases List.mem_cons.1 hv with rfl | hv
  ·exact fun e=>hd2 (Bk_tuple List.mem_cons_self e)
  ·exact hvb v hv
 ·rw [List.length_append] at hi
  rcases Nat.lt_or_ge i ls.length with h | h
  ·obtain ⟨b,h1,h2⟩:=hms i h
   exact ⟨b,by rw [List.getElem?_set_ne (by omega)]; exact h1,by rw [List.getElem_append_left h]; exact h2⟩
  ·have:i=ls.length:=by simp at hi; omega
   subst this
   exact ⟨b2,by rw [List.getElem?_set_self hlt],by simpa using hM⟩
 ·rcases hrow with ⟨h1,rfl⟩ | ⟨hp,hlc,b,off,c,e,rfl,hh,hsz,hcells⟩
  ·simp at hlt
  ·refine .inr ⟨hp,by simpa using hlc,b,off,c,e,rfl,hh,hsz,fun i hi=>?_⟩
   rw [List.length_set] at hi
   rw [hcells i hi]
   by_cases e:ls.length=i
   ·subst e
    rw [hl1,List.getElem?_set_self hlt]
    rfl
   ·rw [List.getElem?_set_ne e]
 ·obtain ⟨u,hu,hb⟩:=hb
  rcases List.mem_cons.1 (List.mem_toArray.1 (Array.mem_def.2 hu)) with rfl | hu
  ·rw [List.length_set] at hb
   exact .inl (Bk_tuple List.mem_cons_self hb)
  ·rcases List.mem_or_eq_of_mem_set hu with hu | rfl
   ·exact .inl (Bk_tuple (List.mem_cons_of_mem _ hu) hb)
   ·cases hb; exact .inr rfl
theorem setsR_nil {w:World} {σ:Nat→Value}:SetsR w σ (.tuple [.slice none 0 0].toArray) [] none:=
 ⟨none,0,[],rfl,List.nodup_nil,rfl,(fun i hi=>by simp at hi),(fun m e=>by cases e),.inl ⟨rfl,rfl⟩⟩
theorem CVs_at {O:Nat→Prop} {w:World} {σ:Nat→Value} {l:List CV} {vs:List Value} {n:Nat} {x:CV} {u:Value} (h:CVs O w σ l vs) (hx:l[n]? = some x) (hu:vs[n]? = some u):CVr O w σ x u:=by
 obtain ⟨u',h1,h2⟩:=CVs_get h hx
 rw [hu] at h1
 cases h1
 exact h2
theorem ghx_sound {C:FC} {g:Gx} {s s':St} {ps:List Prop} {a:Act} {w:World} (hg:ghx g s=some (s',ps)) (hps:allP ps) (hn:C.n0≤s.nx) (h:Sat C s.Γ s.H a w):Sat C s'.Γ s'.H a w:=by
 obtain ⟨σ,hσ,hE,hp⟩:=h
 cases g with
 | ar0 m =>
   simp only [ghx] at hg
   split at hg
   ·rename_i xs hm
    split at hg
    ·rename_i hf
     cases hg
     have hR:RowR (Ow C.G s.H σ) w aK xs (σ m):=hσ.ent _ (look_mem hm)
     have hmn:m≠s.nx:=(free_heap hf _ (look_mem hm)).1
     refine xch hσ hE hp [m] s.nx _ (.tuple [σ m].toArray) _ hf hn (fun b hb=>⟨m,by simp,⟨_,look_mem hm⟩,?_⟩) (fun ha=>?_) (fun t v ht=>reH_sound ?_ ht)
     ·obtain ⟨v,hv,hb⟩:=hb
      have:v=σ m:=by simpa using hv
      subst this
      exact (Bk_row hR).2 hb
     ·show ArR _ _ _ _ _ _
      rw [upd_same]
      exact arow_row hR ha
     ·rw [upd_same,upd_ne hmn,hd_row hR]
      rfl
    ·cases hg
   ·cases hg
 | ao m =>
   simp only [ghx] at hg
   split at hg
   ·rename_i k xs hm
    cases hg
    have hle:xs.length≤k:=hps
    have hA:ArR (Ow C.G s.H σ) w (σ m) k xs none:=hσ.ent _ (look_mem hm)
    have hk:k=xs.length:=by obtain ⟨_,_,_,_,_,h2,_⟩:=hA; omega
    subst hk
    have:=stepW (w':=w) hσ hE hm (e':=.aown xs) (fun _ _ _=>rfl) (Nat.le_refl _) rfl rfl rfl (fun _=>hA)
    exact ⟨σ,this.1,this.2.env,hp⟩
   ·cases hg
 | un m =>
   simp only [ghx] at hg
   split at hg
   ·rename_i xs hm
    split at hg
    ·rename_i hf
     cases hg
     have hA:ArR (Ow C.G s.H σ) w (σ m) xs.length xs none:=hσ.ent _ (look_mem hm)
     have hmn:m≠s.nx:=(free_heap hf _ (look_mem hm)).1
     have hA':=hA
     obtain ⟨A,cap,vs,hv,h1,h2,h3,h4,h5⟩:=hA'
     refine xch hσ hE hp [m] s.nx _ (hd (σ m)) _ hf hn (fun b hb=>⟨m,by simp,⟨_,look_mem hm⟩,?_⟩) (fun ha=>?_) (fun t v ht=>reH_sound ?_ ht)
     ·rw [hv] at hb ⊢
      exact Bk_tuple List.mem_cons_self hb
     ·show RowR _ _ _ _ _
      rw [upd_same]
      refine row_aown hA ha fun i u b hu hb=>own_dropped hσ hm (fun p hp=>(free_heap hf p hp).1) ?_ ?_
      ·rw [hv] at hu ⊢
       exact Bk_tuple (List.mem_cons_of_mem _ (List.mem_of_getElem? (by simpa [tl] using hu))) hb
      ·rw [hv] at hu ⊢
       intro hb'
       rw [List.filterMap_cons] at h3
       have hb':blk (.slice A xs.length cap)=some b:=hb'
       rw [hb'] at h3
       exact (List.nodup_cons.1 h3).1 (List.mem_filterMap.2 ⟨u,List.mem_of_getElem? (by simpa [tl] using hu),hb⟩)
     ·rw [upd_same,upd_ne hmn,hv]
      rfl
    ·cases hg
   ·cases hg
 | absorb n =>
   simp only [ghx] at hg
   split at hg
   ·rename_i ls m hn0
    split at hg
    ·rename_i l hm
     split at hg
     ·rename_i hc
      obtain ⟨hne,hf⟩:=hc
      cases hg
      obtain ⟨b2,hmv,hM⟩:∃ b,σ m=.map (some b)∧MapR w b l:=hσ.ent _ (look_mem hm)
      have hS:SetsR w σ (σ n) ls (some m):=hσ.ent _ (look_mem hn0)
      have hnn:n≠s.nx:=(free_heap hf _ (look_mem hn0)).1
      have hmn:m≠s.nx:=(free_heap hf _ (look_mem hm)).1
      obtain ⟨A,cap,vs,hv,hlt,hS',hbk,hlast⟩:=sets_absorb hS hmv hM (hσ.disj _ (look_mem hm) _ (look_mem hn0) (Ne.symm hne) b2 (by rw [hmv]; rfl))
      refine xch hσ hE hp [n,m] s.nx _ (.tuple (.slice A (vs.set ls.length (.map (some b2))).length cap :: vs.set ls.length (.map (some b2))).toArray) _ hf hn (fun b hb=>?_) (fun ha=>?_) (fun t v ht=>absF_sound ?_ (fun i=>?_) ?_ ht)
      ·rcases hbk b hb with hb | rfl
       ·exact ⟨n,by simp,⟨_,look_mem hn0⟩,hb⟩
       ·exact ⟨m,by simp,⟨_,look_mem hm⟩,by rw [hmv]; rfl⟩
      ·show SetsR _ _ _ _ _
       rw [upd_same]
       exact hS' _
      ·rw [upd_same,upd_ne hnn,hv]
       simp [hd]
      ·rw [upd_same,upd_ne hnn,hv]
       simp only [cmp,tl,List.tail_cons]
       by_cases e:ls.length=i
       ·subst e
        rw [List.getD_eq_getElem?_getD,List.getD_eq_getElem?_getD,hlast,List.getElem?_set_self hlt]
        rfl
       ·simp [List.getD_eq_getElem?_getD,List.getElem?_set_ne e]
      ·rw [upd_same,upd_ne hmn,hmv]
       simp [cmp,tl,List.getD_eq_getElem?_getD,hlt,bare,hd]
     ·cases hg
    ·cases hg
   ·cases hg
 | nilSets m i =>
   simp only [ghx] at hg
   split at hg
   ·rename_i cs hm
    split at hg
    ·rename_i hi
     split at hg
     ·rename_i hf
      cases hg
      have hst:=stepSE (w':=w) hσ hE [] s.nx (.sets [] none) (.tuple [.slice none 0 0].toArray) hf (fun _ _ _=>rfl) (Nat.le_refl _) rfl rfl rfl
       (fun b hb=>by obtain ⟨v,hv,hb⟩:=hb; have:v=.slice none 0 0:=by simpa using hv
                     subst this; cases hb)
       (fun _ _=>by show SetsR _ _ _ _ _; rw [upd_same]; exact setsR_nil)
      have e0:dropH s.H []=s.H:=by simp [dropH]
      rw [e0] at hst
      have hmn:m≠s.nx:=(free_heap hf _ (look_mem hm)).1
      have hm':look ((s.nx,Ent.sets [] none) :: s.H) m=some (.box cs):=by simp only [look]; rw [if_neg (Ne.symm hmn)]; exact hm
      have hil:i<cs.length:=(List.getElem?_eq_some_iff.1 hi).1
      have h2:=box_told hst.1 hst.2.env hm' (z:=.h s.nx) (i:=i) (fun b c e u _ _ hc hu=>by
       have hcv:CVr _ _ _ _ u:=CVs_at hc hi hu
       cases hcv
       simp only [CVr]
       rw [upd_same]
       rfl) hil
      have e1:eraseH ((s.nx,Ent.sets [] none) :: s.H) m=(s.nx,.sets [] none) :: eraseH s.H m:=by
       simp only [eraseH]; rw [List.filter_cons_of_pos (by simpa using Ne.symm hmn)]
      rw [e1] at h2
      refine ⟨_,h2.1.sub ?_ ?_,h2.2.sub ?_,fun n hlt=>by rw [upd_ne (by omega)]; exact hp n hlt⟩
      ·intro p hp'
       rcases List.mem_cons.1 hp' with h | h
       ·exact List.mem_cons_of_mem _ (h▸List.mem_cons_self)
       ·rcases List.mem_cons.1 h with h | h
        ·exact h▸List.mem_cons_self
        ·exact List.mem_cons_of_mem _ (List.mem_cons_of_mem _ h)
      ·have:=h2.1.nd
       simp only [List.map_cons,List.nodup_cons,List.mem_cons,not_or] at this ⊢
       exact ⟨⟨Ne.symm hmn,this.2.1⟩,this.1.2,this.2.2⟩
      ·intro p hp'
       rcases List.mem_cons.1 hp' with h | h
       ·exact List.mem_cons_of_mem _ (h▸List.mem_cons_self)
       ·rcases List.mem_cons.1 h with h | h
        ·exact h▸List.mem_cons_self
        ·exact List.mem_cons_of_mem _ (List.mem_cons_of_mem _ h)
     ·cases hg
    ·cases hg
   ·cases hg
 | nilB m i e =>
   simp only [ghx] at hg
   split at hg
   ·rename_i cs hm
    split at hg
    ·rename_i hi
     split at hg
     ·rename_i hf
      cases hg
      have hst:=stepSE (w':=w) hσ hE [] s.nx (.brow e []) (.slice none 0 0) hf (fun _ _ _=>rfl) (Nat.le_refl _) rfl rfl rfl
       (fun b hb=>by cases hb)
       (fun _ _=>by show RowR _ _ _ _ _∧HeadT _ _ _; rw [upd_same]; exact ⟨⟨none,0,rfl,.inl ⟨rfl,rfl⟩⟩,fun A len cap hv=>by cases hv; exact .inl ⟨rfl,rfl⟩⟩)
      have e0:dropH s.H []=s.H:=by simp [dropH]
      rw [e0] at hst
      have hmn:m≠s.nx:=(free_heap hf _ (look_mem hm)).1
      have hm':look ((s.nx,Ent.brow e []) :: s.H) m=some (.box cs):=by simp only [look]; rw [if_neg (Ne.symm hmn)]; exact hm
      have hil:i<cs.length:=(List.getElem?_eq_some_iff.1 hi).1
      have h2:=box_told hst.1 hst.2.env hm' (z:=.h s.nx) (i:=i) (fun b c e u _ _ hc hu=>by
       have hcv:CVr _ _ _ _ u:=CVs_at hc hi hu
       cases hcv
       simp only [CVr]
       rw [upd_same]
       rfl) hil
      have e1:eraseH ((s.nx,Ent.brow e []) :: s.H) m=(s.nx,.brow e []) :: eraseH s.H m:=by
       simp only [eraseH]; rw [List.filter_cons_of_pos (by simpa using Ne.symm hmn)]
      rw [e1] at h2
      refine ⟨_,h2.1.sub ?_ ?_,h2.2.sub ?_,fun n hlt=>by rw [upd_ne (by omega)]; exact hp n hlt⟩
      ·intro p hp'
       rcases List.mem_cons.1 hp' with h | h
       ·exact List.mem_cons_of_mem _ (h▸List.mem_cons_self)
       ·rcases List.mem_cons.1 h with h | h
        ·exact h▸List.mem_cons_self
        ·exact List.mem_cons_of_mem _ (List.mem_cons_of_mem _ h)
      ·have:=h2.1.nd
       simp only [List.map_cons,List.nodup_cons,List.mem_cons,not_or] at this ⊢
       exact ⟨⟨Ne.symm hmn,this.2.1⟩,this.1.2,this.2.2⟩
      ·intro p hp'
       rcases List.mem_cons.1 hp' with h | h
       ·exact List.mem_cons_of_mem _ (h▸List.mem_cons_self)
       ·rcases List.mem_cons.1 h with h | h
        ·exact h▸List.mem_cons_self
        ·exact List.mem_cons_of_mem _ (List.mem_cons_of_mem _ h)
     ·cases hg
    ·cases hg
   ·cases hg
 | nilSetsSlot t =>
   simp only [ghx] at hg
   split at hg
   ·rename_i ht
    split at hg
    ·rename_i hf
     cases hg
     have hst:=stepSE (w':=w) hσ hE [] s.nx (.sets [] none) (.tuple [.slice none 0 0].toArray) hf (fun _ _ _=>rfl) (Nat.le_refl _) rfl rfl rfl
      (fun b hb=>by obtain ⟨v,hv,hb⟩:=hb; have:v=.slice none 0 0:=by simpa using hv
                    subst this; cases hb)
      (fun _ _=>by show SetsR _ _ _ _ _; rw [upd_same]; exact setsR_nil)
     have e0:dropH s.H []=s.H:=by simp [dropH]
     rw [e0] at hst
     obtain ⟨h3,h4⟩:=hE.1 t _ ht
     refine ⟨_,hst.1,Env_cons hst.2.env h3 ?_,fun n hlt=>by rw [upd_ne (by omega)]; exact hp n hlt⟩
     simp only [SVr,CVr] at h4 ⊢
     rw [h4,upd_same]
     rfl
    ·cases hg
   ·cases hg
 | lits n =>
   simp only [ghx] at hg
   split at hg
   ·rename_i m hn0
    split at hg
    ·rename_i l hm
     split at hg
     ·rename_i hc
      obtain ⟨hne,hf⟩:=hc
      cases hg
      obtain ⟨b,c,e,hs,hpos,hh,hcs⟩:∃ b c e,σ n=.slice (some ⟨b,0,none⟩) [CV.h m].length [CV.h m].length∧0 < [CV.h m].length∧w.heap[b]? = some (.cells c e (0,0))∧CVs (Ow C.G s.H σ) w σ [.h m] c.toList:=hσ.ent _ (look_mem hn0)
      have hnn:n≠s.nx:=(free_heap hf _ (look_mem hn0)).1
      have hmn:m≠s.nx:=fun e=>by
       have:=(free_heap hf _ (look_mem hn0)).2
       simp [Ent.has,CV.has,e] at this
      have hc1:c.toList=[hd (σ m)]:=by
       have hl:=CVs_len hcs
       match hq:c.toList,hl,hcs with
       | [v],_,hcs => simp only [CVs,CVr] at hcs; rw [hcs.1]
      have hone:(hd (σ m)).oneCell'=true:=ent_one (hσ.ent _ (look_mem hm))
      refine xch hσ hE hp [n] s.nx _ (.tuple [.slice (some ⟨b,0,none⟩) 1 1,.agg #[hd (σ m)]].toArray) _ hf hn (fun q hq=>⟨n,by simp,⟨_,look_mem hn0⟩,?_⟩) (fun ha=>?_) (fun t v ht=>reH_sound ?_ ht)
      ·obtain ⟨v,hv,hq⟩:=hq
       have hv:v=.slice (some ⟨b,0,none⟩) 1 1∨v=.agg #[hd (σ m)]:=by simpa using hv
       rw [hs]
       rcases hv with rfl | rfl
       ·exact hq
       ·cases hq
      ·show SetsR _ _ _ _ _
       rw [upd_same]
       refine ⟨some ⟨b,0,none⟩,1,[.agg #[hd (σ m)]],rfl,by simp [List.filterMap_cons,blk],rfl,fun i hi=>by simp at hi,fun m' e'=>?_,.inr ⟨⟨by decide,by decide⟩,Nat.le_refl _,b,0,c,e,rfl,hh,?_,fun i hi=>?_⟩⟩
       ·cases e'
        rw [upd_ne hmn]
        exact ⟨rfl,hone⟩
       ·have:c.size=1:=by rw [← Array.length_toList,hc1]; rfl
        omega
       ·have:i=0:=by simpa using hi
        subst this
        rw [← Array.getElem?_toList,hc1]
        rfl
      ·rw [upd_same,upd_ne hnn,hs]
       rfl
     ·cases hg
    ·cases hg
   ·cases hg
 | toA m p k =>
   simp only [ghx] at hg
   split at hg
   ·rename_i cs hm
    split at hg
    ·rename_i bs hbs
     split at hg
     ·rename_i hk
      cases hg
      obtain ⟨b,c,e,h1,h2,h3⟩:=hσ.ent _ (look_mem hm)
      have hst:=stepW (w':=w) hσ hE hm (e':=.abox (cs.take p) k bs (cs.drop (p+k))) (fun _ _ _=>rfl) (Nat.le_refl _) rfl rfl rfl (fun _=>by
       refine ⟨hk,b,c,e,h1,h2,?_⟩
       rw [flatA,← boolsL_map hbs,← List.drop_drop,List.take_append_drop,List.take_append_drop]
       exact h3)
      exact ⟨σ,hst.1,hst.2.env,hp⟩
     ·cases hg
    ·cases hg
   ·cases hg
theorem ghx_nx {g:Gx} {s:St} {r:St×List Prop} (h:ghx g s=some r):s.nx≤r.1.nx:=by
 unfold ghx at h
 repeat' split at h
 all_goals first | (cases h; done) | (cases h; exact Nat.le_refl _) | (cases h; exact Nat.le_succ _)
section
variable {P:Program} {R:Type} {N n0:Nat} {Q:Qf R} {m:MS}
def gxM (g:Gx) (m:MS):MS:=
 match ghx g m.s with
 | some r => ⟨m.cs,m.fs,r.1⟩
 | none => m
theorem jgx (g:Gx) (ps:List Prop) (hp:allP ps) {x:Option R} (h:(ghx g m.s).map Prod.snd=some ps:=by kernel_rfl) (hr:J P N n0 Q (gxM g m) x):J P N n0 Q m x:=by
 constructor
 intro hn C hN hn0 r hx
 obtain ⟨⟨s',ps'⟩,hg,e⟩:=Option.map_eq_some_iff.1 h
 simp only at e
 subst e hn0
 have hnx:=ghx_nx hg
 have hM:gxM g m=⟨m.cs,m.fs,s'⟩:=by simp only [gxM,hg]
 rw [hM] at hr
 have:=hr.run (Nat.le_trans hn hnx) C hN rfl r hx
 exact fun a w hs=>this a w (ghx_sound hg hp hn hs)
theorem jg0 (g:Gx) {x:Option R} (h:(ghx g m.s).map Prod.snd=some []:=by kernel_rfl) (hr:J P N n0 Q (gxM g m) x):J P N n0 Q m x:=jgx g [] trivial h hr
theorem jgi (g:Gx) {p:Prop} [Decidable p] {x:Option R} (h:(ghx g m.s).map (fun r=>allP r.2)=some p:=by kernel_rfl) (hr:p→J P N n0 Q (gxM g m) x):J P N n0 Q m (if p then x else none):=by
 constructor
 intro hn C hN hn0 r hx
 obtain ⟨hp,hx'⟩:=of_if hx
 obtain ⟨⟨s',ps'⟩,hg,e⟩:=Option.map_eq_some_iff.1 h
 exact (jgx g ps' (by rw [show allP ps'=p from e]; exact hp) (by rw [hg]; rfl) (hr hp)).run hn C hN hn0 r hx'
def nl1 (P:Program) (N:Nat) (Γ:Env) (o:Oper):Option (Nat×Sigma fun k:Kd=>List k.ty):=
 match o.op,o.guard,o.dst with
 | .binOp .eql ts x (.const (.slice none 0 0)) _,none,some t => match P.underlying ts,evc Γ x with
  | some (.slice _),some (.imm (.slice k) xs) => if t<N then some (t,⟨k,xs⟩) else none
  | _,_ => none
 | _,_,_ => none
def mv1 (N:Nat) (Γ:Env) (o:Oper):Option (Nat×CV):=
 match o.op,o.guard,o.dst with
 | .move x,none,some t => match evc Γ x with
  | some v => if t<N then some (t,v) else none
  | none => none
 | _,_,_ => none
def nlq (P:Program) (N:Nat) (m:MS):Option (Nat×Env×Sigma fun k:Kd=>List k.ty):=
 match m.cs with
 | .region _ ops false :: _ => match ops.toList with
  | [o] => (nl1 P N m.s.Γ o).map fun r => (r.1,m.s.Γ,r.2)
  | [o1,o] => match mv1 N m.s.Γ o1 with
   | some (t1,v) => (nl1 P N ((t1,.c v) :: m.s.Γ) o).map fun r => (r.1,(t1,.c v) :: m.s.Γ,r.2)
   | none => none
  | _ => none
 | _ => none
def nlM (P:Program) (N:Nat) (b:Bool) (m:MS):MS:=
 match nlq P N m with
 | some r => ⟨m.cs.tail,m.fs,⟨(r.1,.c (.val (.bool b))) :: r.2.1,m.s.H,m.s.nx⟩⟩
 | none => m
theorem nl1_some {Γ:Env} {o:Oper} {r:Nat×Sigma fun k:Kd=>List k.ty} (h:nl1 P N Γ o=some r):∃ ts x ty e,o.op=.binOp .eql ts x (.const (.slice none 0 0)) ty∧o.guard=none∧o.dst=some r.1∧P.underlying ts=some (.slice e)∧evc Γ x=some (.imm (.slice r.2.1) r.2.2)∧r.1<N:=by
 unfold nl1 at h
 split at h
 ·rename_i ts x ty t h1 h2 h3
  split at h
  ·rename_i e k xs hu hx
   split at h
   ·rename_i hlt
    cases h
    exact ⟨ts,x,ty,e,h1,h2,h3,hu,hx,hlt⟩
   ·cases h
  ·cases h
 ·cases h
theorem mv1_some {Γ:Env} {o:Oper} {r:Nat×CV} (h:mv1 N Γ o=some r):∃ x,o.op=.move x∧o.guard=none∧o.dst=some r.1∧evc Γ x=some r.2∧r.1<N:=by
 unfold mv1 at h
 split at h
 ·rename_i x t h1 h2 h3
  split at h
  ·rename_i v hx
   split at h
   ·rename_i hlt
    cases h
    exact ⟨x,h1,h2,h3,hx,hlt⟩
   ·cases h
  ·cases h
 ·cases h
theorem jnil {k:Kd} (xs:List k.ty) {x:Option R} (h:(nlq P N m).map (fun r=>r.2.2)=some ⟨k,xs⟩:=by kernel_rfl) (h1:xs=[]→J P N n0 Q (nlM P N true m) x) (h2:J P N n0 Q (nlM P N false m) x):J P N n0 Q m x:=by
 constructor
 intro hn C hN hn0 r hx
 subst hN hn0
 obtain ⟨⟨t,Γ',k',xs'⟩,hq,e⟩:=Option.map_eq_some_iff.1 h
 simp only [Sigma.mk.injEq] at e
 obtain ⟨rfl,e⟩:=e
 cases eq_of_heq e
 have e1:nlM P C.N true m=⟨m.cs.tail,m.fs,⟨(t,.c (.val (.bool true))) :: Γ',m.s.H,m.s.nx⟩⟩:=by simp only [nlM,hq]
 have e2:nlM P C.N false m=⟨m.cs.tail,m.fs,⟨(t,.c (.val (.bool false))) :: Γ',m.s.H,m.s.nx⟩⟩:=by simp only [nlM,hq]
 have k1:=fun e=>(e1▸h1 e).run hn C rfl rfl r hx
 have k2:=(e2▸h2).run hn C rfl rfl r hx
 unfold nlq at hq
 split at hq
 ·rename_i id ops cs hm
  rw [hm] at k1 k2 ⊢
  split at hq
  ·rename_i o ho
   obtain ⟨⟨t0,k0,xs0⟩,hr1,e⟩:=Option.map_eq_some_iff.1 hq
   obtain ⟨ts,y,ty,e5,g1,g2,g3,g4,g5,g6⟩:=nl1_some hr1
   cases e
   have:ops = #[o]:=by apply Array.ext'; simpa using ho
   subst this
   exact VL_nilq _ g1 g2 g3 g4 g6 g5 k1 k2
  ·rename_i o1 o ho
   split at hq
   ·rename_i t1 v hv
    obtain ⟨⟨t0,k0,xs0⟩,hr1,e⟩:=Option.map_eq_some_iff.1 hq
    obtain ⟨ts,y,ty,e5,g1,g2,g3,g4,g5,g6⟩:=nl1_some hr1
    obtain ⟨z,f1,f2,f3,f4,f5⟩:=mv1_some hv
    cases e
    have:ops = #[o1,o]:=by apply Array.ext'; simpa using ho
    subst this
    exact VL_region (VO_move t1 f1 f2 f3 f5 f4 (VO_nilq _ g1 g2 g3 g4 g6 g5 (fun h=>VO_nil (k1 h)) (VO_nil k2)))
   ·cases hq
  ·cases hq
 ·cases hq
end
def setCut (xs:List (ByteArray×(Int×(Int×(Int×List (Int×Int)))))) (i:Nat) (zs:List (Int×Int)):List (ByteArray×(Int×(Int×(Int×List (Int×Int))))):=
 xs.set i ((xs.getD i (ByteArray.empty,(0,(0,(0,[]))))).1,(xs.getD i (ByteArray.empty,(0,(0,(0,[]))))).2.1,(xs.getD i (ByteArray.empty,(0,(0,(0,[]))))).2.2.1,(xs.getD i (ByteArray.empty,(0,(0,(0,[]))))).2.2.2.1,zs)
end Go.Pal
namespace Go.Pal
open Go Go.ChangeMaps
section
variable {P:Program}
theorem inj_map {α β:Type} {f:α→β} {l:List α} (hn:(l.map f).Nodup) {p q:α} (hp:p∈l) (hq:q∈l) (e:f p=f q):p=q:=by
 have hi:=List.pairwise_map.1 hn
 obtain ⟨i,hi1,rfl⟩:=List.getElem_of_mem hp
 obtain ⟨j,hj1,rfl⟩:=List.getElem_of_mem hq
 rcases Nat.lt_trichotomy i j with h | h | h
 ·exact absurd e (List.pairwise_iff_getElem.1 hi i j hi1 hj1 h)
 ·subst h; rfl
 ·exact absurd e.symm (List.pairwise_iff_getElem.1 hi j i hj1 hi1 h)
theorem mit_next {w:World} {v:Value} {left:List Int} {cur:Option Int} (h:MitR w v left cur) (ty:TypeId) :
 ∃ r b,hd v=.pointer (some ⟨r,0,none⟩)∧v=.tuple [.pointer (some ⟨r,0,none⟩),.map (some b)].toArray∧
 ((left=[]∧(Instr.next (.pointer (some ⟨r,0,none⟩)) false ty).run P w=.ok (.tuple #[.bool false]) w)∨
  ∃ g∈left,∃ (w1:World) (o:Obj),(w1=w∨w1=w.drew)∧(Instr.next (.pointer (some ⟨r,0,none⟩)) false ty).run P w=.ok (.tuple #[.bool true,.int .i64 g,.agg #[]]) (setBlock w1 r o)∧MitR (setBlock w1 r o) v (left.erase g) (some g)):=by
 obtain ⟨b,r,es,clock,seen,hv,hne,h1,h2,h3,h4,h5,h6,h7⟩:=h
 refine ⟨r,b,by rw [hv]; rfl,hv,?_⟩
 have hrl:r<w.heap.size:=(Array.getElem?_eq_some_iff.1 h2).1
 rcases run_next_at (P:=P) w ty r b clock clock seen es clock h2 h1 h3.1 (Nat.le_refl _) with ⟨k1,k2⟩ | ⟨e,he,w1,hw,k⟩
 ·refine .inl ⟨?_,k2⟩
  apply List.eq_nil_iff_forall_not_mem.2
  intro n hn
  obtain ⟨x,hx,_,hs⟩:=(h6 n).1 hn
  have:x∈(leftOf es seen).toList:=by unfold leftOf; simp at hx hs ⊢; exact ⟨hx,hs⟩
  have:0<(leftOf es seen).toList.length:=List.length_pos_of_mem this
  simp at this
  omega
 ·have he':e∈es.toList∧seen.contains e.born=false:=by unfold leftOf at he; simp at he ⊢; exact he
  obtain ⟨g,hk,hva⟩:=h4 e he'.1
  refine .inr ⟨g,(h6 g).2 ⟨e,he'.1,hk,he'.2⟩,w1,_,hw,by rw [k,hk,hva],?_⟩
  have hb1:w1.heap=w.heap:=by rcases hw with rfl | rfl <;> rfl
  refine ⟨b,r,es,clock,seen.push e.born,hv,hne,?_,?_,h3,h4,h5.erase g,fun n=>?_,fun g' hg=>?_⟩
  ·show (w1.heap.setIfInBounds r _)[b]? = _
   rw [hb1,Array.getElem?_setIfInBounds_ne (fun e=>hne e)]
   exact h1
  ·show (w1.heap.setIfInBounds r _)[r]? = _
   rw [hb1,Array.getElem?_setIfInBounds]
   simp [hrl]
  ·rw [h5.mem_erase_iff,h6 n]
   constructor
   ·rintro ⟨hng,x,hx,hxk,hxs⟩
    refine ⟨x,hx,hxk,?_⟩
    have hxs':¬ x.born∈seen:=by simpa using hxs
    have:x.born≠e.born:=fun hbe=>hng (by
     have:=inj_map h3.2.1 hx he'.1 hbe
     rw [this,hk] at hxk
     injection hxk with _ h
     exact h.symm)
    simp [hxs',this]
   ·rintro ⟨x,hx,hxk,hxs⟩
    have hxs':¬ x.born∈seen∧¬ x.born=e.born:=by simpa [not_or] using hxs
    refine ⟨fun e1=>hxs'.2 ?_,x,hx,hxk,by simpa using hxs'.1⟩
    subst e1
    have:=inj_map h3.2.2 hx he'.1 (hxk.trans hk.symm)
    rw [this]
  ·cases hg
   exact ⟨seen,e,rfl,he'.1,hk⟩
theorem VO_next {C:FC} {all:Array Oper} {o:Oper} {rest:List Oper} {Q:Exit→Act→World→Prop} {Γ:Env} {H:Heap} (t:Nat) {m:Nat} {left:List Int} {cur:Option Int} {x:Operand} (ho:o.op=.next x false) (hg:o.guard=none) (hd':o.dst=some t) (ht:t<C.N)
 (hx:evc Γ x=some (.h m)) (hm:look H m=some (.mit left cur))
 (h1:∀ g∈left,VO P C all rest Q ((t,.tup [(false,[.val (.bool true)]),(false,[.val (.int .i64 g)]),(true,[])]) :: Γ) ((m,.mit (left.erase g) (some g)) :: eraseH H m))
 (h0:left=[]→VO P C all rest Q ((t,.tup [(false,[.val (.bool false)])]) :: Γ) H):VO P C all (o :: rest) Q Γ H:=by
 rintro a w ⟨σ,hσ,hE,hp⟩
 have hM:MitR w (σ m) left cur:=hσ.ent _ (look_mem hm)
 obtain ⟨r,b,hhd,hv,hc⟩:=mit_next (P:=P) hM o.type
 have hxr:a.eval x=.pointer (some ⟨r,0,none⟩):=(show a.eval x=hd (σ m) from evc_sound hE hx).trans hhd
 have hw:Region.wanted o (yielded all a.tmps)=true:=by simp [Region.wanted,hg]
 unfold wpList
 rw [if_pos hw]
 refine .inl ?_
 unfold Oper.wp
 rcases hc with ⟨hl,hrun⟩ | ⟨g,hgl,w1,ob,hw1,hrun,hM'⟩
 ·have:(execOp a.eval o).run P w=.ok (.value (.tuple #[.bool false])) w:=by simp [execOp,ho,hxr,hrun]
  rw [this]
  have hsat:Sat C ((t,.tup [(false,[.val (.bool false)])]) :: Γ) H (a.put o.dst (.tuple #[.bool false])) w:=by
   rw [hd']
   exact ⟨σ,hσ,hE.put ht ⟨[.bool false],rfl,rfl,trivial⟩,hp⟩
  exact h0 hl _ _ hsat
 ·have:(execOp a.eval o).run P w=.ok (.value (.tuple #[.bool true,.int .i64 g,.agg #[]])) (setBlock w1 r ob):=by simp [execOp,ho,hxr,hrun]
  rw [this]
  have hb1:w1.heap=w.heap:=by rcases hw1 with rfl | rfl <;> rfl
  have hos:(setBlock w1 r ob).os=w.os∧(setBlock w1 r ob).tape=w.tape∧(setBlock w1 r ob).output=w.output:=by rcases hw1 with rfl | rfl <;> exact ⟨rfl,rfl,rfl⟩
  have hst:=stepW (w':=setBlock w1 r ob) hσ hE hm (e':=.mit (left.erase g) (some g)) (fun q _ hq=>by
   show (w1.heap.setIfInBounds r _)[q]? = _
   rw [hb1,Array.getElem?_setIfInBounds_ne (fun e=>hq (by rw [hv,← e]; exact Bk_tuple List.mem_cons_self rfl))]) (by
   show w.heap.size≤(w1.heap.setIfInBounds r _).size
   rw [hb1,Array.size_setIfInBounds]
   exact Nat.le_refl _) hos.1 hos.2.1 hos.2.2 (fun _=>hM')
  have hsat:Sat C ((t,.tup [(false,[.val (.bool true)]),(false,[.val (.int .i64 g)]),(true,[])]) :: Γ) ((m,.mit (left.erase g) (some g)) :: eraseH H m) (a.put o.dst (.tuple #[.bool true,.int .i64 g,.agg #[]])) (setBlock w1 r ob):=by
   rw [hd']
   exact ⟨σ,hst.1,hst.2.env.put ht ⟨[.bool true,.int .i64 g,.agg #[]],rfl,rfl,rfl,⟨[],rfl,trivial⟩,trivial⟩,hp⟩
  exact h1 g hgl _ _ hsat
def nxR (P:Program) (N:Nat) (g:Option Int) (m:MS):Option (List Int×MS):=
 match m.cs with
 | .region _ ops false :: cs => match ops.toList with
  | o :: os => match o.op,o.guard,o.dst with
      | .next x false,none,some t => match evc m.s.Γ x with
       | some (.h n) => match look m.s.H n with
        | some (.mit left cur) => if t<N then
         match runOps P N ops ops.size os (match g with
          | some g => ⟨(t,.tup [(false,[.val (.bool true)]),(false,[.val (.int .i64 g)]),(true,[])]) :: m.s.Γ,(n,.mit (left.erase g) (some g)) :: eraseH m.s.H n,m.s.nx⟩
          | none => ⟨(t,.tup [(false,[.val (.bool false)])]) :: m.s.Γ,m.s.H,m.s.nx⟩) with
         | some (s,[]) => some (left,⟨cs,m.fs,s⟩)
         | _ => none else none
        | _ => none
       | _ => none
      | _,_,_ => none
  | [] => none
 | _ => none
def nxM (P:Program) (N:Nat) (g:Option Int) (m:MS):MS:=
 match nxR P N g m with
 | some r => r.2
 | none => m
variable {R:Type} {N n0:Nat} {Q:Qf R} {m:MS}
theorem jmit (left:List Int) {x:Option R} (e1:∀ g,(nxR P N (some g) m).map Prod.fst=some left) (e0:(nxR P N none m).map Prod.fst=some left:=by kernel_rfl)
 (h1:∀ g∈left,J P N n0 Q (nxM P N (some g) m) x) (h0:left=[]→J P N n0 Q (nxM P N none m) x):J P N n0 Q m x:=by
 constructor
 intro hn C hN hn0 r hx
 subst hN hn0
 obtain ⟨⟨l0,m0⟩,q0,e⟩:=Option.map_eq_some_iff.1 e0
 simp only at e
 subst e
 have k0:=fun e=>(h0 e).run
 have k1:∀ g∈l0,∃ m',nxR P C.N (some g) m=some (l0,m')∧(C.n0≤m'.s.nx→VL P C m'.cs (QX P (Q C r) m'.fs) m'.s.Γ m'.s.H):=by
  intro g hg
  obtain ⟨⟨l1,m1⟩,q1,e⟩:=Option.map_eq_some_iff.1 (e1 g)
  simp only at e
  subst e
  refine ⟨m1,q1,fun hh=>?_⟩
  have:=(h1 g hg).run
  simp only [nxM,q1] at this
  exact this hh C rfl rfl r hx
 simp only [nxM,q0] at k0
 unfold nxR at q0 k1
 split at q0
 ·rename_i id ops cs hm
  split at q0
  ·rename_i o os hos
   split at q0
   ·rename_i x' t ho hg hd
    split at q0
    ·rename_i n hx'
     split at q0
     ·rename_i left cur hl
      split at q0
      ·rename_i ht
       split at q0
       ·rename_i s hr
        cases q0
        rw [hm]
        refine VL_region ?_
        rw [hos]
        have hdrop:os.drop ops.size=[]:=by
         have:ops.size=os.length+1:=by rw [← Array.length_toList,hos]; rfl
         simp [this]
        refine VO_next t ho hg hd ht hx' hl (fun g hgl=>?_) (fun e=>?_)
        ·obtain ⟨m1,q1,hv⟩:=k1 g hgl
         simp only [hm,hos,ho,hg,hd,hx',hl,ht,if_true] at q1
         split at q1
         ·rename_i s1 hr1
          cases q1
          have hs:=runOps_sound (Q:=Exit.then (wpL P cs (QX P (Q C r) m.fs)) (QX P (Q C r) m.fs)) hr1 hn trivial
          refine hs.1 ?_
          rw [hdrop]
          exact VO_nil (hv (Nat.le_trans hn hs.2))
         ·cases q1
        ·have hs:=runOps_sound (Q:=Exit.then (wpL P cs (QX P (Q C r) m.fs)) (QX P (Q C r) m.fs)) hr hn trivial
         refine hs.1 ?_
         rw [hdrop]
         exact VO_nil (k0 e (Nat.le_trans hn hs.2) C rfl rfl r hx)
       ·cases q0
      ·cases q0
     ·cases q0
    ·cases q0
   ·cases q0
  ·cases q0
 ·cases q0
def splS (t n i:Nat) (ls:List (List Int)) (s:St):St:=⟨(t,.c (.h s.nx)) :: s.Γ,(s.nx,.map (ls.getD i [])) :: dropH s.H [n],s.nx+1⟩
theorem spl_sound {C:FC} {s:St} {a:Act} {w:World} {t n i:Nat} {ls:List (List Int)} (ht:look s.Γ t=some (.c (.elm n i))) (hm:look s.H n=some (.sets ls none)) (hf:free s.nx s.Γ s.H=true) (hi:i<ls.length) (hn:C.n0≤s.nx) (h:Sat C s.Γ s.H a w) :
 Sat C (splS t n i ls s).Γ (splS t n i ls s).H a w:=by
 obtain ⟨σ,hσ,hE,hp⟩:=h
 have hS:SetsR w σ (σ n) ls none:=hσ.ent _ (look_mem hm)
 obtain ⟨A,cap,vs,hv,h1,h2,h3,h4,h5⟩:=hS
 obtain ⟨b,hb,hM⟩:=h3 i hi
 have hc:cmp (σ n) i=.map (some b):=by
  rw [hv]
  simp only [cmp,tl,List.tail_cons,List.getD_eq_getElem?_getD,hb,Option.getD_some]
  rfl
 obtain ⟨h6,h7⟩:=hE.1 t _ ht
 have h7:a.tmps.getD t undef=cmp (σ n) i:=h7
 have hst:=stepSE (w':=w) hσ hE [n] s.nx (.map (ls.getD i [])) (.map (some b)) hf (fun _ _ _=>rfl) (Nat.le_refl _) rfl rfl rfl
  (fun q hq=>.inl ⟨n,by simp,⟨_,look_mem hm⟩,by
   cases hq
   rw [hv]
   exact Bk_tuple (List.mem_cons_of_mem _ (List.mem_of_getElem? hb)) rfl⟩)
  (fun _ _=>⟨b,upd_same _ _ _,by simpa [List.getD_eq_getElem?_getD,hi] using hM⟩)
 refine ⟨_,hst.1,Env_cons hst.2.env h6 ?_,fun k hk=>by rw [upd_ne (by omega)]; exact hp k hk⟩
 show _=hd (upd σ s.nx _ s.nx)
 rw [upd_same,h7,hc]
 rfl
theorem jspl (t n i:Nat) (ls:List (List Int)) (hi:i<ls.length) {x:Option R} (h:(look m.s.Γ t,look m.s.H n,free m.s.nx m.s.Γ m.s.H)=(some (.c (.elm n i)),some (.sets ls none),true):=by kernel_rfl)
 (hr:J P N n0 Q ⟨m.cs,m.fs,splS t n i ls m.s⟩ x):J P N n0 Q m x:=by
 constructor
 intro hn C hN hn0 r hx
 subst hn0
 simp only [Prod.mk.injEq] at h
 have:=hr.run (Nat.le_trans hn (Nat.le_succ _)) C hN rfl r hx
 exact fun a w hs=>this a w (spl_sound h.1 h.2.1 h.2.2 hi hn hs)
end
def fgR (f:Int) (left s g o:List Int):Int×List (List Int)×Int×List Int×List Int:=
 (0,[s.filter fun x=>!left.contains x],f,g.filter fun x=>!left.contains x,left.foldl (fun l x=>insS x l) o)
def inW (l:List Int):Bool:=l.all fun x=>decide (-9223372036854775808≤x∧x≤9223372036854775807)
theorem insS_comm (a b:Int) (l:List Int):insS a (insS b l)=insS b (insS a l):=by
 have key:∀ {a b:Int},a<b→insS a (insS b l)=insS b (insS a l):=by
  intro a b h
  simp only [insS,List.filter_append,List.filter_cons,List.filter_filter]
  have e1:decide (b<a)=false:=by simp; omega
  have e2:decide (a<b)=true:=by simpa using h
  simp only [e1,e2,if_true,Bool.false_eq_true,if_false,List.append_assoc,List.cons_append]
  have f1:∀ x:Int,(decide (x<a)&&decide (x<b))=decide (x<a):=fun x=>by
   by_cases hx:x<a <;> simp [hx]; omega
  have f2:∀ x:Int,(decide (x<a)&&decide (b<x))=false:=fun x=>by
   by_cases hx:x<a <;> simp [hx]; omega
  have f3:∀ x:Int,(decide (a<x)&&decide (b<x))=decide (b<x):=fun x=>by
   by_cases hx:b<x <;> simp [hx]; omega
  have f4:∀ x:Int,(decide (x<b)&&decide (x<a))=decide (x<a):=fun x=>by rw [Bool.and_comm]; exact f1 x
  have f5:∀ x:Int,(decide (b<x)&&decide (x<a))=false:=fun x=>by rw [Bool.and_comm]; exact f2 x
  have f6:∀ x:Int,(decide (b<x)&&decide (a<x))=decide (b<x):=fun x=>by rw [Bool.and_comm]; exact f3 x
  have f7:∀ x:Int,(decide (a<x)&&decide (x<b))=(decide (x<b)&&decide (a<x)):=fun x=>Bool.and_comm _ _
  have f8:l.filter (fun _=>false)=[]:=List.filter_eq_nil_iff.2 (by simp)
  simp [f1,f2,f3,f4,f5,f6,f7,f8]
 rcases Int.lt_trichotomy a b with h | h | h
 ·exact key h
 ·rw [h]
 ·exact (key h).symm
theorem foldl_erase {a:Int}:∀ {l o:List Int},a∈l→(l.erase a).foldl (fun l x=>insS x l) (insS a o)=l.foldl (fun l x=>insS x l) o
 | b :: l,o,h => by
   by_cases e:b=a
   ·subst e; simp
   ·rw [List.erase_cons_tail (by simpa using e)]
    simp only [List.foldl_cons]
    rw [insS_comm b a]
    exact foldl_erase (by simpa [Ne.symm e] using h)
theorem fgR_step {f a:Int} {left s g o:List Int} (h:a∈left):fgR f (left.erase a) (delS a s) (delS a g) (insS a o)=fgR f left s g o:=by
 have key:∀ l:List Int,(delS a l).filter (fun x=>!(left.erase a).contains x)=l.filter fun x=>!left.contains x:=fun l=>by
  simp only [delS,List.filter_filter]
  refine List.filter_congr fun x _=>?_
  by_cases e:x=a
  ·subst e; simp [h]
  ·simp [e,List.mem_erase_of_ne e]
 simp only [fgR,key,foldl_erase h]
end Go.Pal
namespace Go.Pal
open Go
section
variable {P:Program}
end
end Go.Pal
namespace Go.Pal
open Go
abbrev vI (x:Int):CV:=.val (.int .i64 x)
abbrev cH (t n:Nat):Nat×SV:=(t,.c (.h n))
abbrev eS (n:Nat) (l:List (List Int)):Nat×Ent:=(n,.sets l none)
abbrev eM (n:Nat) (l:List Int):Nat×Ent:=(n,.map l)
abbrev eI (n:Nat) (l:List Int):Nat×Ent:=(n,.row (.int .i64) l)
abbrev eE (n:Nat) (l:List aK.ty) (r:Nat):Nat×Ent:=(n,.box [.imm (.slice aK) l,.h r])
abbrev eR (n u:Nat) (f:Int) (g o:Nat):Nat×Ent:=(n,.box [.h u,.val (.int .i64 f),.h g,.h o])
abbrev eV (n e:Nat) (r:Option (Option Tree)) (l:List (Int×Int)) (s:List (Int×Int×Int)) (b:List Int):Nat×Ent:=(n,.box [.h e,.imm (.opt (.opt .node)) r,.imm (.slice (.pair (.int .i64) (.int .i64))) l,.imm (.slice (.pair (.int .i64) (.pair (.int .i64) (.int .i64)))) s,.imm (.slice (.int .i64)) b])
abbrev FP {R:Type} (P:Program) (f:FuncId) (n0:Nat) (args:List SV) (H:Heap) (x:Option R) (res:R→SV):Prop:=FS P f n0 args H x res fun _=>H
theorem a1 {p:Prop} (h:p):allP [p]:=ap1 h
theorem a2 {p0 p1:Prop} (x0:p0) (x1:p1):allP [p0,p1]:=ap2 x0 (a1 x1)
theorem a3 {p0 p1 p2:Prop} (x0:p0) (x1:p1) (x2:p2):allP [p0,p1,p2]:=ap2 x0 (a2 x1 x2)
theorem a4 {p0 p1 p2 p3:Prop} (x0:p0) (x1:p1) (x2:p2) (x3:p3):allP [p0,p1,p2,p3]:=ap2 x0 (a3 x1 x2 x3)
theorem a5 {p0 p1 p2 p3 p4:Prop} (x0:p0) (x1:p1) (x2:p2) (x3:p3) (x4:p4):allP [p0,p1,p2,p3,p4]:=ap2 x0 (a4 x1 x2 x3 x4)
theorem a6 {p0 p1 p2 p3 p4 p5:Prop} (x0:p0) (x1:p1) (x2:p2) (x3:p3) (x4:p4) (x5:p5):allP [p0,p1,p2,p3,p4,p5]:=ap2 x0 (a5 x1 x2 x3 x4 x5)
theorem a7 {p0 p1 p2 p3 p4 p5 p6:Prop} (x0:p0) (x1:p1) (x2:p2) (x3:p3) (x4:p4) (x5:p5) (x6:p6):allP [p0,p1,p2,p3,p4,p5,p6]:=ap2 x0 (a6 x1 x2 x3 x4 x5 x6)
theorem a8 {p0 p1 p2 p3 p4 p5 p6 p7:Prop} (x0:p0) (x1:p1) (x2:p2) (x3:p3) (x4:p4) (x5:p5) (x6:p6) (x7:p7):allP [p0,p1,p2,p3,p4,p5,p6,p7]:=ap2 x0 (a7 x1 x2 x3 x4 x5 x6 x7)
theorem a9 {p0 p1 p2 p3 p4 p5 p6 p7 p8:Prop} (x0:p0) (x1:p1) (x2:p2) (x3:p3) (x4:p4) (x5:p5) (x6:p6) (x7:p7) (x8:p8):allP [p0,p1,p2,p3,p4,p5,p6,p7,p8]:=ap2 x0 (a8 x1 x2 x3 x4 x5 x6 x7 x8)
theorem a10 {p0 p1 p2 p3 p4 p5 p6 p7 p8 p9:Prop} (x0:p0) (x1:p1) (x2:p2) (x3:p3) (x4:p4) (x5:p5) (x6:p6) (x7:p7) (x8:p8) (x9:p9):allP [p0,p1,p2,p3,p4,p5,p6,p7,p8,p9]:=ap2 x0 (a9 x1 x2 x3 x4 x5 x6 x7 x8 x9)
theorem a11 {p0 p1 p2 p3 p4 p5 p6 p7 p8 p9 p10:Prop} (x0:p0) (x1:p1) (x2:p2) (x3:p3) (x4:p4) (x5:p5) (x6:p6) (x7:p7) (x8:p8) (x9:p9) (x10:p10):allP [p0,p1,p2,p3,p4,p5,p6,p7,p8,p9,p10]:=ap2 x0 (a10 x1 x2 x3 x4 x5 x6 x7 x8 x9 x10)
theorem a12 {p0 p1 p2 p3 p4 p5 p6 p7 p8 p9 p10 p11:Prop} (x0:p0) (x1:p1) (x2:p2) (x3:p3) (x4:p4) (x5:p5) (x6:p6) (x7:p7) (x8:p8) (x9:p9) (x10:p10) (x11:p11):allP [p0,p1,p2,p3,p4,p5,p6,p7,p8,p9,p10,p11]:=ap2 x0 (a11 x1 x2 x3 x4 x5 x6 x7 x8 x9 x10 x11)
theorem a13 {p0 p1 p2 p3 p4 p5 p6 p7 p8 p9 p10 p11 p12:Prop} (x0:p0) (x1:p1) (x2:p2) (x3:p3) (x4:p4) (x5:p5) (x6:p6) (x7:p7) (x8:p8) (x9:p9) (x10:p10) (x11:p11) (x12:p12):allP [p0,p1,p2,p3,p4,p5,p6,p7,p8,p9,p10,p11,p12]:=ap2 x0 (a12 x1 x2 x3 x4 x5 x6 x7 x8 x9 x10 x11 x12)
theorem a14 {p0 p1 p2 p3 p4 p5 p6 p7 p8 p9 p10 p11 p12 p13:Prop} (x0:p0) (x1:p1) (x2:p2) (x3:p3) (x4:p4) (x5:p5) (x6:p6) (x7:p7) (x8:p8) (x9:p9) (x10:p10) (x11:p11) (x12:p12) (x13:p13):allP [p0,p1,p2,p3,p4,p5,p6,p7,p8,p9,p10,p11,p12,p13]:=ap2 x0 (a13 x1 x2 x3 x4 x5 x6 x7 x8 x9 x10 x11 x12 x13)
theorem a15 {p0 p1 p2 p3 p4 p5 p6 p7 p8 p9 p10 p11 p12 p13 p14:Prop} (x0:p0) (x1:p1) (x2:p2) (x3:p3) (x4:p4) (x5:p5) (x6:p6) (x7:p7) (x8:p8) (x9:p9) (x10:p10) (x11:p11) (x12:p12) (x13:p13) (x14:p14):allP [p0,p1,p2,p3,p4,p5,p6,p7,p8,p9,p10,p11,p12,p13,p14]:=ap2 x0 (a14 x1 x2 x3 x4 x5 x6 x7 x8 x9 x10 x11 x12 x13 x14)
theorem a16 {p0 p1 p2 p3 p4 p5 p6 p7 p8 p9 p10 p11 p12 p13 p14 p15:Prop} (x0:p0) (x1:p1) (x2:p2) (x3:p3) (x4:p4) (x5:p5) (x6:p6) (x7:p7) (x8:p8) (x9:p9) (x10:p10) (x11:p11) (x12:p12) (x13:p13) (x14:p14) (x15:p15):allP [p0,p1,p2,p3,p4,p5,p6,p7,p8,p9,p10,p11,p12,p13,p14,p15]:=ap2 x0 (a15 x1 x2 x3 x4 x5 x6 x7 x8 x9 x10 x11 x12 x13 x14 x15)
theorem a17 {p0 p1 p2 p3 p4 p5 p6 p7 p8 p9 p10 p11 p12 p13 p14 p15 p16:Prop} (x0:p0) (x1:p1) (x2:p2) (x3:p3) (x4:p4) (x5:p5) (x6:p6) (x7:p7) (x8:p8) (x9:p9) (x10:p10) (x11:p11) (x12:p12) (x13:p13) (x14:p14) (x15:p15) (x16:p16):allP [p0,p1,p2,p3,p4,p5,p6,p7,p8,p9,p10,p11,p12,p13,p14,p15,p16]:=ap2 x0 (a16 x1 x2 x3 x4 x5 x6 x7 x8 x9 x10 x11 x12 x13 x14 x15 x16)
theorem a18 {p0 p1 p2 p3 p4 p5 p6 p7 p8 p9 p10 p11 p12 p13 p14 p15 p16 p17:Prop} (x0:p0) (x1:p1) (x2:p2) (x3:p3) (x4:p4) (x5:p5) (x6:p6) (x7:p7) (x8:p8) (x9:p9) (x10:p10) (x11:p11) (x12:p12) (x13:p13) (x14:p14) (x15:p15) (x16:p16) (x17:p17):allP [p0,p1,p2,p3,p4,p5,p6,p7,p8,p9,p10,p11,p12,p13,p14,p15,p16,p17]:=ap2 x0 (a17 x1 x2 x3 x4 x5 x6 x7 x8 x9 x10 x11 x12 x13 x14 x15 x16 x17)
theorem a19 {p0 p1 p2 p3 p4 p5 p6 p7 p8 p9 p10 p11 p12 p13 p14 p15 p16 p17 p18:Prop} (x0:p0) (x1:p1) (x2:p2) (x3:p3) (x4:p4) (x5:p5) (x6:p6) (x7:p7) (x8:p8) (x9:p9) (x10:p10) (x11:p11) (x12:p12) (x13:p13) (x14:p14) (x15:p15) (x16:p16) (x17:p17) (x18:p18):allP [p0,p1,p2,p3,p4,p5,p6,p7,p8,p9,p10,p11,p12,p13,p14,p15,p16,p17,p18]:=ap2 x0 (a18 x1 x2 x3 x4 x5 x6 x7 x8 x9 x10 x11 x12 x13 x14 x15 x16 x17 x18)
theorem a20 {p0 p1 p2 p3 p4 p5 p6 p7 p8 p9 p10 p11 p12 p13 p14 p15 p16 p17 p18 p19:Prop} (x0:p0) (x1:p1) (x2:p2) (x3:p3) (x4:p4) (x5:p5) (x6:p6) (x7:p7) (x8:p8) (x9:p9) (x10:p10) (x11:p11) (x12:p12) (x13:p13) (x14:p14) (x15:p15) (x16:p16) (x17:p17) (x18:p18) (x19:p19):allP [p0,p1,p2,p3,p4,p5,p6,p7,p8,p9,p10,p11,p12,p13,p14,p15,p16,p17,p18,p19]:=ap2 x0 (a19 x1 x2 x3 x4 x5 x6 x7 x8 x9 x10 x11 x12 x13 x14 x15 x16 x17 x18 x19)
section
variable {P:Program} {R:Type} {N n0:Nat} {Q:Qf R} {m:MS} {x:Option R}
theorem jM (n:Nat) (hr:J P N n0 Q (goM P N n m) x) (h:(runM P N n m).map Prod.snd=some []:=by kernel_rfl):J P N n0 Q m x:=jm n h hr
theorem jI (n:Nat) {p:Prop} [Decidable p] (hr:p→J P N n0 Q (goM P N n m) x) (h:(runM P N n m).map (fun r=>allP r.2)=some p:=by kernel_rfl):J P N n0 Q m (if p then x else none):=ji n h hr
theorem jN (n:Nat) {ps:List Prop} (hp:allP ps) (hr:J P N n0 Q (goM P N n m) x) (h:(runM P N n m).map Prod.snd=some ps:=by kernel_rfl):J P N n0 Q m x:=jn n ps hp h hr
theorem jF {f:FuncId} {fn:Func} {args:List SV} {H:Heap} {res:R→SV} {H1:R→Heap} {y:Option R} (hf:P.funcs[f]? = some fn) (e:x=y)
 (h:J P fn.ntmps n0 (Qfn P fn res H1) ⟨bodyOf fn,[],⟨envFrom 0 args,H,n0⟩⟩ y) (hl:(decide (args.length≤fn.ntmps)&&fn.body.isSome)=true:=by kernel_rfl):FS P f n0 args H x res H1:=jfn hf (jy e h) hl
theorem jC {b:Bool} {y:Option R} (h1:J P N n0 Q (cT m) x) (h2:J P N n0 Q (cF m) y) (h:cB0 m=some b:=by kernel_rfl):J P N n0 Q m (if b=true then x else y):=jc h (fun _=>h1) fun _=>h2
theorem jR (l:List (CP P)) (kn:List (Nat×Bool)) {ps:List Prop} (hp:allP ps) (hr:J P N n0 Q (regM P N l kn m) x) (hc:(l.all fun c=>callable P c.c.f)=true:=by kernel_rfl)
 (h:(regA P N l kn m).map (fun d=>(d.c,d.e1.map Prod.fst,d.e2.map Prod.fst))=(regA P N l kn m).bind (fun d=>some (ps,d.e1.map Prod.snd,d.e2.map Prod.snd)):=by kernel_rfl)
 (h0:(regA P N l kn m).isSome=true:=by kernel_rfl):J P N n0 Q m x:=jr l kn ps hp hc h h0 hr
theorem jRi (l:List (CP P)) (kn:List (Nat×Bool)) {p:Prop} [Decidable p] (hr:p→J P N n0 Q (regM P N l kn m) x) (hc:(l.all fun c=>callable P c.c.f)=true:=by kernel_rfl)
 (h:(regA P N l kn m).map (fun d=>(allP d.c,d.e1.map Prod.fst,d.e2.map Prod.fst))=(regA P N l kn m).bind (fun d=>some (p,d.e1.map Prod.snd,d.e2.map Prod.snd)):=by kernel_rfl)
 (h0:(regA P N l kn m).isSome=true:=by kernel_rfl):J P N n0 Q m (if p then x else none):=jri l kn hc h h0 hr
theorem jW (l:List (CP P)) (hr:J P N n0 Q (drwM P N l [] m) x) (hmx:P.follows .mixedOrders=true:=by kernel_rfl) (hc:(l.all fun c=>callable P c.c.f)=true:=by kernel_rfl)
 (h:(drwA P N l [] m).map (fun d=>(d.c,d.e1.map Prod.fst,d.e2.map Prod.fst))=(drwA P N l [] m).bind (fun d=>some ([],d.e1.map Prod.snd,d.e2.map Prod.snd)):=by kernel_rfl)
 (h0:(drwA P N l [] m).map (fun d=>decide (m.s.nx≤d.s.nx))=some true:=by kernel_rfl):J P N n0 Q m x:=jw0 l hmx hc h h0 hr
theorem jWp (l:List (CP P)) (kn:List (Nat×Bool)) {ps:List Prop} (hp:allP ps) (hr:J P N n0 Q (drwM P N l kn m) x) (hmx:P.follows .mixedOrders=true:=by kernel_rfl) (hc:(l.all fun c=>callable P c.c.f)=true:=by kernel_rfl)
 (h:(drwA P N l kn m).map (fun d=>(d.c,d.e1.map Prod.fst,d.e2.map Prod.fst))=(drwA P N l kn m).bind (fun d=>some (ps,d.e1.map Prod.snd,d.e2.map Prod.snd)):=by kernel_rfl)
 (h0:(drwA P N l kn m).map (fun d=>decide (m.s.nx≤d.s.nx))=some true:=by kernel_rfl):J P N n0 Q m x:=jw l kn ps hp hmx hc h h0 hr
theorem jG (g:Gx) (hr:J P N n0 Q (gxM g m) x) (h:(ghx g m.s).map Prod.snd=some []:=by kernel_rfl):J P N n0 Q m x:=jg0 g h hr
theorem jT {fn:Func} {res:R→SV} {H1:R→Heap} (inv:List (Nat×Nat)) (hm:isRet m=true:=by kernel_rfl)
 (h:x.map (fun r=>(some ((res r).ren inv),renH inv (H1 r),decide (((H1 r).map fun p=>rn inv p.1)).Nodup&&decide ((H1 r).map Prod.fst).Nodup&&inv.all fun p=>decide (n0≤p.1))) =
  x.bind (fun r=>some (resS P m.s.Γ m.s.H fn.results.toList,pickH m.s.H ((H1 r).map fun p=>rn inv p.1),true)):=by kernel_rfl):J P N n0 (Qfn P fn res H1) m x:=jt (rr inv h) hm
theorem jX {X:Type} {fs:List Fm} {L:Nat→X→Option R} {Γ:X→Env} {H:X→Heap} {k:Nat} (z:X) (inv:List (Nat×Nat)) (hf:(renΓ inv (Γ z),renH inv (H z),decide ((H z).map fun p=>rn inv p.1).Nodup&&decide ((H z).map Prod.fst).Nodup&&inv.all fun p=>decide (n0≤p.1))=(pickΓ m.s.Γ ((Γ z).map Prod.fst),pickH m.s.H ((H z).map fun p=>rn inv p.1),true):=by kernel_rfl)
 (h:(m.cs.isEmpty&&m.fs.isEmpty)=true:=by kernel_rfl):J P N n0 (Ql P Q fs L Γ H k) m (L k z):=jx z rfl inv hf h
theorem jA {Y:Type} {cont:Y→Option R} {y:Option Y} (nx:Nat) (Γm:Y→Env) (Hm:Y→Heap) (h1:J P N n0 (Qc P Q m.fs cont (fun y=>y) Γm Hm) (cut1 m) y)
 (h2:∀ y,J P N n0 Q (cutR m (Γm y) (Hm y) nx) (cont y)) (h:(decide (n0≤nx)&&!m.cs.isEmpty)=true:=by kernel_rfl):J P N n0 Q m (y.bind cont):=ja nx Γm Hm h h1 h2
theorem jL {X:Type} (L:Nat→X→Option R) (k0:Nat) (x0:X) (nx:Nat) (inv:List (Nat×Nat)) (Γ:X→Env) (H:X→Heap) (round:∀ k x,J P N n0 (Ql P Q m.fs L Γ H k) (bodM m (Γ x) (H x) nx) (L (k+1) x)) (e:L k0 x0=x:=by rfl) (hz:∀ x,L 0 x=none:=by intro; rfl)
 (hf:(renΓ inv (Γ x0),renH inv (H x0),decide ((H x0).map fun p=>rn inv p.1).Nodup&&decide ((H x0).map Prod.fst).Nodup&&inv.all fun p=>decide (n0≤p.1))=(pickΓ m.s.Γ ((Γ x0).map Prod.fst),pickH m.s.H ((H x0).map fun p=>rn inv p.1),true):=by kernel_rfl) (h:(decide (n0≤nx)&&isLoop m)=true:=by kernel_rfl):J P N n0 Q m x:=jl L k0 x0 e nx inv Γ H hz hf h round
def zr (l:List Nat):List (Nat×Nat):=(List.range l.length).zip l
def regC (P:Program) (N:Nat) (cl:List (Nat×CallI)) (m:MS):Option SA:=
 match m.cs with
 | .region _ ops false :: _ => seqAll P N cl [] ops ops.size 0 ops.toList m.s
 | _ => none
def regN (P:Program) (N:Nat) (cl:List (Nat×CallI)) (m:MS):MS:=
 match regC P N cl m with
 | some r => ⟨m.cs.tail,m.fs,r.s⟩
 | none => m
theorem jB {A:Type} {y:Option A} {k:A→Option R} {f:FuncId} {m0:Nat} {args:List SV} {H:Heap} {res:A→SV} {H1:A→Heap} (i:Nat) (S:FS P f m0 args H y res H1) (ρ:List Nat) (nx:Nat)
 (hr:∀ r,J P N n0 Q (regN P N [(i,⟨f,m0,args,H,res r,H1 r,zr ρ,nx⟩)] m) (k r)) (hc:callable P f=true:=by kernel_rfl)
 (h:(fun r=>(regC P N [(i,⟨f,m0,args,H,res r,H1 r,zr ρ,nx⟩)] m).map (fun d=>(d.c,d.e1.map Prod.fst,d.e2.map Prod.fst)))=(fun r=>(regC P N [(i,⟨f,m0,args,H,res r,H1 r,zr ρ,nx⟩)] m).bind (fun d=>some ([],d.e1.map Prod.snd,d.e2.map Prod.snd))):=by kernel_rfl)
 (h0:(fun r=>(regC P N [(i,⟨f,m0,args,H,res r,H1 r,zr ρ,nx⟩)] m).isSome)=(fun _=>true):=by kernel_rfl):J P N n0 Q m (y.bind k):=
 jb fun r hx=>jr0 [cp i (S r hx) (zr ρ) nx] (by simp only [List.all_cons,List.all_nil,Bool.and_true]; exact hc) (congrFun h r) (congrFun h0 r) (hr r)
end
end Go.Pal
namespace Go.Pal
open Go Go.ChangeShapes Go.WideShapes Go.RowKit
def Kd.bytes:Kd→Nat
 | .int k => k.bits / 8
 | .bool => 1
 | .str => 16
 | .slice _ => 24
 | .opt _ => 8
 | .pair a b => a.bytes+b.bytes
 | .node => 96
def Kd.ok:(k:Kd)→k.ty→Prop
 | .int ik,n => (Lit.int ik n).wf=true
 | .bool,_ => True
 | .str,s => s.size ≤ 140737488351232
 | .slice e,xs => xs.length * e.bytes ≤ 140737488351232 ∧ ∀ x ∈ xs,e.ok x
 | .opt e,x => ∀ y,x=some y → e.ok y
 | .pair a b,x => a.ok x.1 ∧ b.ok x.2
 | .node,_ => True
def Kd.bulk:(k:Kd)→k.ty→Nat
 | .int _,_ => 1
 | .bool,_ => 1
 | .str,s => s.size+1
 | .slice e,xs => ((show List e.ty from xs).map e.bulk).sum+1
 | .opt _,_ => 1
 | .pair a b,x => a.bulk x.1+b.bulk x.2
 | .node,_ => 1
theorem Kd.one_le:∀ (k:Kd) (y:k.ty),1≤k.bulk y
 | .int _,_ => Nat.le_refl _
 | .bool,_ => Nat.le_refl _
 | .str,s => by simp [Kd.bulk]
 | .slice e,xs => by simp [Kd.bulk]
 | .opt _,_ => Nat.le_refl _
 | .pair a b,x => by have := a.one_le x.1; simp only [Kd.bulk]; omega
 | .node,_ => Nat.le_refl _
theorem Kd.bulk_len {e:Kd}:∀ {xs:List e.ty},xs.length+1≤Kd.bulk (.slice e) xs
 | [] => by simp [Kd.bulk]
 | x :: xs => by
   have h1:=e.one_le x
   have h2:=Kd.bulk_len (e:=e) (xs:=xs)
   simp only [Kd.bulk,List.map_cons,List.sum_cons,List.length_cons] at h2 ⊢
   omega
structure BulkFn {H:Type} (B:DataW H→Nat) (BA:List (DataW H)→Nat):Prop where
 one:∀ d,1≤B d
 str:∀ b:List UInt8,B (.lit (.string b))=b.length+1
 slice:∀ e s,B (.slice e s)=BA e+BA s+1
 agg:∀ p,B (.agg p)=BA p+1
 nil:BA []=0
 cons:∀ d r,BA (d :: r)=B d+BA r
def fitsFs (g:TypeId→Kd→Bool):Nat→List Field→Kd→Bool
 | off,[f],k => f.offset == off && g f.type k
 | off,f :: f' :: fs,.pair a b => f.offset == off && g f.type a && fitsFs g (off+a.sz) (f' :: fs) b
 | _,_,_ => false
def fitsRep (g:Kd→Bool):Nat→Kd→Bool
 | 1,k => g k
 | n+2,.pair a b => g a && fitsRep g (n+1) b
 | _,_ => false
def fitsK (P:Program):Nat→TypeId→Kd→Bool
 | 0,_,_ => false
 | f+1,t,k => P.cellsOf t == k.sz && decide (k.bytes ≤ P.bytesOf t) && (match P.underlying t,k with
   | _,.node => false
   | some (.int i),.int j => i == j
   | some .bool,.bool => true
   | some .string,.str => true
   | some (.slice e),.slice ke => fitsK P f e ke
   | some (.struct fs),k => fitsFs (fitsK P f) 0 fs.toList k
   | some (.array n e),k => fitsRep (fitsK P f e) n k
   | _,_ => false)
theorem chooseL {α:Type} {Q:Nat→α→Prop}:∀ {n:Nat},(∀ i,i<n→∃ y,Q i y)→∃ ys:List α,ys.length=n∧∀ i (h:i<ys.length),Q i ys[i]
 | 0,_ => ⟨[],rfl,fun i h => by simp at h⟩
 | n+1,h => by
   obtain ⟨ys,hl,hq⟩:=chooseL (n:=n) fun i hi=>h i (by omega)
   obtain ⟨y,hy⟩:=h n (by omega)
   refine ⟨ys++[y],by simp [hl],fun i hi=>?_⟩
   rcases Nat.lt_or_ge i ys.length with hlt | hge
   ·rw [List.getElem_append_left hlt]; exact hq i hlt
   ·have hin:i=n:=by simp at hi; omega
    subst hin
    have:(ys++[y])[i]=y:=by
     rw [List.getElem_append_right (by omega)]; simp
    rw [this]; exact hy
section
variable {H:Type} {enc:TypeId×Value→H} {P:Program} {w:World} {base:Nat} {sp:Nat→Bool} {held:Bool}
theorem weights_all {e:TypeId}:∀ {l:List (DataW H×List MemPlace)} {y:DataW H×List MemPlace},y∈l→∀ m∈y.1.weights P e,m∈DataW.weightsAll P e (l.map (·.1))
 | x :: l,y,hy,m,hm => by
   simp only [List.map_cons,DataW.weightsAll,List.mem_append]
   rcases List.mem_cons.1 hy with rfl | hy
   ·exact .inl hm
   ·exact .inr (weights_all hy m hm)
theorem spot_none {a:Addr} {v:Value} {n:Nat} (hn:n=0∨a.spot=none) (h:w.cell? (a.add n)=some v):a.spot=none:=by
 rcases hn with rfl | hn
 ·unfold Addr.add World.cell? at h
  simp only [if_true] at h
  split at h
  ·split at h
   ·cases h
   ·rename_i hs
    cases hsp:a.spot with
    | none => rfl
    | some x => rw [hsp] at hs; simp at hs
  ·cases h
 ·exact hn
theorem open_kind:∀ (n f:Nat) (t:TypeId) (k:Kd) (cs:List Value) (x:DataW H×List MemPlace),fitsK P f t k=true→DataW.trod enc P w base sp held n t cs=some x→(∀ m∈x.1.weights P t,m≤reachBytes)→
 ∃ y:k.ty,k.R (fun _=>False) w y cs∧k.ok y∧∀ B BA,BulkFn B BA→k.bulk y≤B x.1:=by
 intro n
 induction n with
 | zero => intro f t k cs x _ h; simp [DataW.trod] at h
 | succ n ih =>
   intro f t k cs x hf h hw
   cases f with
   | zero => simp [fitsK] at hf
   | succ f =>
     simp only [fitsK,Bool.and_eq_true,beq_iff_eq,decide_eq_true_eq] at hf
     obtain ⟨⟨hc,hb⟩,hf⟩:=hf
     split at hf
     ·cases hf
     ·rename_i i j hu
      have hij:i=j:=by simpa using hf
      subst hij
      obtain ⟨m,rfl,rfl,hwf⟩:=DataW.trod_int hu h
      exact ⟨m,rfl,hwf,fun B BA h=>h.one _⟩
     ·rename_i hu
      obtain ⟨b,rfl,rfl⟩:=DataW.trod_bool hu h
      exact ⟨b,rfl,trivial,fun B BA h=>h.one _⟩
     ·rename_i hu
      obtain ⟨s,rfl,rfl,hs⟩:=DataW.trod_string hu h
      refine ⟨s,rfl,?_,fun B BA h=>by rw [h.str]; simp [Kd.bulk]⟩
      have:=hw s.data.toList.length (by simp [DataW.weights])
      simpa [Kd.ok,reachBytes] using this
     ·rename_i e ke hu
      rcases DataW.trod_slice hu h with h0 | ⟨a,len,cap,elems,rest,m,hm,rfl,rfl,hbase,hl,hmx,hlen,hel,hsp,hns⟩
      ·obtain ⟨rfl,rfl⟩:=h0
       exact ⟨[],⟨none,0,rfl,Nat.le_refl _,fun i hi=>by simp at hi⟩,⟨by simp,fun x hx=>by cases hx⟩,fun B BA h=>by simp [Kd.bulk]; exact h.one _⟩
      ·obtain rfl:n=m:=by omega
       have hz:P.cellsOf e=ke.sz:=by
        cases f with
        | zero => simp [fitsK] at hf
        | succ f => simp only [fitsK,Bool.and_eq_true,beq_iff_eq,decide_eq_true_eq] at hf; exact hf.1.1
       have hby:ke.bytes≤P.bytesOf e:=by
        cases f with
        | zero => simp [fitsK] at hf
        | succ f => simp only [fitsK,Bool.and_eq_true,beq_iff_eq,decide_eq_true_eq] at hf; exact hf.1.2
       have each:∀ i,i<len→∃ y:ke.ty,(∃ c,ke.R (fun _=>False) w y c∧w.cells? base (a.add (i * P.cellsOf e)) (P.cellsOf e)=some c)∧ke.ok y∧∀ d,(elems.map (·.1))[i]? = some d→∀ B BA,BulkFn B BA→ke.bulk y≤B d:=by
        intro i hi
        have he:=hel i hi
        have hx:elems[i]? = some (elems[i]'(by omega)):=by simp
        rw [hx] at he
        obtain ⟨c,hcs,htr⟩:=Option.bind_eq_some_iff.1 he
        obtain ⟨y,hR,hok,hbk⟩:=ih f e ke c _ hf htr (fun m hm=>hw m (by
         simp only [DataW.weights,hu,List.mem_cons,List.mem_append]
         exact .inr (.inl (weights_all (List.getElem_mem (by omega)) m hm))))
        exact ⟨y,⟨c,hR,hcs⟩,hok,fun d hd=>by rw [List.getElem?_map,hx] at hd; cases hd; exact hbk⟩
       obtain ⟨ys,hyl,hys⟩:=chooseL each
       subst hyl
       have hspot:ys≠[]→a.spot=none:=by
        intro hne
        have h0:0<ys.length:=List.length_pos_iff.2 hne
        obtain ⟨⟨c,hR,hcs⟩,_⟩:=hys 0 h0
        obtain ⟨_,hcl,hcc⟩:=World.cells?_some hcs
        have hp:=Kd.sz_pos ke
        have h1:=hcc 0 (by omega)
        have hs:c[0]? = some (c[0]'(by omega)):=by simp
        rw [hs] at h1
        rw [Nat.zero_mul] at h1
        have:a.add 0=a:=by simp [Addr.add]
        rw [this] at h1
        exact spot_none (n:=0) (.inl rfl) (by rw [this]; exact h1)
       refine ⟨ys,⟨some a,cap,rfl,hl,fun i hi=>?_⟩,⟨?_,?_⟩,?_⟩
       ·obtain ⟨⟨c,hR,hcs⟩,_⟩:=hys i hi
        have hsp0:=hspot (by intro e; rw [e] at hi; simp at hi)
        obtain ⟨_,hcl,hcc⟩:=World.cells?_some hcs
        refine ⟨a.block,a.off,c,?_,fun h=>h,hR,fun j hj=>?_⟩
        ·cases a; simp only at hsp0; subst hsp0; rfl
        ·have:=hcc j (by omega)
         rw [← this]
         congr 1
         cases a
         simp only at hsp0
         subst hsp0
         rw [hz,Addr.add_lit,Addr.add_lit]
       ·have:=hw ((elems.map (·.1)).length+(rest.map (·.1)).length |> (·* P.bytesOf e)) (by simp [DataW.weights,hu])
        simp only [List.length_map,reachBytes] at this
        refine Nat.le_trans (Nat.mul_le_mul (show ys.length≤elems.length+rest.length by omega) hby) this
       ·intro y hy
        obtain ⟨i,hi,rfl⟩:=List.getElem_of_mem hy
        exact (hys i hi).2.1
       ·intro B BA hB
        have key:∀ (ds:List (DataW H)) (zs:List ke.ty),zs.length≤ds.length→(∀ i (h:i<zs.length) d,ds[i]? = some d→ke.bulk zs[i]≤B d)→(zs.map ke.bulk).sum≤BA ds:=by
         intro ds
         induction ds with
         | nil => intro zs hz _; have:zs=[] := List.eq_nil_of_length_eq_zero (by simpa using hz); subst this; simp
         | cons d ds ihd =>
           intro zs hz hq
           cases zs with
           | nil => simp
           | cons z zs =>
             have h1:=hq 0 (by simp) d rfl
             have h2:=ihd zs (by simpa using hz) (fun i h d' hd'=>by
              have:=hq (i+1) (by simpa using h) d' (by simpa using hd')
              rwa [List.getElem_cons_succ] at this)
             rw [hB.cons]
             simp only [List.map_cons,List.sum_cons]
             simp only [List.getElem_cons_zero] at h1
             omega
        have:=key (elems.map (·.1)) ys (by simp; omega) (fun i h d hd=>(hys i h).2.2 d hd B BA hB)
        rw [hB.slice]
        simp only [Kd.bulk]
        omega
     ·rename_i fs hu _
      obtain ⟨xs,m,hm,rfl,hcl,hxl,hfs⟩:=DataW.trod_struct hu h
      obtain rfl:n=m:=by omega
      have main:∀ (l:List Field) (j off:Nat) (k:Kd),fitsFs (fitsK P f) off l k=true→(∀ i g,l[i]? = some g→fs[j+i]? = some g)→j+l.length=fs.size→off+k.sz≤cs.length→(∀ m∈DataW.weightsEach P (l.map (·.type)) ((xs.drop j).map (·.1)),m≤reachBytes)→
       ∃ y:k.ty,k.R (fun _=>False) w y ((cs.drop off).take k.sz)∧k.ok y∧∀ B BA,BulkFn B BA→k.bulk y≤BA ((xs.drop j).map (·.1)):=by
       intro l
       induction l with
       | nil => intro j off k hfit; simp [fitsFs] at hfit
       | cons g l ihl =>
         intro j off k hfit hget hjl hoff hwt
         have hg0:fs[j]? = some g:=by simpa using hget 0 g rfl
         have hx:=hfs j g hg0
         have hjx:j<xs.length:=by rw [hxl]; simp at hjl; omega
         have hxj:xs[j]? = some xs[j]:=by simp
         have hdrop:xs.drop j=xs[j] :: xs.drop (j+1):=List.drop_eq_getElem_cons hjx
         rw [hxj] at hx
         have one:∀ ka:Kd,fitsK P f g.type ka=true→g.offset=off→∃ y:ka.ty,ka.R (fun _=>False) w y ((cs.drop off).take ka.sz)∧ka.ok y∧∀ B BA,BulkFn B BA→ka.bulk y≤B xs[j].1:=by
          intro ka hfa hgo
          have hz:P.cellsOf g.type=ka.sz:=by
           cases f with
           | zero => simp [fitsK] at hfa
           | succ f => simp only [fitsK,Bool.and_eq_true,beq_iff_eq,decide_eq_true_eq] at hfa; exact hfa.1.1
          rw [hgo,hz] at hx
          refine ih f g.type ka _ _ hfa hx fun m hm=>hwt m ?_
          rw [hdrop]
          simp only [List.map_cons,DataW.weightsEach,List.mem_append]
          exact .inl hm
         cases l with
         | nil =>
           simp only [fitsFs,Bool.and_eq_true,beq_iff_eq] at hfit
           obtain ⟨y,h1,o1,b1⟩:=one k hfit.2 hfit.1
           exact ⟨y,h1,o1,fun B BA hB=>by rw [hdrop,List.map_cons,hB.cons]; have:=b1 B BA hB; omega⟩
         | cons g' l =>
           cases k with
           | pair ka kb =>
             simp only [fitsFs,Bool.and_eq_true,beq_iff_eq] at hfit
             obtain ⟨⟨hgo,hfa⟩,hrest⟩:=hfit
             obtain ⟨y1,h1,o1,b1⟩:=one ka hfa hgo
             simp only [Kd.sz] at hoff
             obtain ⟨y2,h2,o2,b2⟩:=ihl (j+1) (off+ka.sz) kb hrest (fun i g hg=>by
              have:=hget (i+1) g (by simpa using hg)
              rwa [show j+(i+1)=j+1+i by omega] at this) (by simp at hjl ⊢; omega) (by omega) (fun m hm=>hwt m (by
               rw [hdrop]
               simp only [List.map_cons,DataW.weightsEach,List.mem_append] at hm ⊢
               exact .inr hm))
             refine ⟨(y1,y2),⟨_,_,?_,h1,h2⟩,⟨o1,o2⟩,fun B BA hB=>by rw [hdrop,List.map_cons,hB.cons]; have:=b1 B BA hB; have:=b2 B BA hB; simp only [Kd.bulk]; omega⟩
             rw [Kd.sz,← List.drop_drop]
             exact List.take_add ..
           | _ => simp [fitsFs] at hfit
      obtain ⟨y,hR,hok,hbk⟩:=main fs.toList 0 0 _ hf (fun i g hg=>by simpa using hg) (by simp) (by omega) (fun m hm=>hw m (by simp only [DataW.weights,hu]; simpa using hm))
      rw [List.drop_zero,← hc,← hcl,List.take_length] at hR
      exact ⟨y,hR,hok,fun B BA hB=>by rw [hB.agg]; have:=hbk B BA hB; simp only [List.drop_zero] at this; omega⟩
     ·rename_i len e hu _
      obtain ⟨xs,m,hm,rfl,hcl,hxl,hfs⟩:=DataW.trod_array hu h
      obtain rfl:n=m:=by omega
      have main:∀ (l j:Nat) (k:Kd),fitsRep (fitsK P f e) l k=true→j+l=len→j * P.cellsOf e+k.sz≤cs.length→
       ∃ y:k.ty,k.R (fun _=>False) w y ((cs.drop (j * P.cellsOf e)).take k.sz)∧k.ok y∧∀ B BA,BulkFn B BA→k.bulk y≤BA ((xs.drop j).map (·.1)):=by
       intro l
       induction l with
       | zero => intro j k hfit; simp [fitsRep] at hfit
       | succ l ihl =>
         intro j k hfit hjl hoff
         have hjx:j<xs.length:=by omega
         have hx:=hfs j (by omega)
         have hxj:xs[j]? = some xs[j]:=by simp
         have hdrop:xs.drop j=xs[j] :: xs.drop (j+1):=List.drop_eq_getElem_cons hjx
         rw [hxj] at hx
         have zs:∀ ka:Kd,fitsK P f e ka=true→P.cellsOf e=ka.sz:=by
          intro ka hfa
          cases f with
          | zero => simp [fitsK] at hfa
          | succ f => simp only [fitsK,Bool.and_eq_true,beq_iff_eq,decide_eq_true_eq] at hfa; exact hfa.1.1
         have one:∀ ka:Kd,fitsK P f e ka=true→∃ y:ka.ty,ka.R (fun _=>False) w y ((cs.drop (j * P.cellsOf e)).take ka.sz)∧ka.ok y∧∀ B BA,BulkFn B BA→ka.bulk y≤B xs[j].1:=by
          intro ka hfa
          have hz:=zs ka hfa
          have hx2:DataW.trod enc P w base sp held n e ((cs.drop (j * P.cellsOf e)).take ka.sz)=some xs[j]:=by rw [← hz]; exact hx
          refine ih f e ka _ _ hfa hx2 fun m hm=>hw m ?_
          simp only [DataW.weights,hu]
          exact weights_all (List.getElem_mem hjx) m hm
         cases l with
         | zero =>
           obtain ⟨y,h1,o1,b1⟩:=one k hfit
           exact ⟨y,h1,o1,fun B BA hB=>by rw [hdrop,List.map_cons,hB.cons]; have:=b1 B BA hB; omega⟩
         | succ l =>
           cases k with
           | pair ka kb =>
             simp only [fitsRep,Bool.and_eq_true] at hfit
             obtain ⟨hfa,hrest⟩:=hfit
             have hz:=zs ka hfa
             obtain ⟨y1,h1,o1,b1⟩:=one ka hfa
             simp only [Kd.sz] at hoff
             obtain ⟨y2,h2,o2,b2⟩:=ihl (j+1) kb hrest (by omega) (by rw [Nat.succ_mul,hz]; rw [hz] at hoff; omega)
             refine ⟨(y1,y2),⟨_,_,?_,h1,h2⟩,⟨o1,o2⟩,fun B BA hB=>by rw [hdrop,List.map_cons,hB.cons]; have:=b1 B BA hB; have:=b2 B BA hB; simp only [Kd.bulk]; omega⟩
             rw [Kd.sz,show (j+1) * P.cellsOf e=j * P.cellsOf e+ka.sz by rw [Nat.succ_mul,hz],← List.drop_drop]
             exact List.take_add ..
           | _ => simp [fitsRep] at hfit
      obtain ⟨y,hR,hok,hbk⟩:=main len 0 _ hf (by omega) (by omega)
      rw [Nat.zero_mul,List.drop_zero,← hc,← hcl,List.take_length] at hR
      exact ⟨y,hR,hok,fun B BA hB=>by rw [hB.agg]; have:=hbk B BA hB; simp only [List.drop_zero] at this; omega⟩
     ·cases hf
theorem sized_each {ts:List TypeId} {ds:List (DataW H)} (h:(DataW.weightsEach P ts ds).all (·≤reachBytes)=true) {j:Nat} {t:TypeId} {d:DataW H} (ht:ts[j]? = some t) (hd:ds[j]? = some d):∀ m∈d.weights P t,m≤reachBytes:=fun m hm=>by
 simpa using List.all_eq_true.1 h m (DataW.weights_mem_each ht hd m hm)
theorem arg_c {r:Reach} {b0 f:Nat} {t:TypeId} {k:Kd} {v:Value} {d:DataW H} {ps:List MemPlace} (hf:fitsK P f t k=true) (ha:aggB P t=some false) (hval:Value.okWide P w r b0 t v)
 (h:DataW.Trod enc P w base sp held t v d ps) (hw:∀ m∈d.weights P t,m≤reachBytes):∃ y:k.ty,CVs (fun _=>False) w (fun _=>undef) (k.svs y) [v]∧k.ok y∧∀ B BA,BulkFn B BA→k.bulk y≤B d:=by
 have hone:v.cells.toList=[v]:=by
  cases f with
  | zero => simp [fitsK] at hf
  | succ f =>
    simp only [fitsK,Bool.and_eq_true] at hf
    replace hf:=hf.2
    split at hf
    ·cases hf
    ·rename_i hu; obtain ⟨n,rfl⟩:=okWide_int hu hval; rfl
    ·rename_i hu; obtain ⟨n,rfl⟩:=okWide_bool hu hval; rfl
    ·rename_i hu; obtain ⟨n,rfl⟩:=okWide_string hu hval; rfl
    ·rename_i hu; obtain ⟨a,len,cap,rfl⟩:=okWide_slice hu hval; rfl
    ·rename_i hu _; simp [aggB,hu] at ha
    ·rename_i hu _; simp [aggB,hu] at ha
    ·cases hf
 obtain ⟨n,hn⟩:=h
 obtain ⟨y,hR,hok,hbk⟩:=open_kind n f t k _ _ hf hn hw
 rw [hone] at hR
 exact ⟨y,svs_sound hR,hok,hbk⟩
theorem arg_agg {r:Reach} {b0 f:Nat} {t:TypeId} {k:Kd} {v:Value} {d:DataW H} {ps:List MemPlace} (hf:fitsK P f t k=true) (ha:aggB P t=some true) (hval:Value.okWide P w r b0 t v)
 (h:DataW.Trod enc P w base sp held t v d ps) (hw:∀ m∈d.weights P t,m≤reachBytes):∃ y:k.ty,SVr (fun _=>False) w (fun _=>undef) (.agg (k.svs y)) v∧k.ok y∧∀ B BA,BulkFn B BA→k.bulk y≤B d:=by
 have hagg:∃ cs:Array Value,v=.agg cs:=by
  cases f with
  | zero => simp [fitsK] at hf
  | succ f =>
    simp only [fitsK,Bool.and_eq_true] at hf
    replace hf:=hf.2
    split at hf
    ·cases hf
    ·rename_i hu; simp [aggB,hu] at ha
    ·rename_i hu; simp [aggB,hu] at ha
    ·rename_i hu; simp [aggB,hu] at ha
    ·rename_i hu; simp [aggB,hu] at ha
    ·rename_i hu _; obtain ⟨cs,rfl,_⟩:=okWide_struct hu hval; exact ⟨cs,rfl⟩
    ·rename_i hu _
     simp only [Value.okWide,hu] at hval
     obtain ⟨cs,h1,_,_⟩:=hval
     exact ⟨cs,h1⟩
    ·cases hf
 obtain ⟨cs,rfl⟩:=hagg
 obtain ⟨n,hn⟩:=h
 obtain ⟨y,hR,hok,hbk⟩:=open_kind n f t k _ _ hf hn hw
 exact ⟨y,⟨cs.toList,by simp,svs_sound hR⟩,hok,hbk⟩
theorem SVs_mono {O O':Nat→Prop} {w w':World} {σ:Nat→Value} (hw:SameOff O w w') (ho:∀ b,b<w.heap.size→¬ O b→¬ O' b):∀ {l:List SV} {vs:List Value},SVs O w σ l vs→SVs O' w' σ l vs
 | [],[],_ => trivial
 | _ :: _,_ :: _,h => ⟨SVr_mono hw ho h.1,SVs_mono hw ho h.2⟩
 | [],_ :: _,h => h.elim
 | _ :: _,[],h => h.elim
theorem Spec_law {f:FuncId} {args:List SV} {vs:List Value} (h:Spec P f 0 args [] (.c (.val (.bool true))) []) (hv:SVs (fun _=>False) w (fun _=>undef) args vs) :
 Calls P f vs.toArray w fun e w'=>e=.returned (.bool true)∧Below w.heap.size w w':=by
 have hsat:SatW (cx 0 (fun _=>False) (fun _=>undef) [] w 0) (fun _=>undef) [] w:=
  ⟨fun p hp=>(by cases hp),by simp,fun p hp=>(by cases hp),fun p hp=>(by cases hp),⟨rfl,rfl,rfl,Nat.le_refl _,fun _ _ _=>rfl,fun _ h=>h.elim⟩⟩
 refine (h (fun _=>False) (fun _=>undef) w vs hsat (SVs_mono (fun _ _ _=>rfl) (fun b _ _ hb=>?_) hv)).mono ?_
 ·rcases hb with hb | ⟨p,hp,_⟩
  ·exact hb
  ·cases hp
 ·rintro e w' ⟨v,σ',rfl,h1,h2,_⟩
  have hv':v=.bool true:=h2
  subst hv'
  refine ⟨rfl,h1.fr.os,h1.fr.tape,h1.fr.output,h1.fr.size,fun b hb=>h1.fr.block b hb fun ho=>?_⟩
  obtain ⟨p,hp,_⟩:=ho
  cases hp
end
end Go.Pal
namespace Go.Pal
open Go Go.Proofs Go.Shelf
theorem setCells_block (b:Nat):∀ (vs:List Value) (o:Nat) (w:World) (c:Array Value) (e:TypeId) (fr:Nat×Nat),w.heap[b]? = some (.cells c e fr)→
 ∃ c',(w.setCells b o vs).heap[b]? = some (.cells c' e fr)∧c'.size=c.size∧(∀ j,j<o∨o+vs.length≤j→c'[j]? = c[j]?)∧(∀ j,j<vs.length→o+j<c.size→c'[o+j]? = vs[j]?)
 | [],o,w,c,e,fr,h => ⟨c,h,rfl,fun _ _ => rfl,fun j hj => by simp at hj⟩
 | v :: vs,o,w,c,e,fr,h => by
   have h1:(w.setCell ⟨b,o,none⟩ v).heap[b]? = some (.cells (c.setIfInBounds o v) e fr):=by
    simp only [World.setCell,Array.getElem?_modify,h]; simp
   obtain ⟨c',e1,e2,e3,e4⟩:=setCells_block b vs (o+1) _ _ e fr h1
   rw [Array.size_setIfInBounds] at e2 e4
   refine ⟨c',e1,e2,fun j hj=>?_,fun j hj hs=>?_⟩
   ·simp only [List.length_cons] at hj
    rw [e3 j (by omega),Array.getElem?_setIfInBounds_ne (by omega)]
   ·simp only [List.length_cons] at hj
    cases j with
    | zero =>
      rw [Nat.add_zero,e3 o (by omega),Array.getElem?_setIfInBounds_self_of_lt (by omega)]; rfl
    | succ j =>
      have:=e4 j (by omega) (by omega)
      rw [show o+(j+1)=o+1+j by omega,this]; rfl
theorem setCells_other {b b':Nat} (hne:b'≠b):∀ (vs:List Value) (o:Nat) (w:World),(w.setCells b o vs).heap[b']? = w.heap[b']?
 | [],_,_ => rfl
 | v :: vs,o,w => by
   rw [World.setCells,setCells_other hne vs]
   simp only [World.setCell,Array.getElem?_modify]
   rw [if_neg (fun h=>hne h.symm)]
theorem setCells_rest (b:Nat):∀ (vs:List Value) (o:Nat) (w:World),(w.setCells b o vs).heap.size=w.heap.size∧(w.setCells b o vs).os=w.os∧(w.setCells b o vs).tape=w.tape∧(w.setCells b o vs).output=w.output
 | [],_,_ => ⟨rfl,rfl,rfl,rfl⟩
 | v :: vs,o,w => by
   obtain ⟨h1,h2,h3,h4⟩:=setCells_rest b vs (o+1) (w.setCell ⟨b,o,none⟩ v)
   exact ⟨by rw [World.setCells,h1]; simp [World.setCell],by rw [World.setCells,h2]; rfl,by rw [World.setCells,h3]; rfl,by rw [World.setCells,h4]; rfl⟩
theorem introw {O:Nat→Prop} {w:World} {ik:IntKind} {xs:List Int} {v:Value} (h:RowR O w (.int ik) xs v):∃ A cap,v=.slice A xs.length cap∧((cap=0∧xs=[])∨
 ((0<cap∧cap≤9223372036854775807)∧xs.length≤cap∧∃ b off c e,A=some ⟨b,off,none⟩∧w.heap[b]? = some (.cells c e (0,0))∧off+cap≤c.size∧∀ i,i<xs.length→c[off+i]? = (xs.map (Value.int ik))[i]?)):=by
 obtain ⟨A,cap,hv,h⟩:=h
 refine ⟨A,cap,hv,?_⟩
 rcases h with h | ⟨h1,h2,b,off,c,e,h3,h4,h5,h6⟩
 ·exact .inl h
 ·refine .inr ⟨h1,h2,b,off,c,e,h3,h4,by simpa [Kd.sz] using h5,fun i hi=>?_⟩
  obtain ⟨cs,hR,hc⟩:=h6 i hi
  have hR':cs=[Value.int ik xs[i]]:=hR
  subst hR'
  have:=hc 0 (by simp [Kd.sz])
  simp only [Kd.sz,Nat.mul_one,Nat.add_zero] at this
  rw [this]
  simp [List.getElem?_map,List.getElem?_eq_getElem hi]
theorem introw_mk {O:Nat→Prop} {w:World} {ik:IntKind} {xs:List Int} {b off cap:Nat} {c:Array Value} {e:TypeId} (hc:0<cap∧cap≤9223372036854775807) (hl:xs.length≤cap) (hh:w.heap[b]? = some (.cells c e (0,0))) (hs:off+cap≤c.size)
 (hcs:∀ i,i<xs.length→c[off+i]? = (xs.map (Value.int ik))[i]?):RowR O w (.int ik) xs (.slice (some ⟨b,off,none⟩) xs.length cap):=by
 refine ⟨_,cap,rfl,.inr ⟨hc,hl,b,off,c,e,rfl,hh,by simpa [Kd.sz] using hs,fun i hi=>⟨[Value.int ik xs[i]],rfl,fun j hj=>?_⟩⟩⟩
 have hj0:j=0:=by simpa [Kd.sz] using hj
 subst hj0
 have:=hcs i hi
 simp only [Kd.sz,Nat.mul_one,Nat.add_zero]
 rw [this]
 simp [List.getElem?_map,List.getElem?_eq_getElem hi]
theorem ins_get {α:Type} {A V B:List α} {j:Nat}:(A++(V++B))[j]? = if j<A.length then A[j]? else if j<A.length+V.length then V[j - A.length]? else B[j - (A.length+V.length)]?:=by
 by_cases h1:j<A.length
 ·rw [if_pos h1,List.getElem?_append_left h1]
 ·rw [if_neg h1,List.getElem?_append_right (by omega)]
  by_cases h2:j<A.length+V.length
  ·rw [if_pos h2,List.getElem?_append_left (by omega)]
  ·rw [if_neg h2,List.getElem?_append_right (by omega),show j - A.length - V.length=j - (A.length+V.length) by omega]
section
variable {P:Program} {ρ:Ren}
theorem Spec_row2 {G:Nat→Prop} {σ:Nat→Value} {w w':World} {k0 k1 k2:Kd} {xs:List k0.ty} {ys:List k1.ty} (zs:List k2.ty) {v:Value} (h:SatW (cx 0 G σ [(0,.row k0 xs),(1,.row k1 ys)] w 2) σ [(0,.row k0 xs),(1,.row k1 ys)] w)
 (hw:∀ b,b<w.heap.size→¬ Bk (σ 0) b→w'.heap[b]? = w.heap[b]?) (hs:w.heap.size≤w'.heap.size) (hos:w'.os=w.os) (ht:w'.tape=w.tape) (hou:w'.output=w.output)
 (hblk:∀ b,Bk v b→Bk (σ 0) b∨w.heap.size≤b)
 (hrow:∀ O',SameOff (Ow G [(0,.row k0 xs),(1,.row k1 ys)] σ) w w'→(∀ b,b<w.heap.size→¬ Ow G [(0,.row k0 xs),(1,.row k1 ys)] σ b→¬ O' b)→RowR O' w' k2 zs v) :
 ∃ v' σ',Ending.returned v=Ending.returned v'∧SatW (cx 0 G σ [(0,.row k0 xs),(1,.row k1 ys)] w 2) σ' [(2,.row k2 zs)] w'∧SVr (Ow G [(2,.row k2 zs)] σ') w' σ' (.c (.h 2)) v'∧∀ n,n<2→σ' n=σ n:=by
 have hE:EnvR (cx 0 G σ [(0,.row k0 xs),(1,.row k1 ys)] w 2) σ [(0,.row k0 xs),(1,.row k1 ys)] w [] {tmps:=#[],defers:=[]}:=⟨fun t sv hh=>by simp [look] at hh,rfl,rfl⟩
 have hsw:=swap_row (w':=w') h hE (m:=0) (nx:=2) (e:=.row k0 xs) rfl rfl k2 zs v hw hs hos ht hou hblk hrow
 refine ⟨v,upd σ 2 v,rfl,hsw.1.sub (fun p hp=>?_) (by simp),?_,fun n hn=>upd_ne (by omega)⟩
 ·rw [List.mem_singleton.1 hp]; simp
 ·have hR:RowR _ _ _ _ (upd σ 2 v 2):=hsw.1.ent (2,.row k2 zs) (by simp)
  show v=hd (upd σ 2 v 2)
  rw [hd_row hR,upd_same]
theorem Insert_spec (L:Lays2.n21 P ρ) (xs ys:List Int) (i:Int) (h0:0≤i) (hi:i≤xs.length) (hy:0<ys.length) (hb:xs.length+ys.length≤1000000) :
 Spec P (ρ.f 21) 2 [.c (.h 0),.c (.val (.int .i64 i)),.c (.h 1)] [(0,.row (.int .i64) xs),(1,.row (.int .i64) ys)] (.c (.h 2)) [(2,.row (.int .i64) (xs.take i.toNat++(ys++xs.drop i.toNat)))]:=by
 intro G σ w us hsat hargs
 obtain ⟨i,rfl⟩:∃ n:Nat,i=n:=⟨i.toNat,by omega⟩
 rw [Int.toNat_natCast]
 have hin:i≤xs.length:=by omega
 match us,hargs with
 | [u0,u1,u2],⟨a0,a1,a2,_⟩ =>
   have e0:RowR (Ow G [(0,.row (.int .i64) xs),(1,.row (.int .i64) ys)] σ) w (.int .i64) xs (σ 0):=hsat.ent (0,.row (.int .i64) xs) (by simp)
   have e1:RowR (Ow G [(0,.row (.int .i64) xs),(1,.row (.int .i64) ys)] σ) w (.int .i64) ys (σ 1):=hsat.ent (1,.row (.int .i64) ys) (by simp)
   have a0':u0=σ 0:=(show u0=hd (σ 0) from a0).trans (hd_row e0)
   have a1':u1=.int .i64 (i:Int):=a1
   have a2':u2=σ 1:=(show u2=hd (σ 1) from a2).trans (hd_row e1)
   subst a0' a1' a2'
   have hdis:=hsat.disj (0,.row (.int .i64) xs) (by simp) (1,.row (.int .i64) ys) (by simp) (by simp)
   obtain ⟨A,cap,hs,hA⟩:=introw e0
   obtain ⟨B,vc,hsv,hB⟩:=introw e1
   rcases hB with ⟨_,hB⟩ | ⟨hvc,hyl,vb,voff,cv,ev,rfl,hhv,hszv,hcv⟩
   ·rw [hB] at hy; simp at hy
   have hvs:∀ j v,(ys.map (Value.int .i64))[j]? = some v→w.cell? ⟨vb,voff+j,none⟩=some v:=fun j v hj=>by
    have hjl:j<ys.length:=by simpa using (List.getElem?_eq_some_iff.1 hj).1
    rw [cell_of_row w vb _ cv ev (0,0) hhv,hcv j hjl,hj]
   have h1v:∀ v∈ys.map (Value.int .i64),v.oneCell'=true:=fun v hv=>by obtain ⟨n,_,rfl⟩:=List.mem_map.1 hv; rfl
   have h1c:∀ v∈xs.map (Value.int .i64),v.oneCell'=true:=fun v hv=>by obtain ⟨n,_,rfl⟩:=List.mem_map.1 hv; rfl
   have hbv:Bk (σ 1) vb:=by rw [hsv]; simp only [Bk,blk]; rw [if_neg (by omega)]
   have hZ:(xs.take i++(ys++xs.drop i)).length=xs.length+ys.length:=by simp only [List.length_append,List.length_take,List.length_drop]; omega
   have hget:∀ j,j<xs.length+ys.length→((xs.take i++(ys++xs.drop i)).map (Value.int .i64))[j]? = if j<i then (xs.map (Value.int .i64))[j]? else if j<i+ys.length then (ys.map (Value.int .i64))[j - i]? else (xs.map (Value.int .i64))[j - ys.length]?:=fun j hj=>by
    rw [List.getElem?_map,ins_get,List.length_take,show min i xs.length=i by omega]
    by_cases c1:j<i
    ·rw [if_pos c1,if_pos c1,List.getElem?_take_of_lt c1,List.getElem?_map]
    ·rw [if_neg c1,if_neg c1]
     by_cases c2:j<i+ys.length
     ·rw [if_pos c2,if_pos c2,List.getElem?_map]
     ·rw [if_neg c2,if_neg c2,List.getElem?_drop,List.getElem?_map,show i+(j - (i+ys.length))=j - ys.length by omega]
   rw [hs,hsv]
   rcases hA with ⟨rfl,hA⟩ | ⟨hcap,hxl,b,off,c,e,rfl,hh,hsz,hc⟩
   ·-- nothing was there
    subst hA
    obtain rfl:i=0:=by simpa using hin
    have hcall:=Any2.slices_Insert_int_end_grow L A 0 0 vb voff ys.length vc [] (ys.map (Value.int .i64)) w hy (Nat.le_refl _) (by omega) (by omega) rfl (by simp) (fun _=>rfl) (fun _ _ j v hj=>by simp at hj) hvs h1v
    refine hcall.mono ?_
    rintro en w' ⟨rfl,rfl⟩
    have hgc:=grownCap_ge w (0+ys.length) 0 (ρ.t 3)
    have hgm:=grownCap_le_maxLen w (0+ys.length) 0 (ρ.t 3) (by simp only [maxLen]; omega)
    simp only [maxLen] at hgm
    refine Spec_row2 (k2:=.int .i64) (List.take 0 []++(ys++List.drop 0 [])) hsat (fun b' hb' _=>alc_old w.drew _ _ hb') (by show w.heap.size≤(w.heap.push _).size; simp) rfl rfl rfl (fun b' hb'=>?_) (fun O' _ _=>?_)
    ·simp only [Bk,blk] at hb'
     rw [if_neg (by omega)] at hb'
     injection hb' with hb'
     exact .inr (by omega)
    ·have:=introw_mk (O:=O') (ik:=.i64) (xs:=ys) (b:=w.heap.size) (off:=0) (cap:=grownCap w (0+ys.length) 0 (ρ.t 3)) (e:=ρ.t 3) (by omega) (by omega) (heap_alloc_new w.drew (.cells ((([]:List Value)++ys.map (Value.int .i64)).toArray++Builtin.zeroCells (Value.int .i64 0).cells (grownCap w (0+ys.length) 0 (ρ.t 3) - (0+ys.length))) (ρ.t 3)))
      (by simp [Builtin.zeroCells,Value.cells]; omega) (fun j hj=>by
       rw [Nat.zero_add,Array.getElem?_append_left (by simpa using hj)]; simp)
     simpa using this
   ·have hb0:Bk (σ 0) b:=by rw [hs]; simp only [Bk,blk]; rw [if_neg (by omega)]
    have hvb:vb≠b:=fun e=>hdis b hb0 (e▸hbv)
    have hcs:∀ j v,(xs.map (Value.int .i64))[j]? = some v→w.cell? ⟨b,off+j,none⟩=some v:=fun j v hj=>by
     have hjl:j<xs.length:=by simpa using (List.getElem?_eq_some_iff.1 hj).1
     rw [cell_of_row w b _ c e (0,0) hh,hc j hjl,hj]
    have hsome:∀ k,k<off+cap→(w.cell? ⟨b,k,none⟩).isSome=true:=fun k hk=>by
     rw [cell_of_row w b _ c e (0,0) hh,Array.getElem?_eq_getElem (by omega)]; rfl
    have hfz:∀ k,w.frozen? ⟨b,k,none⟩=false:=fun k=>by simp [World.frozen?,hh]
    have hfv:∀ k,w.frozen? ⟨vb,k,none⟩=false:=fun k=>by simp [World.frozen?,hhv]
    have hbs:b<w.heap.size:=(Array.getElem?_eq_some_iff.1 hh).1
    by_cases hroom:xs.length+ys.length≤cap
    ·by_cases hend:i=xs.length
     ·-- room at the end
      subst hend
      have hcall:=Any2.slices_Insert_int_end_room L b off xs.length cap vb voff ys.length vc (ys.map (Value.int .i64)) w hy hroom hcap.2 (by simp) (fun j hj=>hsome _ (by omega)) (fun j hj=>hfz _) hvs h1v
      refine hcall.mono ?_
      rintro en w' ⟨rfl,rfl⟩
      obtain ⟨c',f1,f2,f3,f4⟩:=setCells_block b (ys.map (Value.int .i64)) (off+xs.length) w c e (0,0) hh
      obtain ⟨r1,r2,r3,r4⟩:=setCells_rest b (ys.map (Value.int .i64)) (off+xs.length) w
      rw [List.length_map] at f3 f4
      refine Spec_row2 (k2:=.int .i64) (xs.take xs.length++(ys++xs.drop xs.length)) hsat (fun b' _ hb'=>setCells_other (fun e=>hb' (by rw [e]; exact hb0)) _ _ _) (by omega) r2 r3 r4 (fun b' hb'=>.inl ?_) (fun O' _ _=>?_)
      ·have hb2:blk (.slice (some ⟨b,off,none⟩) _ cap)=some b':=hb'
       rw [blk_slice (by omega)] at hb2
       cases hb2
       exact hb0
      ·have:=introw_mk (O:=O') (ik:=.i64) (xs:=xs.take xs.length++(ys++xs.drop xs.length)) (b:=b) (off:=off) (cap:=cap) hcap (by omega) f1 (by omega) (fun j hj=>by
        rw [hget j (by omega)]
        by_cases c1:j<xs.length
        ·rw [if_pos c1,f3 _ (by omega),hc j c1]
        ·rw [if_neg c1,if_pos (by omega),show off+j=off+xs.length+(j - xs.length) by omega,f4 _ (by omega) (by omega)])
       rw [hZ] at this
       exact this
     ·-- room between
      have hcall:=Any2.slices_Insert_int_shift L b off xs.length cap i vb voff ys.length vc (xs.map (Value.int .i64)) (ys.map (Value.int .i64)) w (by omega) hy hroom hcap.2 hvb (by simp) (by simp) hcs (fun j hj=>hsome _ (by omega)) (fun j hj=>hfz _) hvs h1c h1v
       ev e cv.size c.size (by simp [World.shape?,hhv]) (by simp [World.shape?,hh]) (by omega) (hfv _) (hfv _)
      refine hcall.mono ?_
      rintro en w' ⟨rfl,rfl⟩
      obtain ⟨c1,f1,f2,f3,f4⟩:=setCells_block b ((xs.map (Value.int .i64)).drop i) (off+(i+ys.length)) w.drew c e (0,0) hh
      obtain ⟨r1,r2,r3,r4⟩:=setCells_rest b ((xs.map (Value.int .i64)).drop i) (off+(i+ys.length)) w.drew
      obtain ⟨c2,g1,g2,g3,g4⟩:=setCells_block b (ys.map (Value.int .i64)) (off+i) _ c1 e (0,0) f1
      obtain ⟨s1,s2,s3,s4⟩:=setCells_rest b (ys.map (Value.int .i64)) (off+i) (w.drew.setCells b (off+(i+ys.length)) ((xs.map (Value.int .i64)).drop i))
      rw [List.length_drop,List.length_map] at f3 f4
      rw [List.length_map] at g3 g4
      refine Spec_row2 (k2:=.int .i64) (xs.take i++(ys++xs.drop i)) hsat (fun b' _ hb'=>?_) (by rw [s1,r1]; exact Nat.le_refl _) (by rw [s2,r2]; rfl) (by rw [s3,r3]; rfl) (by rw [s4,r4]; rfl) (fun b' hb'=>.inl ?_) (fun O' _ _=>?_)
      ·rw [setCells_other (fun e=>hb' (by rw [e]; exact hb0)),setCells_other (fun e=>hb' (by rw [e]; exact hb0))]; rfl
      ·have hb2:blk (.slice (some ⟨b,off,none⟩) _ cap)=some b':=hb'
       rw [blk_slice (by omega)] at hb2
       cases hb2
       exact hb0
      ·have:=introw_mk (O:=O') (ik:=.i64) (xs:=xs.take i++(ys++xs.drop i)) (b:=b) (off:=off) (cap:=cap) hcap (by omega) g1 (by omega) (fun j hj=>by
        rw [hget j (by omega)]
        by_cases d1:j<i
        ·rw [if_pos d1,g3 _ (by omega),f3 _ (by omega),hc j (by omega)]
        ·rw [if_neg d1]
         by_cases d2:j<i+ys.length
         ·rw [if_pos d2,show off+j=off+i+(j - i) by omega,g4 _ (by omega) (by omega)]
         ·rw [if_neg d2,g3 _ (by omega),show off+j=off+(i+ys.length)+(j - (i+ys.length)) by omega,f4 _ (by omega) (by omega),List.getElem?_drop,show i+(j - (i+ys.length))=j - ys.length by omega])
       rw [hZ] at this
       exact this
    ·by_cases hend:i=xs.length
     ·-- no room at the end
      subst hend
      have hcall:=Any2.slices_Insert_int_end_grow L (some ⟨b,off,none⟩) xs.length cap vb voff ys.length vc (xs.map (Value.int .i64)) (ys.map (Value.int .i64)) w hy hxl (by omega) (by omega) (by simp) (by simp) (fun h=>by cases h) (fun a ha j v hj=>by
       injection ha with ha; subst ha; rw [Addr.add_lit]; exact hcs j v hj) hvs h1v
      refine hcall.mono ?_
      rintro en w' ⟨rfl,rfl⟩
      have hgc:=grownCap_ge w (xs.length+ys.length) cap (ρ.t 3)
      have hgm:=grownCap_le_maxLen w (xs.length+ys.length) cap (ρ.t 3) (by simp only [maxLen]; omega)
      simp only [maxLen] at hgm
      refine Spec_row2 (k2:=.int .i64) (xs.take xs.length++(ys++xs.drop xs.length)) hsat (fun b' hb' _=>alc_old w.drew _ _ hb') (by show w.heap.size≤(w.heap.push _).size; simp) rfl rfl rfl (fun b' hb'=>?_) (fun O' _ _=>?_)
      ·simp only [Bk,blk] at hb'
       rw [if_neg (by omega)] at hb'
       injection hb' with hb'
       exact .inr (by omega)
      ·have:=introw_mk (O:=O') (ik:=.i64) (xs:=xs.take xs.length++(ys++xs.drop xs.length)) (b:=w.heap.size) (off:=0) (cap:=grownCap w (xs.length+ys.length) cap (ρ.t 3)) (e:=ρ.t 3) (by omega) (by omega)
        (heap_alloc_new w.drew (.cells ((xs.map (Value.int .i64)++ys.map (Value.int .i64)).toArray++Builtin.zeroCells (Value.int .i64 0).cells (grownCap w (xs.length+ys.length) cap (ρ.t 3) - (xs.length+ys.length))) (ρ.t 3)))
        (by simp [Builtin.zeroCells,Value.cells]; omega) (fun j hj=>by
         rw [Nat.zero_add,Array.getElem?_append_left (by simp; omega)]
         simp only [List.getElem?_toArray,List.take_length,List.drop_length,List.append_nil,List.map_append])
       rw [hZ] at this
       exact this
     ·-- no room between
      have hcall:=Any2.slices_Insert_int_grow L b off xs.length cap i vb voff ys.length vc (xs.map (Value.int .i64)) (ys.map (Value.int .i64)) w (by omega) hy hxl (by omega) (by omega) (by simp) (by simp) hcs hvs h1c h1v
      refine hcall.mono ?_
      rintro en w' ⟨rfl,rfl⟩
      have hgc:=grownCap_ge w (xs.length+ys.length) cap (ρ.t 3)
      have hgm:=grownCap_le_maxLen w (xs.length+ys.length) cap (ρ.t 3) (by simp only [maxLen]; omega)
      simp only [maxLen] at hgm
      obtain ⟨gc,hgcd⟩:∃ gc,gc=grownCap w (xs.length+ys.length) cap (ρ.t 3):=⟨_,rfl⟩
      rw [← hgcd] at hgc hgm ⊢
      obtain ⟨row,hrow⟩:∃ row,row=((xs.map (Value.int .i64)).take i).toArray++Builtin.zeroCells (Value.int .i64 0).cells (xs.length+ys.length - i)++Builtin.zeroCells (Value.int .i64 0).cells (gc - (xs.length+ys.length)):=⟨_,rfl⟩
      rw [← hrow]
      have hrs:row.size=gc:=by rw [hrow]; simp [Builtin.zeroCells,Value.cells]; omega
      have hrl:∀ j,j<i→row[j]? = (xs.map (Value.int .i64))[j]?:=fun j hj=>by
       rw [hrow,Array.append_assoc,Array.getElem?_append_left (by simp; omega),List.getElem?_toArray,List.getElem?_take_of_lt hj]
      have hnew:(w.alloc (.cells row (ρ.t 3))).drew.heap[w.heap.size]? = some (.cells row (ρ.t 3) (0,0)):=heap_alloc_new w _
      obtain ⟨c1,f1,f2,f3,f4⟩:=setCells_block w.heap.size (ys.map (Value.int .i64)) i _ row (ρ.t 3) (0,0) hnew
      obtain ⟨r1,r2,r3,r4⟩:=setCells_rest w.heap.size (ys.map (Value.int .i64)) i (w.alloc (.cells row (ρ.t 3))).drew
      obtain ⟨c2,g1,g2,g3,g4⟩:=setCells_block w.heap.size ((xs.map (Value.int .i64)).drop i) (i+ys.length) (((w.alloc (.cells row (ρ.t 3))).drew.setCells w.heap.size i (ys.map (Value.int .i64))).drew) c1 (ρ.t 3) (0,0) f1
      obtain ⟨s1,s2,s3,s4⟩:=setCells_rest w.heap.size ((xs.map (Value.int .i64)).drop i) (i+ys.length) (((w.alloc (.cells row (ρ.t 3))).drew.setCells w.heap.size i (ys.map (Value.int .i64))).drew)
      rw [List.length_map] at f3 f4
      rw [List.length_drop,List.length_map] at g3 g4
      refine Spec_row2 (k2:=.int .i64) (xs.take i++(ys++xs.drop i)) hsat (fun b' hb' _=>?_) ?_ (by rw [s2]; exact r2) (by rw [s3]; exact r3) (by rw [s4]; exact r4) (fun b' hb'=>?_) (fun O' _ _=>?_)
      ·rw [setCells_other (by omega)]
       show ((w.alloc (.cells row (ρ.t 3))).drew.setCells w.heap.size i (ys.map (Value.int .i64))).heap[b']? = _
       rw [setCells_other (by omega)]
       exact alc_old w _ _ hb'
      ·rw [s1]
       show _≤((w.alloc (.cells row (ρ.t 3))).drew.setCells w.heap.size i (ys.map (Value.int .i64))).heap.size
       rw [r1]
       show w.heap.size≤(w.heap.push _).size
       simp
      ·simp only [Bk,blk] at hb'
       rw [if_neg (by omega)] at hb'
       injection hb' with hb'
       exact .inr (by omega)
      ·have:=introw_mk (O:=O') (ik:=.i64) (xs:=xs.take i++(ys++xs.drop i)) (b:=w.heap.size) (off:=0) (cap:=gc) (by omega) (by omega) g1 (by omega) (fun j hj=>by
        rw [hget j (by omega),Nat.zero_add]
        by_cases d1:j<i
        ·rw [if_pos d1,g3 _ (by omega),f3 _ (by omega),hrl j d1]
        ·rw [if_neg d1]
         by_cases d2:j<i+ys.length
         ·rw [if_pos d2,g3 _ (by omega),show j=i+(j - i) by omega,f4 _ (by omega) (by omega),show i+(j - i) - i=j - i by omega]
         ·rw [if_neg d2,show j=i+ys.length+(j - (i+ys.length)) by omega,g4 _ (by omega) (by omega),List.getElem?_drop]
          congr 1
          omega)
       rw [hZ] at this
       exact this
end
end Go.Pal
namespace Go.Pal
open Go Go.Proofs
section
variable {P:Program}
theorem Bk_slf {v:Value} {b b':Nat} {e t:TypeId} (h:BoxAt v b e) (hs:v=.tuple [.pointer (some ⟨b',0,none⟩),.iface t .nilIface].toArray):b'=b∧e=t:=by
 rcases h with h | h
 ·rw [hs] at h; cases h
 ·rw [hs] at h
  simp at h
  exact ⟨h.1,h.2.symm⟩
theorem bld_parts {C:FC} {σ:Nat→Value} {w:World} {tb te:TypeId} {xs:List Int} (h:SatW C σ [(0,.box [.slf 0 tb,.h 1]),(1,.brow te xs)] w) :
 ∃ b u A cap,σ 0=.tuple [.pointer (some ⟨b,0,none⟩),.iface tb .nilIface].toArray∧(u=.pointer none∨u=.pointer (some ⟨b,0,none⟩))∧w.heap[b]? = some (.cells #[u,.slice A xs.length cap] tb (0,0))∧σ 1=.slice A xs.length cap∧
   RowR (Ow C.G [(0,.box [.slf 0 tb,.h 1]),(1,.brow te xs)] σ) w (.int .u8) xs (σ 1)∧HeadT w (σ 1) te:=by
 obtain ⟨b,c,e,hB,hh,hc⟩:∃ b c e,BoxAt (σ 0) b e∧w.heap[b]? = some (.cells c e (0,0))∧CVs (Ow C.G [(0,.box [.slf 0 tb,.h 1]),(1,.brow te xs)] σ) w σ [.slf 0 tb,.h 1] c.toList:=h.ent (0,.box [.slf 0 tb,.h 1]) (by simp)
 obtain ⟨hR,hT⟩:RowR (Ow C.G [(0,.box [.slf 0 tb,.h 1]),(1,.brow te xs)] σ) w (.int .u8) xs (σ 1)∧HeadT w (σ 1) te:=h.ent (1,.brow te xs) (by simp)
 have hl:=CVs_len hc
 match hq:c.toList,hl,hc with
 | [u0,u1],_,hc =>
   obtain ⟨⟨b',hs,hu⟩,h1,_⟩:=hc
   obtain ⟨rfl,rfl⟩:=Bk_slf hB hs
   have hR':=hR
   obtain ⟨A,cap,hv,_⟩:=hR'
   have h1':u1=.slice A xs.length cap:=(show u1=hd (σ 1) from h1).trans (by rw [hv]; rfl)
   have hc':c = #[u0,.slice A xs.length cap]:=by apply Array.ext'; rw [hq,h1']
   rw [hc'] at hh
   exact ⟨b',u0,A,cap,hs,hu,hh,hv,hR,hT⟩
theorem copyCheck_fs {f:FuncId} {tb te:TypeId}
 (hu:∀ (b:Nat) (w:World),w.cell? ⟨b,0,none⟩=some (.pointer (some ⟨b,0,none⟩))→Calls P f #[.pointer (some ⟨b,0,none⟩)] w fun e w'=>e=.returned (.tuple #[])∧w'=w)
 (hf:∀ (b:Nat) (w:World),w.cell? ⟨b,0,none⟩=some (.pointer none)→w.shape? b=some (tb,2)→w.frozen? ⟨b,0,none⟩=false→Calls P f #[.pointer (some ⟨b,0,none⟩)] w fun e w'=>e=.returned (.tuple #[])∧w'=w.setCell ⟨b,0,none⟩ (.pointer (some ⟨b,0,none⟩)))
 {xs:List Int}:FS P f 2 [.c (.h 0)] [(0,.box [.slf 0 tb,.h 1]),(1,.brow te xs)] (some ()) (fun _=>.tup []) fun _=>[(0,.box [.slf 0 tb,.h 1]),(1,.brow te xs)]:=by
 intro r _ G σ w vs hsat hargs
 obtain ⟨b,u,A,cap,hs,hu0,hh,hv,hR,hT⟩:=bld_parts hsat
 match vs,hargs with
 | [v0],⟨a0,_⟩ =>
   have a0':v0=.pointer (some ⟨b,0,none⟩):=(show v0=hd (σ 0) from a0).trans (by rw [hs]; rfl)
   subst a0'
   rcases hu0 with rfl | rfl
   ·refine (hf b w (by rw [cell_of_row w b _ _ _ _ hh]; rfl) (by simp [World.shape?,hh]) (by simp [World.frozen?,hh])).mono ?_
    rintro e w' ⟨rfl,rfl⟩
    have hE:EnvR (cx 0 G σ [(0,.box [.slf 0 tb,.h 1]),(1,.brow te xs)] w 2) σ [(0,.box [.slf 0 tb,.h 1]),(1,.brow te xs)] w [] {tmps:=#[],defers:=[]}:=⟨fun t sv hh=>by simp [look] at hh,rfl,rfl⟩
    have hst:=stepW (w':=w.setCell ⟨b,0,none⟩ (.pointer (some ⟨b,0,none⟩))) hsat hE (m:=0) (e:=.box [.slf 0 tb,.h 1]) (e':=.box [.slf 0 tb,.h 1]) rfl
     (fun q _ hq=>by
      have hne:q≠b:=fun e=>hq (by subst e; rw [hs]; exact Bk_tuple List.mem_cons_self rfl)
      simp only [World.setCell,Array.getElem?_modify]
      rw [if_neg (fun e=>hne e.symm)])
     (by simp [World.setCell]) rfl rfl rfl (fun hso=>by
      refine ⟨b,#[.pointer (some ⟨b,0,none⟩),.slice A xs.length cap],tb,.inr hs,by simp [World.setCell,Array.getElem?_modify,hh],?_⟩
      exact ⟨⟨b,hs,.inr rfl⟩,by show _=hd (σ 1); rw [hv]; rfl,trivial⟩)
    exact ⟨_,σ,rfl,hst.1,⟨[],rfl,trivial⟩,fun _ _=>rfl⟩
   ·refine (hu b w (by rw [cell_of_row w b _ _ _ _ hh]; rfl)).mono ?_
    rintro e w' ⟨rfl,rfl⟩
    exact ⟨_,σ,rfl,hsat,⟨[],rfl,trivial⟩,fun _ _=>rfl⟩
def inB (xs:List Int):Bool:=xs.all fun x=>decide (0≤x)&&decide (x<256)
theorem bString_fs {f:FuncId} {tb te st pt it ty:TypeId} (hpt:P.underlying pt=some (.pointer te)) (hce:P.cellsOf te=1)
 (hS:∀ (b:Nat) (p:Value) (A:Option Addr) (n cap:Nat) (q:Option Addr) (s:ByteArray) (w w2:World),w.heap[b]? = some (.cells #[p,.slice A n cap] tb (0,0))→
  (Builtin.unsafeSliceData_ #[st] pt #[.slice A n cap]).run P w.drew=.ok (.pointer q) w.drew→(Builtin.unsafeString_ #[pt,it] ty #[.pointer q,.int .i64 n]).run P w.drew=.ok (.string s) w2→
  Calls P f #[.pointer (some ⟨b,0,none⟩)] w fun e w'=>e=.returned (.string s)∧w'=w2)
 {xs:List Int}:FS P f 2 [.c (.h 0)] [(0,.box [.slf 0 tb,.h 1]),(1,.brow te xs)] (if inB xs=true then some (ofBytes xs) else none) (fun r=>.c (.val (.string r))) fun _=>[]:=by
 intro r hr G σ w vs hsat hargs
 obtain ⟨hin,hr⟩:=of_if hr
 cases hr
 obtain ⟨b,u,A,cap,hs,hu0,hh,hv,hR,hT⟩:=bld_parts hsat
 match vs,hargs with
 | [v0],⟨a0,_⟩ =>
   have a0':v0=.pointer (some ⟨b,0,none⟩):=(show v0=hd (σ 0) from a0).trans (by rw [hs]; rfl)
   subst a0'
   -- what is left: no entry,the same world but for the buffer
   have fin:∀ (s:ByteArray) (w2:World),s=ofBytes xs→(∀ q,¬ Bk (σ 1) q→w2.heap[q]? = w.heap[q]?)→w2.heap.size=w.heap.size→w2.os=w.os→w2.tape=w.tape→w2.output=w.output→
    ∃ v σ',Ending.returned (.string s)=.returned v∧SatW (cx 0 G σ [(0,.box [.slf 0 tb,.h 1]),(1,.brow te xs)] w 2) σ' [] w2∧SVr (Ow G [] σ') w2 σ' (.c (.val (.string (ofBytes xs)))) v∧∀ n,n<2→σ' n=σ n:=by
    rintro s w2 rfl g1 g2 g3 g4 g5
    refine ⟨_,σ,rfl,⟨fun p hp=>(by cases hp),by simp,fun p hp=>(by cases hp),fun p hp=>(by cases hp),g3,g4,g5,by rw [g2]; exact Nat.le_refl _,fun q hq ho=>?_,hsat.fr.gsize⟩,rfl,fun _ _=>rfl⟩
    exact g1 q fun hb=>ho ⟨(1,.brow te xs),by simp,hb⟩
   rcases hT _ _ _ hv with ⟨rfl,rfl⟩ | ⟨hc,g,cur,rfl,hg⟩
   ·have hx:xs=[]:=by
     obtain ⟨A',cap',e,hx⟩:=hR
     rw [hv] at e
     cases e
     rcases hx with ⟨_,hx⟩ | ⟨hx,_⟩
     ·exact hx
     ·omega
    subst hx
    refine (hS b u none 0 0 none .empty w w.drew hh rfl (Lib.run_unsafeString_none w.drew _ _ _ _)).mono ?_
    rintro e w' ⟨rfl,rfl⟩
    exact fin _ _ rfl (fun _ _=>rfl) rfl rfl rfl rfl
   ·have hSD:=Lib.run_unsafeSliceData_row (P:=P) (w:=w.drew) #[st] pt ⟨g,0,none⟩ xs.length cap (by omega)
    by_cases h0:xs=[]
    ·subst h0
     refine (hS b u _ 0 cap _ .empty w w.drew hh hSD (Lib.run_unsafeString_none w.drew _ _ _ _)).mono ?_
     rintro e w' ⟨rfl,rfl⟩
     exact fin _ _ rfl (fun _ _=>rfl) rfl rfl rfl rfl
    ·have hR':=hR
     obtain ⟨A',cap',e,hx⟩:=hR'
     rw [hv] at e
     cases e
     rcases hx with ⟨rfl,_⟩ | ⟨hp,hl,b',off,c',e',e1,hh',hsz,hcs⟩
     ·omega
     ·cases e1
      rw [hg] at hh'
      cases hh'
      have hUS:=Lib.run_unsafeString_row (P:=P) w.drew pt it ty te hpt hce g cur.size (by simp [World.shape?,show w.drew.heap[g]? = _ from hg]) (xs.map fun n=>UInt8.ofNat n.toNat) (by simpa using h0) (by simp only [List.length_map,Kd.sz] at hsz ⊢; omega) (by simp only [List.length_map]; omega) (fun j x hx=>by
       rw [List.getElem?_map] at hx
       obtain ⟨y,hy,rfl⟩:=Option.map_eq_some_iff.1 hx
       obtain ⟨hj,rfl⟩:=List.getElem?_eq_some_iff.1 hy
       obtain ⟨cs,hR1,hc1⟩:=hcs j hj
       have:=hc1 0 (by simp [Kd.sz])
       simp only [Kd.R] at hR1
       subst hR1
       have hm:=List.all_eq_true.1 hin _ (List.getElem_mem hj)
       simp only [Bool.and_eq_true,decide_eq_true_eq] at hm
       rw [Addr.add_lit,cell_of_row w.drew g _ cur te (0,0) hg]
       simp only [Kd.sz,Nat.mul_one,Nat.zero_add,Nat.add_zero,List.getElem?_cons_zero] at this ⊢
       rw [this]
       congr 2
       have:(UInt8.ofNat (xs[j]).toNat).toNat=(xs[j]).toNat:=by simp [UInt8.toNat_ofNat']; omega
       rw [this]
       omega)
      rw [List.length_map] at hUS
      refine (hS b u _ xs.length cap _ _ w _ hh hSD hUS).mono ?_
      rintro e w' ⟨rfl,rfl⟩
      refine fin _ _ rfl (fun q hq=>?_) ?_ ?_ ?_ ?_
      ·have hne:q≠g:=fun e=>hq (by subst e; rw [hv]; exact blk_slice (by omega))
       simp only [World.freeze]
       split
       ·rfl
       ·simp only [Array.getElem?_modify]
        rw [if_neg (fun e=>hne e.symm)]
        rfl
      ·simp only [World.freeze]
       split
       ·rfl
       ·simp only [Array.size_modify]
        rfl
      all_goals (simp only [World.freeze]; split <;> rfl)
theorem mapsClone_fs {ρ:Go.Shelf.Ren} (L:SlLaysW.n5 P ρ) {l:List Int}:FS P (ρ.f 5) 1 [.c (.h 0)] [(0,.map l)] (some l) (fun _=>.c (.h 1)) fun r=>[(0,.map l),(1,.map r)]:=by
 intro r hr G σ w vs hsat hargs
 cases hr
 obtain ⟨b,hs,hM⟩:∃ b,σ 0=.map (some b)∧MapR w b l:=hsat.ent (0,.map l) (by simp)
 match vs,hargs with
 | [v0],⟨a0,_⟩ =>
   have a0':v0=.map (some b):=(show v0=hd (σ 0) from a0).trans (by rw [hs]; rfl)
   subst a0'
   have hM':=hM
   obtain ⟨es,clock,hb,hrest⟩:=hM'
   refine (AnyW.maps_Clone L b es clock w hb).mono ?_
   rintro e w' ⟨rfl,rfl⟩
   have hE:EnvR (cx 0 G σ [(0,.map l)] w 1) σ [(0,.map l)] w [] {tmps:=#[],defers:=[]}:=⟨fun t sv hh=>by simp [look] at hh,rfl,rfl⟩
   have hal:=alloc_ent (w':=w.alloc (.map es clock)) hsat hE (m:=1) (by simp [free,Ent.has]) (.map l) (.map (some w.heap.size)) (fun q hq=>alc_old w _ _ hq) (by simp) rfl rfl rfl (fun q hq=>by cases hq; exact Nat.le_refl _)
    (fun _ _=>⟨w.heap.size,upd_same _ _ _,es,clock,heap_alloc_new w _,hrest⟩)
   refine ⟨_,_,rfl,hal.1.sub (fun p hp=>?_) (by simp),?_,fun n hn=>upd_ne (by omega)⟩
   ·simp only [List.mem_cons,List.not_mem_nil,or_false] at hp ⊢
    exact hp.symm
   ·show _=hd (upd σ 1 _ 1)
    rw [upd_same]
    rfl
theorem elm_parts {C:FC} {σ:Nat→Value} {w:World} {ls:List (List Int)} {i:Nat} (h:SatW C σ [(0,.sets ls none)] w) (hi:i<ls.length):∃ b,cmp (σ 0) i=.map (some b)∧MapR w b (ls.getD i []):=by
 obtain ⟨A,cap,vs,hv,_,hl,hm,_,_⟩:SetsR w σ (σ 0) ls none:=h.ent (0,.sets ls none) (by simp)
 obtain ⟨b,h1,h2⟩:=hm i hi
 refine ⟨b,?_,?_⟩
 ·rw [hv]
  simp only [cmp,tl,List.tail_cons,List.getD_eq_getElem?_getD,h1]
  rfl
 ·rw [List.getD_eq_getElem?_getD,List.getElem?_eq_getElem hi]
  exact h2
theorem mapsCloneE_fs {ρ:Go.Shelf.Ren} (L:SlLaysW.n5 P ρ) {ls:List (List Int)} {i:Nat}:FS P (ρ.f 5) 1 [.c (.elm 0 i)] [(0,.sets ls none)] (if i<ls.length then some (ls.getD i []) else none) (fun _=>.c (.h 1)) fun r=>[(0,.sets ls none),(1,.map r)]:=by
 intro r hr G σ w vs hsat hargs
 obtain ⟨hi,hr⟩:=of_if hr
 cases hr
 obtain ⟨b,hs,hM⟩:=elm_parts hsat hi
 match vs,hargs with
 | [v0],⟨a0,_⟩ =>
   have a0':v0=.map (some b):=(show v0=cmp (σ 0) i from a0).trans hs
   subst a0'
   have hM':=hM
   obtain ⟨es,clock,hb,hrest⟩:=hM'
   refine (AnyW.maps_Clone L b es clock w hb).mono ?_
   rintro e w' ⟨rfl,rfl⟩
   have hE:EnvR (cx 0 G σ [(0,.sets ls none)] w 1) σ [(0,.sets ls none)] w [] {tmps:=#[],defers:=[]}:=⟨fun t sv hh=>by simp [look] at hh,rfl,rfl⟩
   have hal:=alloc_ent (w':=w.alloc (.map es clock)) hsat hE (m:=1) (by simp [free,Ent.has]) (.map (ls.getD i [])) (.map (some w.heap.size)) (fun q hq=>alc_old w _ _ hq) (by simp) rfl rfl rfl (fun q hq=>by cases hq; exact Nat.le_refl _)
    (fun _ _=>⟨w.heap.size,upd_same _ _ _,es,clock,heap_alloc_new w _,hrest⟩)
   refine ⟨_,_,rfl,hal.1.sub (fun p hp=>?_) (by simp),?_,fun n hn=>upd_ne (by omega)⟩
   ·simp only [List.mem_cons,List.not_mem_nil,or_false] at hp ⊢
    exact hp.symm
   ·show _=hd (upd σ 1 _ 1)
    rw [upd_same]
    rfl
end
end Go.Pal
namespace Go.Pal
open Go Go.Proofs Go.RowKit Go.Maps Go.WideShapes
open Go.WideElems (Fit rd rg)
theorem map_owns {P:Program} {w:World} {b:Nat} {l:List Int} {k:TypeId} (hk:P.underlying k=some (.int .i64)) (hM:MapR w b l) (hlen:l.length≤maxLen) :
 ∃ D0:DataW Unit,w.ownsMap P k (fun _=>some (.nil,[])) b l.length D0∧(intKeys D0).Perm l∧Maps.size D0=l.length:=by
 have hbd:∀ n∈l,-9223372036854775808≤n∧n≤9223372036854775807:=by obtain ⟨_,_,_,_,_,_,_,h⟩:=hM; exact h
 obtain ⟨es,clock,hb,hs,h1,hp⟩:=map_keys hM
 have hsz:es.size=l.length:=by
  have:=hp.length_eq
  simpa using this
 have hrd:∀ x∈es.toList,rd P k (fun _=>some ((DataW.nil:DataW Unit),[])) x=some (Lit.int .i64 (keyI x.key),DataW.nil):=by
  intro x hx
  obtain ⟨n,hkey,_,hn⟩:=h1 x hx
  have hw:(Lit.int .i64 n).wf=true:=WalkArith.wf_i64 (hbd n hn)
  simp [rd,keyOf,hk,hkey,mapKey,hw,keyI]
 have F:Fit P k (fun _=>some ((.nil:DataW Unit),[])) es clock:=⟨by omega,hs,fun x hx=>⟨_,hrd x hx⟩⟩
 have hperm:(intKeys (.map ((es.toList.map (rg P k fun _=>some ((.nil:DataW Unit),[]))).foldr DataW.insert []))).Perm l:=by
  simp only [intKeys]
  refine ((sorted_perm _).map _).trans ?_
  rw [List.map_map]
  refine List.Perm.trans (List.Perm.of_eq (List.map_congr_left fun x hx=>?_)) hp
  simp [rg,hrd x hx,intOf]
 refine ⟨_,⟨es,clock,hb,F,by omega,rfl⟩,hperm,?_⟩
 have:=hperm.length_eq
 simpa [intKeys,Maps.size] using this
theorem sorted_is {ss l:List Int} (h:ss.Perm l) (hl:l.Pairwise (·< ·)):ss.mergeSort (fun x y=>decide (x≤y))=l:=by
 rw [show ss.mergeSort (fun x y=>decide (x≤y))=l.mergeSort (fun x y=>decide (x≤y)) from mergeSort_of_perm_i h]
 exact List.mergeSort_of_pairwise (hl.imp fun h=>by simp; omega)
section
variable {P:Program} {ρ:Go.Shelf.Ren}
theorem hEmpty {C:FC} {σ:Nat→Value} {H:Heap} {w:World} (h:C.N=0):EnvR C σ H w [] {tmps:=#[],defers:=[]}:=⟨fun t sv hh=>by simp [look] at hh,h.symm,rfl⟩
theorem keysE_fs (L:SlLaysZI.n7 P ρ) {ls:List (List Int)} {i:Nat}:FS P (ρ.f 7) 1 [.c (.elm 0 i)] [(0,.sets ls none)] (if i<ls.length then some () else none) (fun _=>.c (.clo (ρ.f 10) [1])) fun _=>[(0,.sets ls none),(1,.box [.elm 0 i])]:=by
 intro r hr G σ w vs hsat hargs
 obtain ⟨hi,hr⟩:=of_if hr
 obtain ⟨b,hs,hM⟩:=elm_parts hsat hi
 match vs,hargs with
 | [v0],⟨a0,_⟩ =>
   have a0':v0=.map (some b):=(show v0=cmp (σ 0) i from a0).trans hs
   subst a0'
   refine ((callsIn_wide (n:=1)).1 (AnyZI.keys_in L Fence.wide 1 trivial rfl (some b) w)).mono ?_
   rintro e w' ⟨rfl,rfl⟩
   have hal:=alloc_ent (w':=w.alloc (.cells #[.map (some b)] (ρ.t 23))) hsat (hEmpty rfl) (m:=1) (by simp [free,Ent.has]) (.box [.elm 0 i]) (.pointer (some ⟨w.heap.size,0,none⟩)) (fun q hq=>alc_old w _ _ hq) (by simp) rfl rfl rfl (fun q hq=>by cases hq; exact Nat.le_refl _)
    (fun _ _=>⟨w.heap.size,#[.map (some b)],ρ.t 23,.inl (upd_same _ _ _),heap_alloc_new w _,by
     refine ⟨?_,trivial⟩
     show _=cmp (upd σ 1 _ 0) i
     rw [upd_ne (by decide)]
     exact hs.symm⟩)
   refine ⟨_,_,rfl,hal.1.sub (fun p hp=>?_) (by simp),?_,fun n hn=>upd_ne (by omega)⟩
   ·simp only [List.mem_cons,List.not_mem_nil,or_false] at hp ⊢
    exact hp.symm
   ·show _=Value.func (.func (ρ.f 10)) #[] #[hd (upd σ 1 _ 1)]
    rw [upd_same]
    rfl
theorem sortedE_fs {f g:FuncId} {k:TypeId} (hk:P.underlying k=some (.int .i64))
 (hS:∀ (m b:Nat) (l:List Int) (w:World) (D0:DataW Unit),w.cell? ⟨m,0,none⟩=some (.map (some b))→m<w.heap.size→w.ownsMap P k (fun _=>some (.nil,[])) b l.length D0→Maps.size D0=l.length→l.length≤maxLen→l.length * 8≤140737488355328→
  Calls P f #[.func (.func g) #[] #[.pointer (some ⟨m,0,none⟩)]] w fun e w'=>∃ (v:Value) (ss:List Int),e=.returned v∧ss.Perm (intKeys D0)∧
   w'.ownsRow w.heap.size k 1 v ss.length ((ss.mergeSort (fun x y=>decide (x≤y))).map encZ)∧(v=.slice none 0 0↔ss=[])∧Below w.heap.size w w')
 {ls:List (List Int)} {i:Nat}:FS P f 2 [.c (.clo g [0])] [(0,.box [.elm 1 i]),(1,.sets ls none)] (if i<ls.length∧List.length (ls.getD i []) * 8≤140737488355328 then some (ls.getD i []) else none) (fun _=>.c (.h 2)) fun r=>[(0,.box [.elm 1 i]),(1,.sets ls none),(2,.row (.int .i64) r)]:=by
 intro r hr G σ w vs hsat hargs
 obtain ⟨⟨hi,hby⟩,hr⟩:=of_if hr
 cases hr
 obtain ⟨m,c,e,hB,hh,hc⟩:∃ b c e,BoxAt (σ 0) b e∧w.heap[b]? = some (.cells c e (0,0))∧CVs (Ow G [(0,.box [.elm 1 i]),(1,.sets ls none)] σ) w σ [.elm 1 i] c.toList:=hsat.ent (0,.box [.elm 1 i]) (by simp)
 have hsets:SetsR w σ (σ 1) ls none:=hsat.ent (1,.sets ls none) (by simp)
 obtain ⟨A,cap,us,hv,_,hl,hm,_,_⟩:=hsets
 obtain ⟨b,h1,hM⟩:=hm i hi
 have hcm:cmp (σ 1) i=.map (some b):=by
  rw [hv]
  simp only [cmp,tl,List.tail_cons,List.getD_eq_getElem?_getD,h1]
  rfl
 have hli:ls.getD i []=ls[i]:=by rw [List.getD_eq_getElem?_getD,List.getElem?_eq_getElem hi]; rfl
 rw [hli] at hby ⊢
 have hcell:w.cell? ⟨m,0,none⟩=some (.map (some b)):=by
  rw [cell_of_row w m _ c e (0,0) hh]
  have hlen:=CVs_len hc
  match hq:c.toList,hlen,hc with
  | [u0],_,hc =>
    have:u0=.map (some b):=hc.1.trans hcm
    rw [← Array.getElem?_toList,hq,this]
    rfl
 have hmax:ls[i].length≤maxLen:=by unfold maxLen; omega
 obtain ⟨D0,hown,hperm,hsz⟩:=map_owns hk hM hmax
 match vs,hargs with
 | [v0],⟨a0,_⟩ =>
   have a0':v0=.func (.func g) #[] #[.pointer (some ⟨m,0,none⟩)]:=by
    have:v0=.func (.func g) #[] ([0].map fun n=>hd (σ n)).toArray:=a0
    rw [this]
    simp [hB.hd]
   subst a0'
   refine (hS m b ls[i] w D0 hcell (Array.getElem?_eq_some_iff.1 hh).1 hown hsz hmax hby).mono ?_
   rintro e' w' ⟨v,ss,rfl,hss,hrow,hnil,hbel⟩
   have hlt:ls[i].Pairwise (·< ·):=by obtain ⟨_,_,_,_,_,_,h,_⟩:=hM; exact h
   have hso:=sorted_is (hss.trans hperm) hlt
   have hsl:ss.length=ls[i].length:=(hss.trans hperm).length_eq
   rw [hso,hsl] at hrow
   have hal:=alloc_ent (w':=w') hsat (hEmpty rfl) (m:=2) (by simp [free,Ent.has,CV.has]) (.row (.int .i64) ls[i]) v (fun q hq=>hbel.block q hq) hbel.size hbel.os hbel.tape hbel.output
    (fun q hq=>by
     rcases hrow.2 with ⟨rfl,_⟩ | ⟨g',cap',cur,rfl,hge,_⟩
     ·cases hq
     ·simp only [Bk,blk] at hq
      split at hq
      ·cases hq
      ·cases hq; exact hge)
    (fun _ _=>by
     show RowR _ _ (.int .i64) ls[i] (upd σ 2 v 2)
     rw [upd_same]
     rcases hrow.2 with ⟨rfl,hz⟩ | ⟨g',cap',cur,rfl,hge,hg,hle,hcm',hcs,htk⟩
     ·exact ⟨none,0,by rw [hz],.inl ⟨rfl,List.eq_nil_of_length_eq_zero hz⟩⟩
     ·refine ⟨_,cap',rfl,?_⟩
      by_cases h0:cap'=0
      ·exact .inl ⟨h0,List.eq_nil_of_length_eq_zero (by omega)⟩
      ·refine .inr ⟨⟨by omega,by unfold maxLen at hcm'; omega⟩,hle,g',0,cur,k,rfl,hg,by simp only [Kd.sz]; omega,fun j hj=>⟨[.int .i64 ls[i][j]],rfl,fun q hq=>?_⟩⟩
       have hq0:q=0:=by simp only [Kd.sz] at hq; omega
       subst hq0
       have:(cur.toList.take (ls[i].length * 1))[j]? = some (.int .i64 ls[i][j]):=by rw [htk]; simp [encZ,hj]
       rw [List.getElem?_take] at this
       rw [if_pos (by omega)] at this
       simpa [Kd.sz] using this)
   refine ⟨v,_,rfl,hal.1.sub (fun p hp=>?_) (by simp),?_,fun n hn=>upd_ne (by omega)⟩
   ·simp only [List.mem_cons,List.not_mem_nil,or_false] at hp ⊢
    rcases hp with h | h | h
    ·exact .inr (.inl h)
    ·exact .inr (.inr h)
    ·exact .inl h
   ·show v=hd (upd σ 2 v 2)
    rw [upd_same]
    rcases hrow.2 with ⟨rfl,_⟩ | ⟨_,_,_,rfl,_⟩ <;> rfl
end
end Go.Pal
