/- A part of the proof of WholeView. -/
import Derived.Tactics
import Derived.Laws.Rows
import Derived.Laws.AppendOwn
import Derived.Below
import Derived.KernelRfl
import Derived.MapKept
import Derived.Laws.StructEq
import Derived.Laws.BytesString
import Derived.Maps.Own
import Derived.Maps.RangeRun
import Derived.Laws.RangeString
import Derived.Deep.LoopGhost
import Derived.Orders
import Derived.Scope
import Derived.WalkKit
import Derived.ProofKit
import Derived.OpenShut
import Derived.ShutString
import Derived.ChangeOld
import Derived.SizedLaws
import Derived.Deep.CondSized
import Derived.Carry
import Derived.Shelf.Spec.SlicesInsertGrow
import Derived.Lib.UnsafeStr
import Derived.Shelf.SlMaps.Clone
import Derived.Shelf.SlIterI.Nil
import Derived.Shelf.SortM.Plain
import Derived.Shelf.SortM.SortNone
import Derived.WalkArith
set_option linter.unusedVariables false
set_option linter.unusedSimpArgs false
set_option linter.unnecessarySimpa false
open Array renaming eraseIdxIfInBounds→qi,ext→Bz,ext'→ip,getD_eq_getD_getElem?→fc,getElem?_append_left→ff,getElem?_eq_getElem→jf,getElem?_eq_some_iff→dg,getElem?_setIfInBounds→jh,length_toList→ep,range→lz,size_append→nl,toArray_toList→gr,toList_eraseIdx→ry,toList_map→ma
open BitVec renaming ofInt→bi
open Bool renaming and_eq_true→bq,and_true→mn,or_true→ua
open ByteArray renaming data_extract→ol,empty→cc
open Go.Act renaming put→nr
open Go.Addr renaming add_lit→im
open Go.Builtin renaming append_→fq,clear_→sm,copy_→lm,delete_→pp,firstCells→ib,lenOf→ld,max2→xx,min2→xy,nextslicecap→sj,zeroCells→fv
open Go.Conv renaming bytesToString→tp
open Go.Instr renaming build→vj,buildSlice→lj,fieldAt→ti,fill→pd,index→vh,indexAt→ph,lookup→ra,makeSlice→ro,mapUpdate→oc,slice→vi,sliceAt→ly,sliceBound→qt,sliceBounds→lr,sureAddr→kv
open Go.IntKind renaming bits→bh,signed→oj
open Go.MapKept renaming Stamped→rm,run_checkKey→lp,run_getObj_map→kp
open Go.Op renaming bytesLess→uc,eqFields→pj,equal→ud,equalIn→mo,intArith→sg,intCmp→qq,maxDepth→qd,unary→ze
open Go.Question renaming forced→vu
open Go.Result renaming andThen_ok→ed
open Go.Sem renaming run_bind→fp,run_ite→sh,run_pure→ie
open Go.Value renaming int→dh,oneCell'→lg
open Go.World renaming block_lt_of_cell?→mt,setRow→mg
open List renaming all_cons→kj,all_eq_true→cn,all_nil→ub,any_cons→ii,append_assoc→gd,cons_append→db,drop_zero→ic,eq_nil_of_length_eq_zero→bx,extract→xw,filter_cons→fx,filter_eq_self→ir,filter_sublist→nw,foldlM→zf,foldlM_cons→uy,foldl_cons→fk,getD→bb,getElem?_append_left→dk,getElem?_append_right→dd,getElem?_cons_zero→gh,getElem?_drop→ft,getElem?_eq_getElem→bj,getElem?_eq_none→li,getElem?_eq_some_iff→dt,getElem?_map→fu,getElem?_take→gv,getElem?_toArray→fh,getElem_mem→kz,getElem_of_mem→fe,length_append→cy,length_drop→cq,length_map→du,length_nil→eb,length_pos_iff→mr,length_replicate→ow,length_take→co,mapM_cons→mu,map_cons→dj,mem_append→cf,mem_cons→bv,mem_cons_of_mem→cg,mem_cons_self→de,mem_filter→ef,mem_map→cj,mem_of_getElem?→fm,nodup_cons→dy,pairwise_cons→dz,range→gy,replicate→bn,size_toArray→ge,take_of_length_le→fj
open List.Sublist renaming map→ux
open List.cons renaming injEq→ia
open Nat renaming add_assoc→lc,add_comm→qz,add_mul→ey,add_sub_cancel_left→qr,add_zero→ee,eq_zero_or_pos→ki,le_mul_of_pos_right→mw,le_refl→bp,le_total→xz,le_trans→fo,lt_of_lt_of_le→na,lt_or_ge→gw,min_comm→ya,min_eq_left→oa,min_eq_right→uz,mul_le_mul_right→dl,mul_one→mf,one_mul→mz,sub_mul→zj,zero_add→ew
open Option renaming bind_eq_some_iff→cz,isSome_iff_exists→fz,map_eq_some_iff→bf,map_some→fy
open Option.some renaming inj→fg,injEq→dw
open Prod renaming fst→di
open UInt8 renaming ofNat→cw
namespace Go.Pal
open Go
variable {P:Program}
variable {w w':World}
variable {O O':Nat->Prop}
variable {v u z:Value}
variable {b off len cap m f o nx cap2:Nat}
variable {e t elem tx:TypeId}
variable {σ σ':Nat->Value}
variable {l:List Int}
variable {vs us:List Value}
variable {last:Option Nat}
variable {ls:List (List Int)}
variable {a:Act}
variable {A B:Option Addr}
variable {α:Type}
variable {cs:List Prop}
variable {op:BinOp}
variable {i:Int}
variable {lo hi:Option Int}
variable {kl kh:IntKind}
variable {c:Array Value}
variable {s:Operand}
theorem uH (w:World) (o:Obj) (b:Nat) (h:b<w.heap.size):(w.alloc o).heap[b]? =w.heap[b]?:=by first|exact heap_alloc_old w o b h|exact heap_alloc_old w o h
inductive tH where
 |mk (kids:List (Option tH)) (items:List ByteArray) (n d s1 s2 s3 s4:Int)
def tH.kids:tH->List (Option tH)|.mk x _ _ _ _ _ _ _=>x
def tH.items:tH->List ByteArray|.mk _ x _ _ _ _ _ _=>x
def tH.n:tH->Int|.mk _ _ x _ _ _ _ _=>x
def tH.d:tH->Int|.mk _ _ _ x _ _ _ _=>x
def tH.s1:tH->Int|.mk _ _ _ _ x _ _ _=>x
def tH.s2:tH->Int|.mk _ _ _ _ _ x _ _=>x
def tH.s3:tH->Int|.mk _ _ _ _ _ _ x _=>x
def tH.s4:tH->Int|.mk _ _ _ _ _ _ _ x=>x
inductive Kd where
 |int (k:IntKind)
 |bool
 |str
 |slice (e:Kd)
 |opt (e:Kd)
 |pair (a b:Kd)
 |node
 deriving DecidableEq
variable {k:Kd}
@[reducible] def Kd.ty:Kd→Type
  |.int _=>Int
  |.bool=>Bool
  |.str=>ByteArray
  |.slice e=>List e.ty
  |.opt e=>Option e.ty
  |.pair a b=>a.ty × b.ty
  |.node=>tH
def Kd.sz:Kd->Nat
 |.pair a b=>a.sz+b.sz
 |.node=>8
 |_=>1
def Kd.dflt:(k:Kd)->k.ty
 |.int _=>(0:Int)
 |.bool=>false
 |.str=>cc
 |.slice _=>[]
 |.opt _=>none
 |.pair a b=>(a.dflt,b.dflt)
 |.node=> .mk [] [] 0 0 0 0 0 0
theorem Kd.sz_pos:∀k:Kd,0<k.sz
 |.pair a b=>by have:=Kd.sz_pos a;simp only[Kd.sz];omega
 |.int _|.bool|.str|.slice _|.opt _|.node=>by simp[Kd.sz]
def vJ (O:Nat->Prop) (w:World):Nat->tH->List Value->Prop
 |0,_,_=>False
 | f+1,.mk kids items n d s1 s2 s3 s4,cs => ∃ A ca B cb,cs=[.slice A kids.length ca,.slice B items.length cb,.int .i64 n,.int .i64 d,.int .i64 s1,.int .i64 s2,.int .i64 s3,.int .i64 s4] ∧
    kids.length<=ca/\items.length<=cb/\
    (∀i (h:i<kids.length),∃b off v,A=some ⟨b,off,none⟩/\¬O b/\w.cell? ⟨b,off+i,none⟩=some v/\
     match kids[i] with
     |none=>v=.pointer none
     |some t=> ∃b' off' c,v=.pointer (some ⟨b',off',none⟩)/\ ¬O b'/\vJ O w f t c/\ ∀j,j<8->w.cell? ⟨b',off'+j,none⟩=c[j]?) /\
    ∀i (h:i<items.length),∃b off,B=some ⟨b,off,none⟩/\¬O b/\w.cell? ⟨b,off+i,none⟩=some (.string items[i])
def Kd.R (O:Nat->Prop) (w:World):(k:Kd)->k.ty->List Value->Prop
 |.int ik,n,cs=>cs=[.int ik n]
 |.bool,b,cs=>cs=[.bool b]
 |.str,s,cs=>cs=[.string s]
 |.slice e,xs,cs=> ∃A cap,cs=[.slice A xs.length cap]/\xs.length<=cap /\
  ∀i (h:i<xs.length),∃b off c,A=some ⟨b,off,none⟩/\¬O b/\e.R O w xs[i] c/\∀j,j<e.sz->w.cell? ⟨b,off+i*e.sz+j,none⟩=c[j]?
 |.opt e,x,cs=>match x with
  |none=>cs=[.pointer none]
  |some y=> ∃b off c,cs=[.pointer (some ⟨b,off,none⟩)]/\ ¬O b/\e.R O w y c/\ ∀j,j<e.sz->w.cell? ⟨b,off+j,none⟩=c[j]?
 |.pair a b,x,cs=> ∃c1 c2,cs=c1++c2/\a.R O w x.1 c1/\b.R O w x.2 c2
 |.node,t,cs=> ∃f,vJ O w f t cs
theorem A2n:∀{f:Nat} {t:tH} {cs:List Value},vJ O w f t cs->cs.length=8
 |0,_,_,h=>h.elim
 |_+1,.mk ..,_,h=>by obtain⟨_,_,_,_,rfl,_⟩:=h;rfl
theorem v7 {O:Nat->Prop} {w:World}:∀{k:Kd} {x:k.ty} {cs:List Value},k.R O w x cs->cs.length=k.sz
 |.int _,_,_,h=>by subst h;rfl
 |.bool,_,_,h=>by subst h;rfl
 |.str,_,_,h=>by subst h;rfl
 |.slice _,_,_,h=>by obtain⟨_,_,rfl,_⟩:=h;rfl
 |.opt _,none,_,h=>by simp only[Kd.R] at h;subst h;rfl
 |.opt _,some _,_,h=>by simp only[Kd.R] at h;obtain⟨_,_,_,rfl,_⟩:=h;rfl
 | .pair _ _,_,_,h => by obtain⟨c1,c2,rfl,h1,h2⟩:=h;have:=v7 h1;have:=v7 h2;simp only[cy,Kd.sz];omega
 |.node,_,_,h=>by obtain⟨_,h⟩:=h;exact A2n h
def uA (O:Nat->Prop) (w w':World):Prop:=∀b,b<w.heap.size->¬O b->w'.heap[b]? =w.heap[b]?
theorem uA.cell (h:uA O w w') {a:Addr} (hb:¬O a.block) (hc:w.cell? a=some v):w'.cell? a=some v:=by rw[<-hc];exact World.cell?_of_block (h a.block (mt w a hc) hb)
theorem uA.cells (h:uA O w w') {n:Nat} {c:List Value} (hb:¬O b) (hl:c.length=n)
 (hc:∀j,j<n->w.cell? ⟨b,off+j,none⟩=c[j]?):∀j,j<n->w'.cell? ⟨b,off+j,none⟩=c[j]?:=by
 intro j hj;have hs:c[j]? =some c[j]:=bj (by omega);rw[hs];exact h.cell (a:=⟨b,off+j,none⟩) hb (by rw[hc j hj,hs])
theorem A0m {n:Nat} {c:List Value} (hl:c.length=n) (hn:0<n) (hc:∀j,j<n->w.cell? ⟨b,off+j,none⟩=c[j]?):b<w.heap.size:=by have h0:=hc 0 hn;have hs:c[0]? =some c[0]:=bj (by omega);rw[hs] at h0;exact mt w _ h0
theorem A2o {O O':Nat->Prop} {w w':World} (hw:uA O w w') (ho:∀b,b<w.heap.size->¬O b->¬O' b) :
 ∀{f:Nat} {t:tH} {cs:List Value},vJ O w f t cs->vJ O' w' f t cs
 |0,_,_,h=>h.elim
 | f+1,.mk kids items n d s1 s2 s3 s4,_,h => by
   obtain⟨A,ca,B,cb,rfl,h1,h2,h3,h4⟩:=h;refine⟨A,ca,B,cb,rfl,h1,h2,λi hi=>?_,λi hi=>?_⟩
   ·obtain⟨b,off,v,hA,hb,hc,hk⟩:=h3 i hi;refine⟨b,off,v,hA,ho b (mt w _ hc) hb,hw.cell (a:=⟨b,off+i,none⟩) hb hc,?_⟩;split at hk;·exact hk
    ·obtain⟨b',off',c,hv,hb',hR,hc'⟩:=hk;have hl:=A2n hR;exact⟨b',off',c,hv,ho b' (A0m hl (by omega) hc') hb',A2o hw ho hR,hw.cells hb' hl hc'⟩
   ·obtain⟨b,off,hB,hb,hc⟩:=h4 i hi;exact⟨b,off,hB,ho b (mt w _ hc) hb,hw.cell (a:=⟨b,off+i,none⟩) hb hc⟩
theorem uX {O O':Nat->Prop} {w w':World} (hw:uA O w w') (ho:∀b,b<w.heap.size->¬O b->¬O' b) :
 ∀{k:Kd} {x:k.ty} {cs:List Value},k.R O w x cs->k.R O' w' x cs
 |.int _,_,_,h=>h
 |.bool,_,_,h=>h
 |.str,_,_,h=>h
 | .slice e,xs,_,h => by obtain⟨A,cap,rfl,hl,hr⟩:=h;refine⟨A,cap,rfl,hl,λi hi=>?_⟩;obtain⟨b,off,c,hA,hb,hR,hc⟩:=hr i hi;have hlt:=A0m (v7 hR) (Kd.sz_pos e) hc;exact⟨b,off,c,hA,ho b hlt hb,uX hw ho hR,hw.cells hb (v7 hR) hc⟩
 |.opt e,none,_,h=>h
 | .opt e,some y,_,h => by simp only[Kd.R] at h ⊢;obtain⟨b,off,c,rfl,hb,hR,hc⟩:=h;have hlt:=A0m (v7 hR) (Kd.sz_pos e) hc;exact⟨b,off,c,rfl,ho b hlt hb,uX hw ho hR,hw.cells hb (v7 hR) hc⟩
 | .pair a b,_,_,h => by obtain⟨c1,c2,rfl,h1,h2⟩:=h;exact⟨c1,c2,rfl,uX hw ho h1,uX hw ho h2⟩
 |.node,_,_,h=>by obtain⟨f,h⟩:=h;exact⟨f,A2o hw ho h⟩
inductive CV where
 |val (v:Value)
 |imm (k:Kd) (x:k.ty)
 |h (n:Nat)
 |cell (n o:Nat)
 |elt (n sz i o:Nat)
 |ielt (k:Kd) (x:k.ty)
 |sub (n sz lo len:Nat)
 |clo (f:FuncId) (caps:List Nat)
 |zc
 |slf (n:Nat) (t:TypeId)
 |elm (n i:Nat)
variable {p x y:CV}
abbrev cK:Kd:=.pair (.int .i64) (.int .i64)
abbrev aK:Kd:=.pair .str (.pair (.int .i64) (.pair (.int .i64) (.pair (.int .i64) (.slice cK))))
inductive SV where
 |c (x:CV)
 |agg (l:List CV)
 |tup (l:List (Bool × List CV))
variable {sv:SV}
inductive Ent where
 |box (cs:List CV)
 |row (k:Kd) (xs:List k.ty)
 |it (s:ByteArray) (pos:Nat) (k:Option Bool)
 |map (l:List Int)
 |lit (cs:List CV)
 |sets (ls:List (List Int)) (last:Option Nat)
 |arow (m:Nat) (xs:List aK.ty)
 |aown (xs:List aK.ty)
 |apend (i:Nat) (zs:List cK.ty) (xs:List aK.ty)
 |brow (e:TypeId) (xs:List Int)
 |mit (left:List Int) (cur:Option Int)
 |abox (pre:List CV) (k:Nat) (bs:List Bool) (post:List CV)
variable {e':Ent}
def uE (pre:List CV) (bs:List Bool) (post:List CV):List CV:=pre++(bs.map (λb=>CV.val (.bool b))++post)
abbrev Env:=List (Nat×SV)
variable {Γ:Env}
abbrev tG:=List (Nat×Ent)
variable {H H':tG}
def blk:Value->Option Nat
 |.pointer (some a)=>some a.block
 |.slice (some a) _ cap=>if cap=0 then none else some a.block
 |.map (some b)=>some b
 |_=>none
def hd:Value->Value
 |.tuple vs=>vs.toList.headD undef
 |v=>v
def tl:Value->List Value
 |.tuple vs=>vs.toList.tail
 |_=>[]
def xB:Value->Value
 |.agg c=>c.getD 0 undef
 |v=>v
def cmp (v:Value) (i:Nat):Value:=xB ((tl v).getD i undef)
def Bk:Value->Nat->Prop
 |.tuple vs,b=> ∃v∈vs.toList,blk v=some b
 |v,b=>blk v=some b
def uN (w:World) (b:Nat) (l:List Int):Prop:=
 ∃ es clock,w.heap[b]? = some (.map es clock)∧rm es clock∧(∀ x∈es.toList,∃ n,x.key=.int .i64 n∧x.val=.agg #[]∧n∈l)∧
   (∀n∈l,∃x∈es.toList,x.key=.int .i64 n)/\l.Pairwise (·< ·)/\∀n∈l,-9223372036854775808<=n/\n<=9223372036854775807
def CVr (O:Nat->Prop) (w:World) (σ:Nat->Value):CV->Value->Prop
 |.val u,v=>v=u
 |.imm k x,v=>k.R O w x [v]
 |.h n,v=>v=hd (σ n)
 |.cell n o,v=> ∃b,hd (σ n)=.pointer (some ⟨b,0,none⟩)/\v=.pointer (some ⟨b,o,none⟩)
 |.elt n sz i o,v=> ∃b off len cap,hd (σ n)=.slice (some ⟨b,off,none⟩) len cap/\i<len/\v=.pointer (some ⟨b,off+i*sz+o,none⟩)
 |.ielt k x,v=> ∃b off c,v=.pointer (some ⟨b,off,none⟩)/\ ¬O b/\k.R O w x c/\ ∀j,j<k.sz->w.cell? ⟨b,off+j,none⟩=c[j]?
 |.sub n sz lo len,v=> ∃A l cap A' cap',hd (σ n)=.slice A l cap/\v=.slice A' len cap'/\len<=cap'/\lo+len<=l/\(0<cap'->lo+cap'<=cap/\ ∃b off,A=some ⟨b,off,none⟩/\A'=some ⟨b,off+lo*sz,none⟩)
 |.clo f caps,v=>v=.func (.func f) #[] (caps.map λn=>hd (σ n)).toArray
 |.zc,v=> ∃A,v=.slice A 0 0
 |.slf n t,v=> ∃b,σ n=.tuple [.pointer (some ⟨b,0,none⟩),.iface t .nilIface].toArray/\(v=.pointer none\/v=.pointer (some ⟨b,0,none⟩))
 |.elm n i,v=>v=cmp (σ n) i
def CVs (O:Nat->Prop) (w:World) (σ:Nat->Value):List CV->List Value->Prop
 |[],[]=>True
 |s::l,v::vs=>CVr O w σ s v/\CVs O w σ l vs
 |_,_=>False
def PVr (O:Nat->Prop) (w:World) (σ:Nat->Value):Bool×List CV->Value->Prop
 |(true,l),v=> ∃vs,v=.agg vs.toArray/\CVs O w σ l vs
 |(false,[x]),v=>CVr O w σ x v
 |_,_=>False
def PVs (O:Nat->Prop) (w:World) (σ:Nat->Value):List (Bool×List CV)->List Value->Prop
 |[],[]=>True
 |s::l,v::vs=>PVr O w σ s v/\PVs O w σ l vs
 |_,_=>False
def SVr (O:Nat->Prop) (w:World) (σ:Nat->Value):SV->Value->Prop
 |.c x,v=>CVr O w σ x v
 |.agg l,v=> ∃vs,v=.agg vs.toArray/\CVs O w σ l vs
 |.tup l,v=> ∃vs,v=.tuple vs.toArray/\PVs O w σ l vs
def tV (O:Nat->Prop) (w:World) (k:Kd) (xs:List k.ty) (v:Value):Prop:=
 ∃ A cap,v=.slice A xs.length cap∧
   ((cap=0/\xs=[])\/
    ((0<cap∧cap≤9223372036854775807)∧xs.length≤cap∧∃ b off c e,A=some ⟨b,off,none⟩∧w.heap[b]? = some (.cells c e (0,0))∧off+cap * k.sz≤c.size∧
      ∀i (h:i<xs.length),∃cs,k.R O w xs[i] cs/\∀j,j<k.sz->c[off+i*k.sz+j]? =cs[j]?))
def uO (w:World) (σ:Nat->Value) (v:Value) (ls:List (List Int)) (last:Option Nat):Prop:=
 ∃ A cap vs,v=.tuple (.slice A vs.length cap :: vs).toArray∧((.slice A vs.length cap :: vs).filterMap blk).Nodup∧vs.length=ls.length+last.toList.length∧
   (∀i (h:i<ls.length),∃b,vs[i]? =some (.map (some b))/\uN w b ls[i])/\(∀m,last=some m->vs[ls.length]? =some (.agg #[hd (σ m)])/\(hd (σ m)).oneCell'=true)/\
   ((cap=0∧vs=[])∨((0<cap∧cap≤9223372036854775807)∧vs.length≤cap∧∃ b off c e,A=some ⟨b,off,none⟩∧w.heap[b]? = some (.cells c e (0,0))∧off+cap≤c.size∧
     ∀i,i<vs.length->c[off+i]? =(vs[i]?).map xB))
def ArR (O:Nat->Prop) (w:World) (v:Value) (m:Nat) (xs:List aK.ty) (q:Option (Nat×List cK.ty)):Prop:=
 ∃ A cap vs,v=.tuple (.slice A xs.length cap :: vs).toArray∧vs.length=m∧m≤xs.length∧((.slice A xs.length cap :: vs).filterMap blk).Nodup∧
   (∀i (h:i<vs.length),∃zs,tV O w cK zs vs[i]/\(∀x,xs[i]? =some x->q.map di≠some i->zs=x.2.2.2.2)/\∀p,q=some p->p.1=i->zs=p.2)/\
   ((cap=0∧xs=[])∨((0<cap∧cap≤9223372036854775807)∧xs.length≤cap∧∃ b off c e,A=some ⟨b,off,none⟩∧w.heap[b]? = some (.cells c e (0,0))∧off+cap * 5≤c.size∧
     ∀ i (h:i<xs.length),∃ cs,(∀ j,j<5→c[off+i * 5+j]? = cs[j]?)∧
       if i<m then ∃u,cs=[.string xs[i].1,.int .i64 xs[i].2.1,.int .i64 xs[i].2.2.1,.int .i64 xs[i].2.2.2.1,u]/\u.oneCell'=true/\(q.map di≠some i->vs[i]? =some u)
       else aK.R O w xs[i] cs))
def yD (w:World) (v:Value) (left:List Int) (cur:Option Int):Prop:=
 ∃ b r es clock seen,v=.tuple [.pointer (some ⟨r,0,none⟩),.map (some b)].toArray∧r≠b∧w.heap[b]? = some (.map es clock)∧w.heap[r]? = some (.mapIter (some b) clock seen clock)∧rm es clock∧
   (∀x∈es.toList,∃n,x.key=.int .i64 n/\x.val=.agg #[])/\left.Nodup/\(∀n,n∈left↔∃x∈es.toList,x.key=.int .i64 n/\seen.contains x.born=false)/\
   ∀g,cur=some g->∃(seen':Array Nat) (x:MapEntry),seen=seen'.push x.born/\x∈es.toList/\x.key=.int .i64 g
def w8 (w:World) (v:Value) (e:TypeId):Prop:=∀A len cap,v=.slice A len cap->(cap=0/\A=none)\/(0<cap/\∃b c,A=some ⟨b,0,none⟩/\w.heap[b]? =some (.cells c e (0,0)))
def uU (v:Value) (b:Nat) (e:TypeId):Prop:=v=.pointer (some ⟨b,0,none⟩)\/v=.tuple [.pointer (some ⟨b,0,none⟩),.iface e .nilIface].toArray
theorem uU.hd (h:uU v b e):Pal.hd v=.pointer (some ⟨b,0,none⟩):=by rcases h with rfl|rfl<;>rfl
theorem uU.bk (h:uU v b e) {q:Nat}:Bk v q↔q=b:=by
 rcases h with rfl|rfl
 ·simp only[Bk,blk,dw];exact eq_comm
 ·constructor
  ·rintro⟨u,hu,hq⟩;have hu:u=.pointer (some ⟨b,0,none⟩)\/u=.iface e .nilIface:=by simpa using hu
   rcases hu with rfl|rfl;·cases hq;rfl
   ·cases hq
  ·rintro rfl;exact⟨.pointer (some ⟨q,0,none⟩),by simp,rfl⟩
theorem uU.own (h:uU v b e):Bk v b:=h.bk.2 rfl
def uB (O:Nat->Prop) (w:World) (σ:Nat->Value) (n:Nat):Ent->Prop
 |.box cs=> ∃b c e,uU (σ n) b e/\w.heap[b]? =some (.cells c e (0,0))/\CVs O w σ cs c.toList
 |.row k xs=>tV O w k xs (σ n)
 |.it s pos k=> ∃b,σ n=.pointer (some ⟨b,0,none⟩)/\w.heap[b]? =some (.stringIter s pos)/\(k=some true->pos<s.size)/\(k=some false->s.size<=pos)
 |.map l=> ∃b,σ n=.map (some b)/\uN w b l
 |.lit cs=> ∃b c e,σ n=.slice (some ⟨b,0,none⟩) cs.length cs.length/\0<cs.length/\w.heap[b]? =some (.cells c e (0,0))/\CVs O w σ cs c.toList
 |.sets ls last=>uO w σ (σ n) ls last
 |.arow m xs=>ArR O w (σ n) m xs none
 |.aown xs=>ArR O w (σ n) xs.length xs none
 |.apend i zs xs=>ArR O w (σ n) xs.length xs (some (i,zs))/\i<xs.length
 |.brow e xs=>tV O w (.int .u8) xs (σ n)/\w8 w (σ n) e
 |.mit left cur=>yD w (σ n) left cur
 |.abox pre k bs post=>bs.length=k/\ ∃b c e,uU (σ n) b e/\w.heap[b]? =some (.cells c e (0,0))/\CVs O w σ (uE pre bs post) c.toList
structure FC where
 N:Nat
 G:Nat->Prop
 B:World
 O0:Nat->Prop
 n0:Nat
 σ0:Nat->Value
variable {C:FC}
def Ow (G:Nat->Prop) (H:tG) (σ:Nat->Value) (b:Nat):Prop:=G b\/∃p∈H,Bk (σ p.1) b
structure Fr (C:FC) (w:World):Prop where
 os:w.os=C.B.os
 tape:w.tape=C.B.tape
 output:w.output=C.B.output
 size:C.B.heap.size<=w.heap.size
 block:∀b,b<C.B.heap.size->¬C.O0 b->w.heap[b]? =C.B.heap[b]?
 gsize:∀b,C.G b->b<C.B.heap.size
structure tK (C:FC) (σ:Nat->Value) (H:tG) (w:World):Prop where
 ent:∀p∈H,uB (Ow C.G H σ) w σ p.1 p.2
 nd:(H.map di).Nodup
 disj:∀p∈H,∀q∈H,p.1≠q.1->∀b,Bk (σ p.1) b->¬Bk (σ q.1) b
 mine:∀p∈H,∀b,Bk (σ p.1) b->¬C.G b/\(C.O0 b\/C.B.heap.size<=b)
 fr:Fr C w
def tJ {α:Type}:List (Nat×α)->Nat->Option α
 |[],_=>none
 |(t,v)::l,s=>if t=s then some v else tJ l s
def tM (C:FC) (σ:Nat->Value) (H:tG) (w:World) (Γ:Env) (a:Act):Prop:=
 (∀t sv,tJ Γ t=some sv->t<C.N/\SVr (Ow C.G H σ) w σ sv (a.tmps.getD t undef))/\a.tmps.size=C.N/\a.defers=[]
def Sat (C:FC) (Γ:Env) (H:tG) (a:Act) (w:World):Prop:=∃σ,tK C σ H w/\tM C σ H w Γ a/\∀n,n<C.n0->σ n=C.σ0 n
theorem A0Q (hw:uA O w w') (ho:∀b,b<w.heap.size->¬O b->¬O' b) :
 ∀{s:CV} {v:Value},CVr O w σ s v->CVr O' w' σ s v
 |.val _,_,h=>h
 |.imm _ _,_,h=>uX hw ho h
 |.h _,_,h=>h
 |.cell _ _,_,h=>h
 |.elt _ _ _ _,_,h=>h
 | .ielt k _,_,h => by obtain⟨b,off,c,rfl,hb,hR,hc⟩:=h;exact⟨b,off,c,rfl,ho b (A0m (v7 hR) (Kd.sz_pos k) hc) hb,uX hw ho hR,hw.cells hb (v7 hR) hc⟩
 |.sub _ _ _ _,_,h=>h
 |.clo _ _,_,h=>h
 |.zc,_,h=>h
 |.slf _ _,_,h=>h
 |.elm _ _,_,h=>h
theorem wH {O O':Nat->Prop} {w w':World} {σ:Nat->Value} (hw:uA O w w') (ho:∀b,b<w.heap.size->¬O b->¬O' b) :
 ∀{l:List CV} {vs:List Value},CVs O w σ l vs->CVs O' w' σ l vs
 |[],[],_=>trivial
 |_::_,_::_,h=>⟨A0Q hw ho h.1,wH hw ho h.2⟩
 |[],_::_,h=>h.elim
 |_::_,[],h=>h.elim
theorem A55 (hw:uA O w w') (ho:∀b,b<w.heap.size->¬O b->¬O' b) :
 ∀{s:Bool×List CV} {v:Value},PVr O w σ s v->PVr O' w' σ s v
 |(true,_),_,h=>by obtain⟨vs,rfl,h⟩:=h;exact⟨vs,rfl,wH hw ho h⟩
 |(false,[_]),_,h=>A0Q hw ho h
 |(false,[]),_,h=>h.elim
 |(false,_::_::_),_,h=>h.elim
theorem A2q {O O':Nat->Prop} {w w':World} {σ:Nat->Value} (hw:uA O w w') (ho:∀b,b<w.heap.size->¬O b->¬O' b) :
 ∀{l:List (Bool×List CV)} {vs:List Value},PVs O w σ l vs->PVs O' w' σ l vs
 |[],[],_=>trivial
 |_::_,_::_,h=>⟨A55 hw ho h.1,A2q hw ho h.2⟩
 |[],_::_,h=>h.elim
 |_::_,[],h=>h.elim
theorem wP (hw:uA O w w') (ho:∀b,b<w.heap.size->¬O b->¬O' b) :
 ∀{s:SV} {v:Value},SVr O w σ s v->SVr O' w' σ s v
 |.c _,_,h=>A0Q hw ho h
 |.agg _,_,h=>by obtain⟨vs,rfl,h⟩:=h;exact⟨vs,rfl,wH hw ho h⟩
 |.tup _,_,h=>by obtain⟨vs,rfl,h⟩:=h;exact⟨vs,rfl,A2q hw ho h⟩
def CV.has (m:Nat):CV->Bool
 |.h n|.cell n _|.elt n _ _ _|.sub n _ _ _|.slf n _|.elm n _=>n==m
 |.clo _ caps=>caps.any (·==m)
 |.val _|.imm _ _|.ielt _ _|.zc=>false
def SV.has (m:Nat):SV->Bool
 |.c x=>x.has m
 |.agg l=>l.any (CV.has m)
 |.tup l=>l.any λp=>p.2.any (CV.has m)
def Ent.has (m:Nat):Ent->Bool
 |.box cs=>cs.any (CV.has m)
 |.row _ _=>false
 |.it _ _ _=>false
 |.map _=>false
 |.lit cs=>cs.any (CV.has m)
 |.sets _ last=>last==some m
 |.arow _ _=>false
 |.aown _=>false
 |.apend _ _ _=>false
 |.brow _ _=>false
 |.mit _ _=>false
 |.abox pre _ _ post=>pre.any (CV.has m)||post.any (CV.has m)
def tY (m:Nat) (Γ:Env) (H:tG):Bool:=Γ.all (λp=>!p.2.has m)&&H.all λp=>p.1 !=m&&!p.2.has m
theorem A1A:∀{s:CV} {v:Value},(∀n,s.has n=true->σ' n=σ n)->CVr O w σ s v->CVr O w σ' s v
 |.val _,_,_,h=>h
 |.imm _ _,_,_,h=>h
 |.h n,_,hn,h=>by have e:=hn n (by simp[CV.has]);simp only[CVr] at h ⊢;rw[e];exact h
 |.cell n _,_,hn,h=>by have e:=hn n (by simp[CV.has]);simp only[CVr] at h ⊢;rw[e];exact h
 |.elt n _ _ _,_,hn,h=>by have e:=hn n (by simp[CV.has]);simp only[CVr] at h ⊢;rw[e];exact h
 |.ielt _ _,_,_,h=>h
 |.zc,_,_,h=>h
 |.slf n _,_,hn,h=>by have e:=hn n (by simp[CV.has]);simp only[CVr] at h ⊢;rw[e];exact h
 |.elm n _,_,hn,h=>by have e:=hn n (by simp[CV.has]);simp only[CVr] at h ⊢;rw[e];exact h
 |.sub n _ _ _,_,hn,h=>by have e:=hn n (by simp[CV.has]);simp only[CVr] at h ⊢;rw[e];exact h
 | .clo _ caps,_,hn,h => by simp only[CVr] at h ⊢;rw[h];congr 2;exact(List.map_congr_left λn hm=>congrArg hd <| hn n (by simp only[CV.has,List.any_eq_true];exact⟨n,hm,by simp⟩)).symm
theorem wW {O:Nat->Prop} {w:World} {σ σ':Nat->Value}:∀{l:List CV} {vs:List Value},(∀n,l.any (CV.has n)=true->σ' n=σ n)->CVs O w σ l vs->CVs O w σ' l vs
 |[],[],_,_=>trivial
 |_::_,_::_,hn,h=>⟨A1A (λn hh=>hn n (by simp[hh])) h.1,wW (λn hh=>hn n (by rw[ii,hh,ua])) h.2⟩
 |[],_::_,_,h=>h.elim
 |_::_,[],_,h=>h.elim
theorem A56:∀{s:Bool×List CV} {v:Value},(∀n,s.2.any (CV.has n)=true->σ' n=σ n)->PVr O w σ s v->PVr O w σ' s v
 |(true,_),_,hn,h=>by obtain⟨vs,rfl,h⟩:=h;exact⟨vs,rfl,wW hn h⟩
 |(false,[_]),_,hn,h=>A1A (λn hh=>hn n (by simp[hh])) h
 |(false,[]),_,_,h=>h.elim
 |(false,_::_::_),_,_,h=>h.elim
theorem A2r {O:Nat->Prop} {w:World} {σ σ':Nat->Value}:∀{l:List (Bool×List CV)} {vs:List Value},(∀n,(l.any λp=>p.2.any (CV.has n))=true->σ' n=σ n)->PVs O w σ l vs->PVs O w σ' l vs
 |[],[],_,_=>trivial
 |_::_,_::_,hn,h=>⟨A56 (λn hh=>hn n (by simp only[ii,hh,Bool.true_or])) h.1,A2r (λn hh=>hn n (by rw[ii,hh,ua])) h.2⟩
 |[],_::_,_,h=>h.elim
 |_::_,[],_,h=>h.elim
theorem A1J:∀{s:SV} {v:Value},(∀n,s.has n=true->σ' n=σ n)->SVr O w σ s v->SVr O w σ' s v
 |.c _,_,hn,h=>A1A hn h
 |.agg _,_,hn,h=>by obtain⟨vs,rfl,h⟩:=h;exact⟨vs,rfl,wW hn h⟩
 |.tup _,_,hn,h=>by obtain⟨vs,rfl,h⟩:=h;exact⟨vs,rfl,A2r hn h⟩
theorem vU (hw:uA O w w') (ho:∀b,b<w.heap.size->¬O b->¬O' b) {xs:List k.ty}
 (hb:∀b,Bk v b->w'.heap[b]? =w.heap[b]?) (h:tV O w k xs v):tV O' w' k xs v:=by
 obtain⟨A,cap,rfl,h⟩:=h;refine⟨A,cap,rfl,?_⟩;rcases h with h|⟨hp,hl,b,off,c,e,rfl,hh,hs,hr⟩;·exact .inl h
 ·refine .inr ⟨hp,hl,b,off,c,e,rfl,?_,hs,λi hi=>?_⟩;·rw[hb b (by simp[Bk,blk];omega)];exact hh
  ·obtain⟨cs,hR,hc⟩:=hr i hi;exact⟨cs,uX hw ho hR,hc⟩
theorem A0V (hb:w'.heap[b]? =w.heap[b]?) (h:uN w b l):uN w' b l:=by obtain⟨es,clock,h1,h2⟩:=h;exact⟨es,clock,hb.trans h1,h2⟩
theorem uD (hm:v∈vs) (hb:blk v=some b):Bk (.tuple vs.toArray) b:=⟨v,by simpa using hm,hb⟩
theorem uG (h:0<cap):blk (.slice (some ⟨b,off,none⟩) len cap)=some b:=by simp only[blk];rw[if_neg (by omega)]
theorem v6 {xs:List k.ty} (h:tV O w k xs v):Bk v b↔blk v=some b:=by obtain⟨A,cap,rfl,_⟩:=h;exact Iff.rfl
theorem A5G (hb:∀b,Bk v b->w'.heap[b]? =w.heap[b]?) (h:uO w σ v ls last):uO w' σ v ls last:=by
 obtain⟨A,cap,vs,rfl,h1,h2,h3,h4,h5⟩:=h;refine⟨A,cap,vs,rfl,h1,h2,λi hi=>?_,h4,?_⟩
 ·obtain⟨b,hv,hM⟩:=h3 i hi;exact⟨b,hv,A0V (hb b (uD (cg _ (fm hv)) rfl)) hM⟩
 ·rcases h5 with h5|⟨hp,hl,b,off,c,e,rfl,hh,hs,hr⟩;·exact .inl h5
  ·exact .inr ⟨hp,hl,b,off,c,e,rfl,(hb b (uD de (uG hp.1))).trans hh,hs,hr⟩
theorem A5H (hn:∀m,last=some m->σ' m=σ m) (h:uO w σ v ls last):uO w σ' v ls last:=by obtain⟨A,cap,vs,rfl,h1,h2,h3,h4,h5⟩:=h;exact⟨A,cap,vs,rfl,h1,h2,h3,λm hm=>by rw[hn m hm];exact h4 m hm,h5⟩
theorem A18 (hw:uA O w w') (ho:∀b,b<w.heap.size->¬O b->¬O' b) {xs:List aK.ty} {q:Option (Nat×List cK.ty)}
 (hb:∀b,Bk v b->w'.heap[b]? =w.heap[b]?) (h:ArR O w v m xs q):ArR O' w' v m xs q:=by
 obtain⟨A,cap,vs,rfl,h1,h2,h3,h4,h5⟩:=h;refine⟨A,cap,vs,rfl,h1,h2,h3,λi hi=>?_,?_⟩
 ·obtain⟨zs,hR,hz⟩:=h4 i hi;exact⟨zs,vU hw ho (λb hbb=>hb b (uD (cg _ (kz hi)) ((v6 hR).1 hbb))) hR,hz⟩
 ·rcases h5 with h5|⟨hp,hl,b,off,c,e,rfl,hh,hs,hr⟩;·exact .inl h5
  ·refine .inr ⟨hp,hl,b,off,c,e,rfl,(hb b (uD de (uG hp.1))).trans hh,hs,λi hi=>?_⟩;obtain⟨cs,hcs,hr⟩:=hr i hi;refine⟨cs,hcs,?_⟩;split at hr;·rename_i hlt;rw[if_pos hlt];exact hr
   ·rename_i hlt;rw[if_neg hlt];exact uX hw ho hr
theorem A50 (hb:∀b,Bk v b->w'.heap[b]? =w.heap[b]?) (h:w8 w v e):w8 w' v e:=λA len cap hv=>by
 rcases h A len cap hv with h0|⟨hc,b,c,rfl,hh⟩;·exact .inl h0
 ·exact .inr ⟨hc,b,c,rfl,(hb b (by rw[hv];exact uG hc)).trans hh⟩
theorem yB (hw:uA O w w') (ho:∀b,b<w.heap.size->¬O b->¬O' b) {n:Nat}
 (hb:∀b,Bk (σ n) b->w'.heap[b]? =w.heap[b]?):∀{e:Ent},uB O w σ n e->uB O' w' σ n e
 | .box _,h => by obtain⟨b,c,e,hs,hh,hc⟩:=h;exact⟨b,c,e,hs,by rw[hb b hs.own];exact hh,wH hw ho hc⟩
 |.row _ _,h=>vU hw ho hb h
 | .it _ _ _,h => by obtain⟨b,hs,hh,hk⟩:=h;exact⟨b,hs,by rw[hb b (by rw[hs];rfl)];exact hh,hk⟩
 | .map _,h => by obtain⟨b,hs,hM⟩:=h;exact⟨b,hs,A0V (hb b (by rw[hs];rfl)) hM⟩
 | .lit _,h => by obtain⟨b,c,e,hs,hp,hh,hc⟩:=h;exact⟨b,c,e,hs,hp,by rw[hb b (by rw[hs];exact uG hp)];exact hh,wH hw ho hc⟩
 |.sets _ _,h=>A5G hb h
 |.arow _ _,h=>A18 hw ho hb h
 |.aown _,h=>A18 hw ho hb h
 |.apend _ _ _,h=>⟨A18 hw ho hb h.1,h.2⟩
 |.brow _ _,h=>⟨vU hw ho hb h.1,A50 hb h.2⟩
 | .mit _ _,h => by obtain⟨b,r,es,clock,seen,hv,hne,h1,h2,h3⟩:=h;exact⟨b,r,es,clock,seen,hv,hne,by rw[hb b (by rw[hv];exact uD (cg _ de) rfl)];exact h1,by rw[hb r (by rw[hv];exact uD de rfl)];exact h2,h3⟩
 | .abox _ _ _ _,h => by obtain⟨hk,b,c,e,hs,hh,hc⟩:=h;exact⟨hk,b,c,e,hs,by rw[hb b hs.own];exact hh,wH hw ho hc⟩
theorem A3B {pre post:List CV} {bs:List Bool}:(uE pre bs post).any (CV.has m)=(pre.any (CV.has m)||post.any (CV.has m)):=by
 have:(bs.map λb=>CV.val (.bool b)).any (CV.has m)=false:=by induction bs<;>simp_all [CV.has]
 simp only[uE,List.any_append,this,Bool.false_or]
theorem A0R {n:Nat} (hs:σ' n=σ n):∀{e:Ent},(∀m,e.has m=true->σ' m=σ m)->uB O w σ n e->uB O w σ' n e
 | .box _,hn,h => by obtain⟨b,c,e,he,hh,hc⟩:=h;exact⟨b,c,e,hs.symm▸he,hh,wW hn hc⟩
 |.row _ _,_,h=>by unfold uB at h ⊢;rw[hs];exact h
 |.it _ _ _,_,h=>by unfold uB at h ⊢;rw[hs];exact h
 |.map _,_,h=>by unfold uB at h ⊢;rw[hs];exact h
 | .lit _,hn,h => by obtain⟨b,c,e,he,hp,hh,hc⟩:=h;exact⟨b,c,e,hs.trans he,hp,hh,wW hn hc⟩
 |.sets _ _,hn,h=>by unfold uB at h ⊢;rw[hs];exact A5H (λm hm=>hn m (by simp[Ent.has,hm])) h
 |.arow _ _,_,h=>by unfold uB at h ⊢;rw[hs];exact h
 |.aown _,_,h=>by unfold uB at h ⊢;rw[hs];exact h
 |.apend _ _ _,_,h=>by unfold uB at h ⊢;rw[hs];exact h
 |.brow _ _,_,h=>by unfold uB at h ⊢;rw[hs];exact h
 |.mit _ _,_,h=>by unfold uB at h ⊢;rw[hs];exact h
 | .abox _ _ _ _,hn,h => by obtain⟨hk,b,c,e,he,hh,hc⟩:=h;exact⟨hk,b,c,e,hs.symm▸he,hh,wW (λm hm=>hn m (by rw[A3B] at hm;exact hm)) hc⟩
theorem A0U (h:uN w b l):b<w.heap.size:=by obtain⟨es,clock,h1,_⟩:=h;exact(dg.1 h1).1
theorem zG {xs:List k.ty} (h:tV O w k xs v) (hb:blk v=some b):b<w.heap.size:=by
 obtain⟨A,cap,rfl,h⟩:=h;rcases h with⟨rfl,_⟩|⟨hp,_,b',off,c,e,rfl,hh,_⟩;·cases A<;>simp[blk] at hb
 ·rw[uG hp.1] at hb;cases hb;exact(dg.1 hh).1
theorem A5F (h:uO w σ v ls last) (hb:Bk v b):b<w.heap.size:=by
 obtain⟨A,cap,vs,rfl,h1,h2,h3,h4,h5⟩:=h;obtain⟨u,hu,hb⟩:=hb;rcases bv.1 (by simpa using hu) with rfl|hu
 ·rcases h5 with⟨rfl,_⟩|⟨hp,hl,b',off,c,e,rfl,hh,_⟩;·cases A<;>simp[blk] at hb
  ·rw[uG hp.1] at hb;cases hb;exact(dg.1 hh).1
 ·obtain⟨i,hi,rfl⟩:=fe hu;rcases gw i ls.length with hlt|hge
  ·obtain⟨b',hv,hM⟩:=h3 i hlt;rw[bj hi] at hv;rw[fg hv] at hb;cases hb;exact A0U hM
  ·cases last with
   |none=>simp at h2;omega
   | some m =>
     have:i=ls.length:=by simp at h2;omega
     subst this;obtain⟨h6,_⟩:=h4 m rfl;rw[bj hi] at h6;rw[fg h6] at hb;cases hb
theorem A17 {xs:List aK.ty} {q:Option (Nat×List cK.ty)} (h:ArR O w v m xs q) (hb:Bk v b):b<w.heap.size:=by
 obtain⟨A,cap,vs,rfl,h1,h2,h3,h4,h5⟩:=h;obtain⟨u,hu,hb⟩:=hb;rcases bv.1 (by simpa using hu) with rfl|hu
 ·rcases h5 with⟨rfl,_⟩|⟨hp,hl,b',off,c,e,rfl,hh,_⟩;·cases A<;>simp[blk] at hb
  ·rw[uG hp.1] at hb;cases hb;exact(dg.1 hh).1
 ·obtain⟨i,hi,rfl⟩:=fe hu;obtain⟨zs,hR,_⟩:=h4 i hi;exact zG hR hb
theorem xC {n:Nat}:∀{e:Ent},uB O w σ n e->∀b,Bk (σ n) b->b<w.heap.size
 | .box _,h,b,hb => by obtain⟨b',c,e,hs,hh,_⟩:=h;obtain rfl:=hs.bk.1 hb;exact(dg.1 hh).1
 | .it _ _ _,h,b,hb => by obtain⟨b',hs,hh,_⟩:=h;rw[hs] at hb;simp only[Bk,blk,dw] at hb;subst hb;exact(dg.1 hh).1
 | .row _ _,h,b,hb => by
   obtain⟨A,cap,hs,h⟩:=h;rw[hs] at hb;rcases h with⟨rfl,_⟩|⟨hp,_,b',off,c,e,rfl,hh,_⟩;·cases A<;>simp[Bk,blk] at hb
   ·have:b'=b:=by
     simp only[Bk,blk] at hb;rw[if_neg (by omega)] at hb;simpa using hb
    subst this;exact(dg.1 hh).1
 | .map _,h,b,hb => by obtain⟨b',hs,hM⟩:=h;rw[hs] at hb;cases hb;exact A0U hM
 | .lit _,h,b,hb => by obtain⟨b',c,e,hs,hp,hh,_⟩:=h;rw[hs] at hb;have hb:some b'=some b:=(uG hp).symm.trans hb;cases hb;exact(dg.1 hh).1
 |.sets _ _,h,b,hb=>A5F h hb
 |.arow _ _,h,b,hb=>A17 h hb
 |.aown _,h,b,hb=>A17 h hb
 |.apend _ _ _,h,b,hb=>A17 h.1 hb
 |.brow _ _,h,b,hb=>zG h.1 ((v6 h.1).1 hb)
 | .mit _ _,h,b,hb => by
   obtain⟨b',r,es,clock,seen,hv,hne,h1,h2,h3⟩:=h;rw[hv] at hb;obtain⟨u,hu,hb⟩:=hb;have hu:u=.pointer (some ⟨r,0,none⟩)\/u=.map (some b'):=by simpa using hu
   rcases hu with rfl|rfl;·cases hb;exact(dg.1 h2).1
   ·cases hb;exact(dg.1 h1).1
 | .abox _ _ _ _,h,b,hb => by obtain⟨_,b',c,e,hs,hh,_⟩:=h;obtain rfl:=hs.bk.1 hb;exact(dg.1 hh).1
theorem A54 (h:tK C σ H w) (hb:Ow C.G H σ b):b<w.heap.size:=by
 rcases hb with hg|⟨p,hp,hb⟩;·exact na (h.fr.gsize b hg) h.fr.size
 ·exact xC (h.ent p hp) b hb
theorem tK.go (h:tK C σ H w) (hw:∀b,b<w.heap.size->w'.heap[b]? =w.heap[b]?)
 (hs:w.heap.size<=w'.heap.size) (hos:w'.os=w.os) (ht:w'.tape=w.tape) (hou:w'.output=w.output):tK C σ H w':=by
 have hso:uA (Ow C.G H σ) w w':=λb hb _=>hw b hb;refine⟨λp hp=>yB hso (λ_ _ h=>h) (λb hb=>hw b (xC (h.ent p hp) b hb)) (h.ent p hp),h.nd,h.disj,h.mine,?_⟩;exact⟨hos.trans h.fr.os,ht.trans h.fr.tape,hou.trans h.fr.output,fo h.fr.size hs,
  λb hb ho=>(hw b (na hb h.fr.size)).trans (h.fr.block b hb ho),h.fr.gsize⟩
theorem tM.go (h:tM C σ H w Γ a) (hw:∀b,b<w.heap.size->w'.heap[b]? =w.heap[b]?):tM C σ H w' Γ a:=
 ⟨λt sv hl=>⟨(h.1 t sv hl).1,wP (λb hb _=>hw b hb) (λ_ _ h=>h) (h.1 t sv hl).2⟩,h.2⟩
theorem tK.sub (h:tK C σ H w) (hsub:∀p∈H',p∈H) (hnd:(H'.map di).Nodup):tK C σ H' w:=by
 have ho:∀b,b<w.heap.size->¬Ow C.G H σ b->¬Ow C.G H' σ b:=λb _ hb hb'=>hb (by
  rcases hb' with hg|⟨p,hp,e⟩;·exact .inl hg
  ·exact .inr ⟨p,hsub p hp,e⟩)
 exact⟨λp hp=>yB (λ_ _ _=>rfl) ho (λ_ _=>rfl) (h.ent p (hsub p hp)),hnd,λp hp q hq=>h.disj p (hsub p hp) q (hsub q hq),λp hp=>h.mine p (hsub p hp),h.fr⟩
theorem tM.sub (h:tM C σ H w Γ a) (hsub:∀p∈H',p∈H):tM C σ H' w Γ a:=
 ⟨λt sv hl=>⟨(h.1 t sv hl).1,wP (λ_ _ _=>rfl) (λb _ hb hb'=>hb (by
  rcases hb' with hg|⟨p,hp,e⟩;·exact .inl hg
  ·exact .inr ⟨p,hsub p hp,e⟩)) (h.1 t sv hl).2⟩,h.2⟩
theorem tM.put {d:Nat} (h:tM C σ H w Γ a) (hd:d<C.N) (hv:SVr (Ow C.G H σ) w σ sv v) :
 tM C σ H w ((d,sv)::Γ) (a.put (some d) v):=by
 refine⟨λt s hl=>?_,by simpa[nr] using h.2.1,h.2.2⟩;simp only[tJ] at hl;by_cases e:d=t
 ·subst e;rw[if_pos rfl] at hl;cases hl;refine⟨hd,?_⟩;have hlt:d<a.tmps.size:=by rw[h.2.1];exact hd
  simp only[nr,fc,jh,hlt,if_true,Option.getD_some];exact hv
 ·rw[if_neg e] at hl;refine⟨(h.1 t s hl).1,?_⟩;have:=(h.1 t s hl).2;simpa only[nr,fc,jh,if_neg e] using this
def tO (H:tG) (n:Nat):tG:=H.filter λp=>p.1 !=n
theorem uC {n:Nat} {p:Nat×Ent}:p∈tO H n↔p∈H/\p.1≠n:=by simp[tO]
theorem A08 {n:Nat} (h:(H.map di).Nodup):((tO H n).map di).Nodup:=
 (ux _ (nw)).nodup h
theorem tI {α:Type}:∀{l:List (Nat×α)} {t:Nat} {v:α},tJ l t=some v->(t,v)∈l
 |[],_,_,h=>by simp[tJ] at h
 | (s,u) :: l,t,v,h => by
   simp only[tJ] at h;by_cases e:s=t;·rw[if_pos e] at h;cases h;subst e;exact de
   ·rw[if_neg e] at h;exact cg _ (tI h)
theorem A4D {α:Type}:∀{l:List (Nat×α)} {t:Nat} {v:α},(l.map di).Nodup->(t,v)∈l->tJ l t=some v
 | (s,u) :: l,t,v,hnd,h => by
   simp only[dj,dy] at hnd;simp only[tJ];rcases bv.1 h with e|h;·cases e;rw[if_pos rfl]
   ·rw[if_neg,A4D hnd.2 h];intro e;exact hnd.1 (cj.2 ⟨(t,v),h,e.symm⟩)
def upd (σ:Nat->Value) (n:Nat) (v:Value):Nat->Value:=λm=>if m=n then v else σ m
theorem tQ (σ:Nat->Value) (n:Nat) (v:Value):upd σ n v n=v:=by simp[upd]
theorem tT {n:Nat} (h:m≠n):upd σ n v m=σ m:=by simp[upd,h]
theorem z8 {n:Nat}:upd σ n (σ n)=σ:=by funext m;by_cases h:m=n<;>simp[upd,h]
theorem y5 (h:tK C σ H w) (n n':Nat) (e':Ent) (v':Value)
 (hfree:∀m,m=n'->v'=σ n'\/∀p∈tO H n,p.2.has n'=false)
 (hnin:∀p∈tO H n,p.1≠n')
 (hw:∀b,b<w.heap.size->(∀e,(n,e)∈H->¬Bk (σ n) b)->w'.heap[b]? =w.heap[b]?)
 (hs:w.heap.size<=w'.heap.size) (hos:w'.os=w.os) (ht:w'.tape=w.tape) (hou:w'.output=w.output)
 (hblk:∀b,Bk v' b->(Bk (σ n) b/\∃e,(n,e)∈H)\/w.heap.size<=b)
 (hent:uB (Ow C.G ((n',e')::tO H n) (upd σ n' v')) w' (upd σ n' v') n' e') :
 tK C (upd σ n' v') ((n',e')::tO H n) w'/\uA (Ow C.G H σ) w w'/\
  ∀b,b<w.heap.size->¬Ow C.G H σ b->¬Ow C.G ((n',e')::tO H n) (upd σ n' v') b:=by
 have hne:∀p∈tO H n,upd σ n' v' p.1=σ p.1:=λp hp=>tT (hnin p hp);have hso:uA (Ow C.G H σ) w w':=λb hb ho=>hw b hb λe he hb'=>ho (.inr ⟨(n,e),he,hb'⟩);have hanti:∀b,b<w.heap.size->¬Ow C.G H σ b->¬Ow C.G ((n',e')::tO H n) (upd σ n' v') b:=by
  intro b hb ho ho';rcases ho' with hg|⟨p,hp,hbp⟩;·exact ho (.inl hg)
  ·rcases bv.1 hp with rfl|hp
   ·rw[tQ] at hbp;rcases hblk b hbp with⟨hb1,e,he⟩|hb2;·exact ho (.inr ⟨(n,e),he,hb1⟩)
    ·omega
   ·rw[hne p hp] at hbp;exact ho (.inr ⟨p,(uC.1 hp).1,hbp⟩)
 have hkb:∀p∈tO H n,∀b,Bk (σ p.1) b->∀e,(n,e)∈H->¬Bk (σ n) b:=by intro p hp b hb e he;have hp':=uC.1 hp;exact h.disj p hp'.1 (n,e) he hp'.2 b hb
 have hold:∀p∈tO H n,∀b,Bk (σ p.1) b->w'.heap[b]? =w.heap[b]?:=λp hp b hb=>
  hw b (xC (h.ent p (uC.1 hp).1) b hb) (hkb p hp b hb)
 have hnames:∀p∈tO H n,∀m,p.2.has m=true->upd σ n' v' m=σ m:=by
  intro p hp m hm;by_cases e:m=n'
  ·subst e;rcases hfree m rfl with hv|hf;·rw[tQ,hv]
   ·rw[hf p hp] at hm;cases hm
  ·exact tT e
 refine⟨⟨λp hp=>?_,?_,?_,?_,?_⟩,hso,hanti⟩
 ·rcases bv.1 hp with rfl|hp;·exact hent
  ·have hp':=(uC.1 hp).1;exact A0R (hne p hp) (hnames p hp) (yB hso hanti (hold p hp) (h.ent p hp'))
 ·simp only[dj,dy];refine⟨λhm=>?_,A08 h.nd⟩;obtain⟨p,hp,e⟩:=cj.1 hm;exact hnin p hp e
 ·have key:∀q∈tO H n,∀b,Bk v' b->¬Bk (σ q.1) b:=by
   intro q hq b hb hb';rcases hblk b hb with⟨hb1,e,he⟩|hb2;·exact hkb q hq b hb' e he hb1
   ·have:=xC (h.ent q (uC.1 hq).1) b hb';omega
  intro p hp q hq hpq b hb hb';rcases bv.1 hp with rfl|hp<;>rcases bv.1 hq with rfl|hq;·exact hpq rfl
  ·rw[tQ] at hb;rw[hne q hq] at hb';exact key q hq b hb hb'
  ·rw[tQ] at hb';rw[hne p hp] at hb;exact key p hp b hb' hb
  ·rw[hne p hp] at hb;rw[hne q hq] at hb';exact h.disj p (uC.1 hp).1 q (uC.1 hq).1 hpq b hb hb'
 ·intro p hp b hb;rcases bv.1 hp with rfl|hp
  ·rw[tQ] at hb;rcases hblk b hb with⟨hb1,e,he⟩|hb2;·exact h.mine (n,e) he b hb1
   ·refine⟨λhg=>?_,.inr (fo h.fr.size hb2)⟩;have:=h.fr.gsize b hg;have:=h.fr.size;omega
  ·rw[hne p hp] at hb;exact h.mine p (uC.1 hp).1 b hb
 ·refine⟨hos.trans h.fr.os,ht.trans h.fr.tape,hou.trans h.fr.output,fo h.fr.size hs,λb hb ho=>?_,h.fr.gsize⟩;rw[hw b (na hb h.fr.size) ?_];·exact h.fr.block b hb ho
  ·intro e he hb';rcases (h.mine (n,e) he b hb').2 with h1|h1;·exact ho h1
   ·omega
theorem tM.step (h:tM C σ H w Γ a)
 (hso:uA (Ow C.G H σ) w w') (hanti:∀b,b<w.heap.size->¬Ow C.G H σ b->¬Ow C.G H' σ' b)
 (hn:∀t sv,tJ Γ t=some sv->∀m,sv.has m=true->σ' m=σ m):tM C σ' H' w' Γ a:=
 ⟨λt sv hl=>⟨(h.1 t sv hl).1,A1J (hn t sv hl) (wP hso hanti (h.1 t sv hl).2)⟩,h.2⟩
structure u6 (C:FC) (σ σ':Nat->Value) (H H':tG) (w w':World) (Γ:Env) (a:Act):Prop where
 env:tM C σ' H' w' Γ a
 so:uA (Ow C.G H σ) w w'
 anti:∀b,b<w.heap.size->¬Ow C.G H σ b->¬Ow C.G H' σ' b
theorem u6.refl (h:tM C σ H w Γ a):u6 C σ σ H H w w Γ a:=⟨h,λ_ _ _=>rfl,λ_ _ h=>h⟩
theorem zZ {n:Nat} (hf:tY n Γ H=true):∀t sv,tJ Γ t=some sv->∀m,sv.has m=true->upd σ n v m=σ m:=by intro t sv hl m hm;simp only[tY,bq,cn] at hf;have:=hf.1 _ (tI hl);refine tT λe=>?_;subst e;simp only[hm] at this;cases this
theorem uI {n:Nat} (hf:tY n Γ H=true):∀p∈H,p.1≠n/\p.2.has n=false:=by intro p hp;simp only[tY,bq,cn] at hf;have:=hf.2 p hp;simpa using this
theorem yK {n:Nat} (hf:tY n Γ H=true):tO H n=H:=by unfold tO;rw[ir];intro p hp;simpa using(uI hf p hp).1
def evo (Γ:Env):Operand->Option SV
 |.tmp t=>tJ Γ t
 |.const v=>some (.c (.val v))
 |.func f=>some (.c (.clo f []))
 |.global _=>none
theorem vF (hE:tM C σ H w Γ a):∀{x:Operand} {sv:SV},evo Γ x=some sv->SVr (Ow C.G H σ) w σ sv (a.eval x)
 |.tmp t,sv,h=>(hE.1 t sv h).2
 |.const v,sv,h=>by cases h;rfl
 |.func f,sv,h=>by cases h;rfl
def evc (Γ:Env) (x:Operand):Option CV:=
 match evo Γ x with
 |some (.c v)=>some v
 |_=>none
theorem tX (hE:tM C σ H w Γ a) {x:Operand} {v:CV} (h:evc Γ x=some v):CVr (Ow C.G H σ) w σ v (a.eval x):=by
 unfold evc at h;split at h
 ·rename_i v' he;cases h;exact vF hE he
 ·cases h
def evi (Γ:Env) (x:Operand):Option (IntKind×Int):=
 match evc Γ x with
 |some (.val (.int k n))=>some (k,n)
 |_=>none
theorem vR (hE:tM C σ H w Γ a) {x:Operand} {k:IntKind} {n:Int} (h:evi Γ x=some (k,n)):a.eval x=.int k n:=by
 unfold evi at h;split at h
 ·rename_i k' n' he;cases h;exact tX hE he
 ·cases h
def SV.cells:SV->Option (List CV)
 |.c x=>some [x]
 |.agg l=>some l
 |.tup _=>none
theorem vH {O:Nat->Prop} {w:World} {σ:Nat->Value}:∀{l:List CV} {vs:List Value},CVs O w σ l vs->l.length=vs.length
 |[],[],_=>rfl
 |_::_,_::_,h=>by simp[vH h.2]
 |[],_::_,h=>h.elim
 |_::_,[],h=>h.elim
theorem wT {O:Nat->Prop} {w:World} {σ:Nat->Value}:∀{l m:List CV} {vs us:List Value},CVs O w σ l vs->CVs O w σ m us->CVs O w σ (l++m) (vs++us)
 |[],_,[],_,_,h2=>h2
 |_::_,_,_::_,_,h1,h2=>⟨h1.1,wT h1.2 h2⟩
 |[],_,_::_,_,h,_=>h.elim
 |_::_,_,[],_,h,_=>h.elim
theorem wX {O:Nat->Prop} {w:World} {σ:Nat->Value}:∀{n:Nat} {l:List CV} {vs:List Value},CVs O w σ l vs->CVs O w σ (l.take n) (vs.take n)
 |0,_,_,_=>by simp[CVs]
 |_+1,[],[],_=>trivial
 |_+1,_::_,_::_,h=>⟨h.1,wX h.2⟩
 |_+1,[],_::_,h=>h.elim
 |_+1,_::_,[],h=>h.elim
theorem xH {O:Nat->Prop} {w:World} {σ:Nat->Value}:∀{n:Nat} {l:List CV} {vs:List Value},CVs O w σ l vs->CVs O w σ (l.drop n) (vs.drop n)
 |0,_,_,h=>h
 |_+1,[],[],_=>trivial
 |n+1,_::l,_::vs,h=>by simpa using xH (n:=n) (l:=l) (vs:=vs) h.2
 |_+1,[],_::_,h=>h.elim
 |_+1,_::_,[],h=>h.elim
theorem A2x:∀{s:SV} {v:Value} {l:List CV},s.cells=some l->SVr O w σ s v->
 (∃vs,v=.agg vs.toArray/\CVs O w σ l vs)\/∃x,l=[x]/\CVr O w σ x v
 |.c x,v,l,hc,h=>by cases hc;exact .inr ⟨x,rfl,h⟩
 |.agg _,v,l,hc,h=>by cases hc;exact .inl h
 |.tup _,_,_,hc,_=>by cases hc
def Kd.svs:(k:Kd)->k.ty->List CV
 |.int ik,n=>[.val (.int ik n)]
 |.bool,b=>[.val (.bool b)]
 |.str,s=>[.val (.string s)]
 |.slice e,xs=>[.imm (.slice e) xs]
 |.opt e,x=>[.imm (.opt e) x]
 |.pair a b,x=>a.svs x.1++b.svs x.2
 |.node,t=>[.imm (.slice (.opt .node)) t.kids,.imm (.slice .str) t.items,.val (.int .i64 t.n),.val (.int .i64 t.d),.val (.int .i64 t.s1),.val (.int .i64 t.s2),.val (.int .i64 t.s3),.val (.int .i64 t.s4)]
theorem yR {kids:List (Option tH)} {items:List ByteArray} {n d s1 s2 s3 s4:Int} {cs:List Value} (h:vJ O w f (.mk kids items n d s1 s2 s3 s4) cs) :
 ∃u v,cs=[u,v,.int .i64 n,.int .i64 d,.int .i64 s1,.int .i64 s2,.int .i64 s3,.int .i64 s4]/\(Kd.slice (.opt .node)).R O w kids [u]/\(Kd.slice .str).R O w items [v]:=by
 cases f with
 |zero=>exact h.elim
 | succ f =>
   obtain⟨A,ca,B,cb,rfl,h1,h2,h3,h4⟩:=h;refine⟨_,_,rfl,⟨A,ca,rfl,h1,λi hi=>?_⟩,⟨B,cb,rfl,h2,λi hi=>?_⟩⟩
   ·obtain⟨b,off,v,hA,hb,hc,hk⟩:=h3 i hi;refine⟨b,off,[v],hA,hb,?_,λj hj=>?_⟩
    ·split at hk;·rename_i e;simp only[Kd.R,e];rw[hk]
     ·rename_i t e;obtain⟨b',off',c,hv,hb',hR,hc'⟩:=hk;simp only[Kd.R,e];exact⟨b',off',c,by rw[hv],hb',⟨f,hR⟩,hc'⟩
    ·obtain rfl:j=0:=by simp only[Kd.sz] at hj;omega
     simpa[Kd.sz] using hc
   ·obtain⟨b,off,hB,hb,hc⟩:=h4 i hi;refine⟨b,off,[.string items[i]],hB,hb,rfl,λj hj=>?_⟩;obtain rfl:j=0:=by simp only[Kd.sz] at hj;omega
    simpa[Kd.sz] using hc
theorem A2p {O:Nat->Prop} {w:World}:∀{f:Nat} {t:tH} {cs:List Value},vJ O w f t cs->vJ O w (f+1) t cs
 |0,_,_,h=>h.elim
 | f+1,.mk kids items n d s1 s2 s3 s4,_,h => by
   obtain⟨A,ca,B,cb,rfl,h1,h2,h3,h4⟩:=h;refine⟨A,ca,B,cb,rfl,h1,h2,λi hi=>?_,h4⟩;obtain⟨b,off,v,hA,hb,hc,hk⟩:=h3 i hi;refine⟨b,off,v,hA,hb,hc,?_⟩;split at hk;·exact hk
   ·obtain⟨b',off',c,hv,hb',hR,hc'⟩:=hk;exact⟨b',off',c,hv,hb',A2p hR,hc'⟩
theorem A53 {t:tH} {cs:List Value} {g:Nat} (h:vJ O w f t cs) (hl:f<=g):vJ O w g t cs:=by
 induction hl with
 |refl=>exact h
 |step _ ih=>exact A2p ih
theorem A6Y {kids:List (Option tH)} {items:List ByteArray} {n d s1 s2 s3 s4:Int} (h1:(Kd.slice (.opt .node)).R O w kids [u]) (h2:(Kd.slice .str).R O w items [v]) :
 ∃f,vJ O w f (.mk kids items n d s1 s2 s3 s4) [u,v,.int .i64 n,.int .i64 d,.int .i64 s1,.int .i64 s2,.int .i64 s3,.int .i64 s4]:=by
 obtain⟨A,ca,hu,hla,hA⟩:=h1;obtain⟨B,cb,hv,hlb,hB⟩:=h2;cases hu;cases hv;have key:∀k,k<=kids.length->∃f,∀i (h:i<kids.length),i<k->∃b off v,A=some ⟨b,off,none⟩/\¬O b/\w.cell? ⟨b,off+i,none⟩=some v/\
  match kids[i] with
  |none=>v=.pointer none
  |some t=> ∃b' off' c,v=.pointer (some ⟨b',off',none⟩)/\ ¬O b'/\vJ O w f t c/\ ∀j,j<8->w.cell? ⟨b',off'+j,none⟩=c[j]? :=by
  intro k;induction k with
  |zero=>intro _;exact⟨0,λi _ h=>by omega⟩
  | succ k ih =>
    intro hk;obtain⟨f,hf⟩:=ih (by omega);obtain⟨b,off,c,hAb,hb,hR,hc⟩:=hA k (by omega);have hc0:=hc 0 (by simp[Kd.sz]);simp only[Kd.sz,mf,ee] at hc0;have hnew:∃g,∃b off v,A=some ⟨b,off,none⟩/\¬O b/\w.cell? ⟨b,off+k,none⟩=some v/\
     match kids[k] with
     |none=>v=.pointer none
     |some t=> ∃b' off' c,v=.pointer (some ⟨b',off',none⟩)/\ ¬O b'/\vJ O w g t c/\ ∀j,j<8->w.cell? ⟨b',off'+j,none⟩=c[j]? :=by
     cases e:kids[k] with
     | none =>
       rw[e] at hR;simp only[Kd.R] at hR;subst hR;exact⟨0,b,off,_,hAb,hb,hc0,rfl⟩
     | some t =>
       rw[e] at hR;simp only[Kd.R] at hR;obtain⟨b',off',c',rfl,hb',⟨g,hg⟩,hc'⟩:=hR;exact⟨g,b,off,_,hAb,hb,hc0,b',off',c',rfl,hb',hg,hc'⟩
    obtain⟨g,hg⟩:=hnew;refine⟨max f g,λi hi hik=>?_⟩;have lift:∀(g':Nat),g'<=max f g->(∃b off v,A=some ⟨b,off,none⟩/\¬O b/\w.cell? ⟨b,off+i,none⟩=some v/\
     match kids[i] with
     |none=>v=.pointer none
     |some t=> ∃b' off' c,v=.pointer (some ⟨b',off',none⟩)/\ ¬O b'/\vJ O w g' t c/\ ∀j,j<8->w.cell? ⟨b',off'+j,none⟩=c[j]?)-> ∃b off v,A=some ⟨b,off,none⟩/\ ¬O b/\w.cell? ⟨b,off+i,none⟩=some v /\
     match kids[i] with
     |none=>v=.pointer none
     |some t=> ∃b' off' c,v=.pointer (some ⟨b',off',none⟩)/\ ¬O b'/\vJ O w (max f g) t c/\ ∀j,j<8->w.cell? ⟨b',off'+j,none⟩=c[j]? :=by
     rintro g' hle ⟨b,off,v,e1,e2,e3,hk⟩;refine⟨b,off,v,e1,e2,e3,?_⟩;split at hk;·exact hk
     ·obtain⟨b',off',c,hv,hb',hR,hc'⟩:=hk;exact⟨b',off',c,hv,hb',A53 hR hle,hc'⟩
    by_cases hik':i<k;·exact lift f (Nat.le_max_left _ _) (hf i hi hik')
    ·obtain rfl:i=k:=by omega
     exact lift g (Nat.le_max_right _ _) hg
 obtain⟨f,hf⟩:=key kids.length (bp _);refine⟨f+1,A,ca,B,cb,rfl,hla,hlb,λi hi=>hf i hi hi,λi hi=>?_⟩;obtain⟨b,off,c,hBb,hb,hR,hc⟩:=hB i hi;have hc0:=hc 0 (by simp[Kd.sz]);simp only[Kd.R] at hR;subst hR;exact⟨b,off,hBb,hb,by simpa[Kd.sz] using hc0⟩
theorem wL {O:Nat->Prop} {w:World} {σ:Nat->Value}:∀{k:Kd} {x:k.ty} {cs:List Value},k.R O w x cs->CVs O w σ (k.svs x) cs
 |.int _,_,_,h=>by subst h;exact⟨rfl,trivial⟩
 |.bool,_,_,h=>by subst h;exact⟨rfl,trivial⟩
 |.str,_,_,h=>by subst h;exact⟨rfl,trivial⟩
 | .slice e,xs,cs,h => by have h':=h;obtain⟨A,cap,rfl,_⟩:=h';exact⟨h,trivial⟩
 | .opt e,none,cs,h => by have h':=h;simp only[Kd.R] at h';subst h';exact⟨h,trivial⟩
 | .opt e,some y,cs,h => by have h':=h;simp only[Kd.R] at h';obtain⟨b,off,c,rfl,_⟩:=h';exact⟨h,trivial⟩
 | .pair a b,x,cs,h => by obtain⟨c1,c2,rfl,h1,h2⟩:=h;exact wT (wL h1) (wL h2)
 | .node,.mk ..,cs,h => by obtain⟨f,h⟩:=h;obtain⟨u,v,rfl,h1,h2⟩:=yR h;exact⟨h1,h2,rfl,rfl,rfl,rfl,rfl,rfl,trivial⟩
def wQ (k k':Kd) (x:k.ty):Option k'.ty:=if h:k=k' then some (h▸x) else none
theorem xM {k':Kd} {x:k.ty} {y:k'.ty} (h:wQ k k' x=some y):∃e:k=k',e▸x=y:=by
 unfold wQ at h;split at h
 ·rename_i e;exact⟨e,by simpa using h⟩
 ·cases h
def A4M (ik:IntKind):List CV->Option (Int×List CV)
 |.val (.int ik' n)::r=>if ik=ik' then some (n,r) else none
 |_=>none
def A4L:List CV->Option (Bool×List CV)
 |.val (.bool b)::r=>some (b,r)
 |_=>none
def A4P:List CV->Option (ByteArray×List CV)
 |.val (.string s)::r=>some (s,r)
 |_=>none
def A0C (e:Kd):List CV->Option (List e.ty×List CV)
 |.val (.slice none 0 0)::r=>some ([],r)
 |.zc::r=>some ([],r)
 |.imm k x::r=>(wQ k (.slice e) x).map λy=>(y,r)
 |_=>none
def A4O (e:Kd):List CV->Option (Option e.ty×List CV)
 |.val (.pointer none)::r=>some (none,r)
 |.imm k x::r=>(wQ k (.opt e) x).map λy=>(y,r)
 |.ielt k x::r=>(wQ k e x).map λy=>(some y,r)
 |_=>none
def A4N (l:List CV):Option (tH×List CV):=
 match A0C (.opt .node) l with
 |some (kids,r)=>match A0C .str r with
  |some (items,.val (.int .i64 n)::.val (.int .i64 d)::.val (.int .i64 s1)::.val (.int .i64 s2)::.val (.int .i64 s3)::.val (.int .i64 s4)::r')=>some (.mk kids items n d s1 s2 s3 s4,r')
  |_=>none
 |none=>none
def Kd.rdl:(k:Kd)->List CV->Option (k.ty×List CV)
 |.int ik,l=>A4M ik l
 |.bool,l=>A4L l
 |.str,l=>A4P l
 |.slice e,l=>A0C e l
 |.opt e,l=>A4O e l
 |.node,l=>A4N l
 |.pair a b,l=>match a.rdl l with
  |some (x,r)=>match b.rdl r with
   |some (y,r')=>some ((x,y),r')
   |none=>none
  |none=>none
theorem uM {s:CV} {l:List CV} (h:CVs O w σ (s::l) vs):∃v us,vs=v::us/\CVr O w σ s v/\CVs O w σ l us:=by
 cases vs with
 |nil=>exact h.elim
 |cons v us=>exact⟨v,us,rfl,h.1,h.2⟩
theorem A2D {e:Kd} {l:List CV} {x:List e.ty} {r:List CV} (h:A0C e l=some (x,r)) (hc:CVs O w σ l vs) :
 ∃v us,vs=v::us/\(Kd.slice e).R O w x [v]/\CVs O w σ r us:=by
 unfold A0C at h;split at h
 ·cases h;obtain⟨v,us,rfl,hv,hu⟩:=uM hc;exact⟨v,us,rfl,by rw[hv];exact⟨none,0,rfl,bp _,λi hi=>absurd hi (by simp)⟩,hu⟩
 ·cases h;obtain⟨v,us,rfl,⟨A,hv⟩,hu⟩:=uM hc;exact⟨v,us,rfl,by rw[hv];exact⟨A,0,rfl,bp _,λi hi=>absurd hi (by simp)⟩,hu⟩
 ·simp only[bf] at h;obtain⟨y,hy,e⟩:=h;cases e;obtain⟨rfl,rfl⟩:=xM hy;obtain⟨v,us,rfl,hv,hu⟩:=uM hc;exact⟨v,us,rfl,hv,hu⟩
 ·cases h
theorem A0s {O:Nat->Prop} {w:World} {σ:Nat->Value}:∀{k:Kd} {l:List CV} {x:k.ty} {r:List CV} {vs:List Value},k.rdl l=some (x,r)->CVs O w σ l vs->
 ∃c1 c2,vs=c1++c2/\k.R O w x c1/\CVs O w σ r c2
 | .int ik,l,x,r,vs,h,hc => by
   simp only[Kd.rdl] at h;unfold A4M at h;split at h
   ·split at h
    ·rename_i e;cases h;subst e;obtain⟨v,us,rfl,hv,hu⟩:=uM hc;exact⟨[v],us,rfl,by rw[hv];rfl,hu⟩
    ·cases h
   ·cases h
 | .bool,l,x,r,vs,h,hc => by
   simp only[Kd.rdl] at h;unfold A4L at h;split at h
   ·cases h;obtain⟨v,us,rfl,hv,hu⟩:=uM hc;exact⟨[v],us,rfl,by rw[hv];rfl,hu⟩
   ·cases h
 | .str,l,x,r,vs,h,hc => by
   simp only[Kd.rdl] at h;unfold A4P at h;split at h
   ·cases h;obtain⟨v,us,rfl,hv,hu⟩:=uM hc;exact⟨[v],us,rfl,by rw[hv];rfl,hu⟩
   ·cases h
 | .slice e,l,x,r,vs,h,hc => by obtain⟨v,us,rfl,h1,h2⟩:=A2D h hc;exact⟨[v],us,rfl,h1,h2⟩
 | .node,l,x,r,vs,h,hc => by
   simp only[Kd.rdl] at h;unfold A4N at h;split at h
   ·rename_i kids r1 h1;split at h
    ·rename_i items n d s1 s2 s3 s4 r2 h2;cases h;obtain⟨u,us,rfl,hR1,hc1⟩:=A2D h1 hc;obtain⟨v,us',rfl,hR2,hc2⟩:=A2D h2 hc1;obtain⟨x1,us1,rfl,rfl,hc3⟩:=uM hc2;obtain⟨x2,us2,rfl,rfl,hc4⟩:=uM hc3;obtain⟨x3,us3,rfl,rfl,hc5⟩:=uM hc4;obtain⟨x4,us4,rfl,rfl,hc6⟩:=uM hc5;obtain⟨x5,us5,rfl,rfl,hc7⟩:=uM hc6;obtain⟨x6,us6,rfl,rfl,hc8⟩:=uM hc7;exact⟨[_,_,_,_,_,_,_,_],us6,rfl,A6Y hR1 hR2,hc8⟩
    ·cases h
   ·cases h
 | .opt e,l,x,r,vs,h,hc => by
   simp only[Kd.rdl] at h;unfold A4O at h;split at h
   ·cases h;obtain⟨v,us,rfl,hv,hu⟩:=uM hc;exact⟨[v],us,rfl,by rw[hv];rfl,hu⟩
   ·simp only[bf] at h;obtain⟨y,hy,e⟩:=h;cases e;obtain⟨rfl,rfl⟩:=xM hy;obtain⟨v,us,rfl,hv,hu⟩:=uM hc;exact⟨[v],us,rfl,hv,hu⟩
   ·simp only[bf] at h;obtain⟨y,hy,e⟩:=h;cases e;obtain⟨rfl,rfl⟩:=xM hy;obtain⟨v,us,rfl,hv,hu⟩:=uM hc;obtain⟨b,off,c,rfl,hb,hR,hcell⟩:=hv;exact⟨[_],us,rfl,⟨b,off,c,rfl,hb,hR,hcell⟩,hu⟩
   ·cases h
 | .pair a b,l,x,r,vs,h,hc => by
   simp only[Kd.rdl] at h;split at h
   ·rename_i x1 r1 h1;split at h
    ·rename_i x2 r2 h2;cases h;obtain⟨c1,c2,rfl,hR1,hc2⟩:=A0s h1 hc;obtain⟨c3,c4,rfl,hR2,hc4⟩:=A0s h2 hc2;exact⟨c1++c3,c4,by simp,⟨c1,c3,rfl,hR1,hR2⟩,hc4⟩
    ·cases h
   ·cases h
def Kd.rd (k:Kd) (l:List CV):Option k.ty:=
 match k.rdl l with
 |some (x,[])=>some x
 |_=>none
theorem xU {l:List CV} {x:k.ty} (h:k.rd l=some x) (hc:CVs O w σ l vs):k.R O w x vs:=by
 unfold Kd.rd at h;split at h
 ·rename_i y hr;cases h;obtain⟨c1,c2,rfl,hR,h2⟩:=A0s hr hc;cases c2 with
  |nil=>simpa using hR
  |cons _ _=>exact h2.elim
 ·cases h
def CV.one:CV->Bool
 |.val v=>v.oneCell'
 |_=>true
theorem zD {O:Nat->Prop} {w:World}:∀{k:Kd} {x:k.ty} {cs:List Value},k.R O w x cs->∀v∈cs,v.oneCell'=true
 |.int _,_,_,h=>by subst h;simp[lg]
 |.bool,_,_,h=>by subst h;simp[lg]
 |.str,_,_,h=>by subst h;simp[lg]
 |.slice _,_,_,h=>by obtain⟨_,_,rfl,_⟩:=h;simp[lg]
 |.opt _,none,_,h=>by simp only[Kd.R] at h;subst h;simp[lg]
 |.opt _,some _,_,h=>by simp only[Kd.R] at h;obtain⟨_,_,_,rfl,_⟩:=h;simp[lg]
 | .pair _ _,_,_,h => by
   obtain⟨c1,c2,rfl,h1,h2⟩:=h;intro v hv;rcases cf.1 hv with hv|hv;·exact zD h1 v hv
   ·exact zD h2 v hv
 | .node,.mk ..,_,h => by
   obtain⟨f,h⟩:=h;cases f with
   |zero=>exact h.elim
   |succ f=>obtain⟨_,_,_,_,rfl,_⟩:=h;simp[lg]
theorem A3X {n:Nat}:∀{e:Ent},uB O w σ n e->(hd (σ n)).oneCell'=true
 |.box _,h=>by obtain⟨_,_,_,hs,_⟩:=h;rw[hs.hd];rfl
 |.row _ _,h=>by obtain⟨_,_,hs,_⟩:=h;rw[hs];rfl
 |.it _ _ _,h=>by obtain⟨_,hs,_⟩:=h;rw[hs];rfl
 |.map _,h=>by obtain⟨_,hs,_⟩:=h;rw[hs];rfl
 |.lit _,h=>by obtain⟨_,_,_,hs,_⟩:=h;rw[hs];rfl
 |.sets _ _,h=>by obtain⟨_,_,_,hs,_⟩:=h;rw[hs];rfl
 |.arow _ _,h=>by obtain⟨_,_,_,hs,_⟩:=h;rw[hs];rfl
 |.aown _,h=>by obtain⟨_,_,_,hs,_⟩:=h;rw[hs];rfl
 |.apend _ _ _,h=>by obtain⟨⟨_,_,_,hs,_⟩,_⟩:=h;rw[hs];rfl
 |.brow _ _,h=>by obtain⟨⟨_,_,hs,_⟩,_⟩:=h;rw[hs];rfl
 |.mit _ _,h=>by obtain⟨_,_,_,_,_,hs,_⟩:=h;rw[hs];rfl
 |.abox _ _ _ _,h=>by obtain⟨_,_,_,_,hs,_⟩:=h;rw[hs.hd];rfl
theorem A3r {p:Option Addr} (h:v=.pointer p):hd v=.pointer p:=by rw[h];rfl
theorem xT {l c:Nat} (h:v=.slice A l c):hd v=.slice A l c:=by rw[h];rfl
theorem v8 {xs:List k.ty} (h:tV O w k xs v):hd v=v:=by obtain⟨_,_,rfl,_⟩:=h;rfl
theorem A2G {xs:List k.ty} (h:tV O w k xs v):tV O w k xs (hd v):=by rw[v8 h];exact h
theorem vT {n:Nat} {l c:Nat}:CVr O w (upd σ n (.slice A l c)) (.h n) (.slice A l c):=by simp[CVr,tQ,hd]
theorem A1B {n:Nat} {p:Option Addr}:CVr O w (upd σ n (.pointer p)) (.h n) (.pointer p):=by simp[CVr,tQ,hd]
def vE (P:Program) (t:TypeId):Option Bool:=
 match P.underlying t with
 |some (.struct _)|some (.array _ _)=>some true
 |some _=>some false
 |none=>none
def u7 (P:Program) (t:TypeId):Option Nat:=(P.info? t).map (·.size)
theorem vY {b:Bool} (h:vE P t=some b) (w:World):(isAgg t).run P w=.ok b w:=by
 unfold vE at h;unfold isAgg;split at h;·rename_i fs hu;cases h;simp[run_underlying hu]
 ·rename_i n e hu;cases h;simp[run_underlying hu]
 ·rename_i d h1 h2 hu;cases h;rw[fp,run_underlying hu w];cases d<;>first
   |rfl
   |(exact(h1 _ rfl).elim)
   |(exact(h2 _ _ rfl).elim)
 ·cases h
theorem uK {n:Nat} (h:u7 P t=some n) (w:World):(sizeOf t).run P w=.ok n w:=by
 unfold u7 at h;cases hq:P.info? t with
 |none=>simp[hq] at h
 |some i=>simp[hq] at h;simp[sizeOf,typeInfo,hq,h]
def A0e (H:tG) (p:CV) (n:Nat):Option (List CV):=
 match p with
 |.h m=>match tJ H m with
  |some (.box cs)=>if n<=cs.length then some (cs.take n) else none
  |_=>none
 |.cell m o=>match tJ H m with
  |some (.box cs)=>if o+n<=cs.length then some ((cs.drop o).take n) else none
  |_=>none
 |.elt m sz i o=>match tJ H m with
  |some (.row k xs)=>if sz=k.sz/\o+n<=k.sz then some (((k.svs (xs.getD i k.dflt)).drop o).take n) else none
  |_=>none
 |.ielt k x=>if n<=k.sz then some ((k.svs x).take n) else none
 |_=>none
theorem A3L {cs:List CV} (h:uB O w σ m (.box cs)) {n:Nat} (hn:o+n<=cs.length) :
 ∃b vs,hd (σ m)=.pointer (some ⟨b,0,none⟩)/\CVs O w σ ((cs.drop o).take n) vs/\vs.length=n/\∀j,j<n->w.cell? ⟨b,o+j,none⟩=vs[j]?:=by
 obtain⟨b,c,e,hs,hh,hc⟩:=h;refine⟨b,(c.toList.drop o).take n,hs.hd,wX (xH hc),?_,λj hj=>?_⟩
 ·have:=vH hc;simp only[co,cq];omega
 ·rw[cell_of_row w b (o+j) c e (0,0) hh,gv,if_pos hj,ft];simp
theorem A4S {xs:List k.ty} (h:tV O w k xs v) (hv:v=.slice (some ⟨b,off,none⟩) len cap) {i:Nat} (hi:i<len) :
 ∃c e cs,∃hx:i<xs.length,w.heap[b]? =some (.cells c e (0,0))/\off+cap*k.sz<=c.size/\xs.length<=cap/\len=xs.length/\k.R O w (xs[i]'hx) cs/\∀j,j<k.sz->c[off+i*k.sz+j]? =cs[j]?:=by
 obtain⟨A,cap',e',h⟩:=h;rw[hv] at e';injection e' with e1 e2 e3;rcases h with⟨rfl,rfl⟩|⟨hp,hl,b',off',c,e,rfl,hh,hs,hr⟩;·simp at e2;omega
 ·injection e1 with e1;injection e1 with e4 e5 _;subst e4 e5 e3;obtain⟨cs,hR,hc⟩:=hr i (by omega);exact⟨c,e,cs,by omega,hh,hs,hl,e2,hR,hc⟩
theorem A3N (h:tK C σ H w) {n:Nat} {l:List CV} (hp:CVr (Ow C.G H σ) w σ p v) (hc:A0e H p n=some l) :
 ∃b off vs,v=.pointer (some ⟨b,off,none⟩)/\CVs (Ow C.G H σ) w σ l vs/\vs.length=n/\∀j,j<n->w.cell? ⟨b,off+j,none⟩=vs[j]?:=by
 unfold A0e at hc;split at hc
 ·rename_i m;split at hc
  ·rename_i cs hl;split at hc
   ·rename_i hn;cases hc;obtain⟨b,vs,hs,hcv,hlen,hcell⟩:=A3L (h.ent _ (tI hl)) (o:=0) (n:=n) (by omega);simp only[CVr] at hp;exact⟨b,0,vs,hp.trans hs,by simpa using hcv,hlen,by simpa using hcell⟩
   ·cases hc
  ·cases hc
 ·rename_i m o;split at hc
  ·rename_i cs hl;split at hc
   ·rename_i hn;cases hc;obtain⟨b,vs,hs,hcv,hlen,hcell⟩:=A3L (h.ent _ (tI hl)) (o:=o) (n:=n) (by omega);simp only[CVr] at hp;obtain⟨b',hs',rfl⟩:=hp;have hs2:hd (σ m)=.pointer (some ⟨b,0,none⟩):=hs;rw[hs2] at hs';injection hs' with hs';injection hs' with hs';injection hs' with hs' _ _;subst hs';exact⟨b,o,vs,rfl,hcv,hlen,hcell⟩
   ·cases hc
  ·cases hc
 ·rename_i m sz i o;split at hc
  ·rename_i k xs hl;split at hc
   ·rename_i hn;obtain⟨rfl,hn⟩:=hn;cases hc;simp only[CVr] at hp;obtain⟨b,off,len,cap,hs,hi,rfl⟩:=hp;obtain⟨c,e,cs,hx,hh,_,_,_,hR,hcell⟩:=A4S (h.ent _ (tI hl)) ((v8 (h.ent _ (tI hl))).symm.trans hs) hi;refine⟨b,off+i*k.sz+o,(cs.drop o).take n,rfl,?_,?_,λj hj=>?_⟩
    ·have e1:xs.getD i k.dflt=xs[i]:=by simp[bb,bj hx]
     rw[e1];exact wX (xH (wL hR))
    ·have:=v7 hR;simp only[co,cq];omega
    ·rw[cell_of_row w b _ c e (0,0) hh,gv,if_pos hj,ft,<-hcell (o+j) (by omega)];congr 1;omega
   ·cases hc
  ·cases hc
 ·rename_i k x;split at hc
  ·rename_i hn;cases hc;simp only[CVr] at hp;obtain⟨b,off,c,rfl,hb,hR,hcell⟩:=hp;refine⟨b,off,c.take n,rfl,wX (wL hR),?_,λj hj=>?_⟩
   ·have:=v7 hR;simp only[co];omega
   ·rw[hcell j (by omega),gv,if_pos hj]
  ·cases hc
 ·cases hc
def A12 (P:Program) (H:tG) (t:TypeId) (p:CV):Option SV:=
 match vE P t,u7 P t with
 |some true,some n=>(A0e H p n).map SV.agg
 |some false,_=>match A0e H p 1 with
  |some [x]=>some (.c x)
  |_=>none
 |_,_=>none
theorem A4X (h:tK C σ H w) (hp:CVr (Ow C.G H σ) w σ p v) (hs:A12 P H t p=some sv) :
 ∃b off u,v=.pointer (some ⟨b,off,none⟩)/\(loadVar t ⟨b,off,none⟩).run P w=.ok u w/\SVr (Ow C.G H σ) w σ sv u:=by
 unfold A12 at hs;split at hs
 ·rename_i n ha hz;simp only[bf] at hs;obtain⟨l,hl,rfl⟩:=hs;obtain⟨b,off,vs,rfl,hcv,hlen,hcell⟩:=A3N h hp hl;refine⟨b,off,.agg vs.toArray,rfl,?_,⟨vs,rfl,hcv⟩⟩;have hload:=run_loadCells_list (P:=P) w ⟨b,off,none⟩ vs (λj u hu=>by
   have hj:j<vs.length:=by
    rcases gw j vs.length with h'|h';·exact h'
    ·rw[li h'] at hu;cases hu
   rw[im,hcell j (by omega),hu])
  rw[hlen] at hload;simp[loadVar,vY ha,uK hz,hload]
 ·rename_i ha;split at hs
  ·rename_i x hl;cases hs;obtain⟨b,off,vs,rfl,hcv,hlen,hcell⟩:=A3N h hp hl;obtain⟨u,us,rfl,hu,hus⟩:=uM hcv;refine⟨b,off,u,rfl,?_,hu⟩;have h0:=hcell 0 (by omega);simp at h0;simp[loadVar,vY ha,h0]
  ·cases hs
 ·cases hs
def CV.oneIn (H:tG):CV->Bool
 |.val v=>v.oneCell'
 |.h n=>(tJ H n).isSome
 |.elm _ _=>false
 |_=>true
theorem A0p (h:tK C σ H w):∀{s:CV} {v:Value},s.oneIn H=true->CVr (Ow C.G H σ) w σ s v->v.oneCell'=true
 |.val _,_,ho,hv=>by cases hv;exact ho
 |.imm _ _,_,_,hv=>zD hv _ (by simp)
 | .h n,_,ho,hv => by
   simp only[CV.oneIn] at ho;cases hl:tJ H n with
   |none=>rw[hl] at ho;cases ho
   |some e=>cases hv;exact A3X (h.ent _ (tI hl))
 |.cell _ _,_,_,hv=>by obtain⟨_,_,rfl⟩:=hv;rfl
 |.elt _ _ _ _,_,_,hv=>by obtain⟨_,_,_,_,_,_,rfl⟩:=hv;rfl
 |.ielt _ _,_,_,hv=>by obtain⟨_,_,_,rfl,_⟩:=hv;rfl
 |.sub _ _ _ _,_,_,hv=>by obtain⟨_,_,_,_,_,_,rfl,_⟩:=hv;rfl
 |.clo _ _,_,_,hv=>by cases hv;rfl
 |.zc,_,_,hv=>by obtain⟨_,rfl⟩:=hv;rfl
 |.slf _ _,_,_,hv=>by obtain⟨_,_,rfl|rfl⟩:=hv<;>rfl
 |.elm _ _,_,ho,_=>by cases ho
theorem A1D {C:FC} {σ:Nat->Value} {H:tG} {w:World} (h:tK C σ H w):∀{l:List CV} {vs:List Value},l.all (CV.oneIn H)=true->CVs (Ow C.G H σ) w σ l vs->∀v∈vs,v.oneCell'=true
 |[],[],_,_=>by simp
 | s :: l,u :: us,ho,hv => by
   simp only[kj,bq] at ho;intro v hm;rcases bv.1 hm with rfl|hm;·exact A0p h ho.1 hv.1
   ·exact A1D h ho.2 hv.2 v hm
 |[],_::_,_,h=>h.elim
 |_::_,[],_,h=>h.elim
def A2B (H:tG) (p:CV) (l:List CV):Option tG:=
 match p with
 |.h m=>match tJ H m with
  |some (.box cs)=>if l.length<=cs.length then some ((m,.box (l++cs.drop l.length))::tO H m) else none
  |_=>none
 |.cell m o=>match tJ H m with
  |some (.box cs)=>if o+l.length<=cs.length then some ((m,.box (cs.take o++(l++cs.drop (o+l.length))))::tO H m) else none
  |_=>none
 |.elt m sz i o=>match tJ H m with
  |some (.row k xs)=>if sz=k.sz/\o+l.length<=k.sz then
   match k.rd ((k.svs (xs.getD i k.dflt)).take o++(l++(k.svs (xs.getD i k.dflt)).drop (o+l.length))) with
   |some y=>some ((m,.row k (xs.set i y))::tO H m)
   |none=>none
   else none
  |_=>none
 |_=>none
theorem z7 (h:tK C σ H w) (hE:tM C σ H w Γ a) {e:Ent} (hm:tJ H m=some e) (hb:Bk (σ m) b)
 {c':Array Value} (hent:uB (Ow C.G H σ) (w.setRow b c') σ m e') :
 tK C σ ((m,e')::tO H m) (w.setRow b c')/\u6 C σ σ H ((m,e')::tO H m) w (w.setRow b c') Γ a/\
 (∀q,Ow C.G ((m,e')::tO H m) σ q↔Ow C.G H σ q):=by
 have hin:=tI hm;have hmem:∀e2,(m,e2)∈H->e2=e:=λe2 h2=>by have:=A4D h.nd h2;rw[hm] at this;cases this;rfl
 have how:∀q,Ow C.G ((m,e')::tO H m) σ q↔Ow C.G H σ q:=by
  intro q;constructor
  ·rintro (hg|⟨p,hp,hq⟩);·exact .inl hg
   ·rcases bv.1 hp with rfl|hp;·exact .inr ⟨(m,e),hin,hq⟩
    ·exact .inr ⟨p,(uC.1 hp).1,hq⟩
  ·rintro (hg|⟨p,hp,hq⟩);·exact .inl hg
   ·by_cases hpm:p.1=m;·exact .inr ⟨(m,e'),de,by simpa[hpm] using hq⟩
    ·exact .inr ⟨p,cg _ (uC.2 ⟨hp,hpm⟩),hq⟩
 have hent':uB (Ow C.G ((m,e')::tO H m) (upd σ m (σ m))) (w.setRow b c') (upd σ m (σ m)) m e':=by rw[z8,show Ow C.G ((m,e')::tO H m) σ=Ow C.G H σ from funext λq=>propext (how q)];exact hent
 have hs:(w.setRow b c').heap.size=w.heap.size:=by simp[mg]
 have hst:=y5 (w':=w.setRow b c') h m m e' (σ m) (λ_ _=>.inl rfl) (λp hp=>(uC.1 hp).2)
  (λq _ hq=>setRow_other w b q c' (λe1=>hq e hin (by rw[e1];exact hb))) (by omega) rfl rfl rfl (λq hq=>.inl ⟨hq,e,hin⟩) hent'
 rw[z8] at hst;exact⟨hst.1,⟨hE.step hst.2.1 hst.2.2 (λ_ _ _ _ _=>rfl),hst.2.1,hst.2.2⟩,how⟩
theorem yU {c':Array Value} (hb:O b):uA O w (w.setRow b c'):=λq _ hq=>setRow_other w b q c' (λe=>hq (e▸hb))
theorem vQ (l v:List α) (o j:Nat) (ho:o<=l.length) :
 (l.take o++(v++l.drop (o+v.length)))[j]? =if j<o then l[j]? else if j<o+v.length then v[j-o]? else l[j]?:=by
 by_cases h1:j<o;·rw[if_pos h1,dk (by simp;omega),gv,if_pos h1]
 ·rw[if_neg h1,dd (by simp;omega)];simp only[co,oa ho];by_cases h2:j<o+v.length;·rw[if_pos h2,dk (by omega)]
  ·rw[if_neg h2,dd (by omega),ft];congr 1;omega
theorem A3M (h:tK C σ H w) (hE:tM C σ H w Γ a) {cs l:List CV} (hm:tJ H m=some (.box cs))
 (hn:o+l.length<=cs.length) (hl:CVs (Ow C.G H σ) w σ l vs) (h1:∀v∈vs,v.oneCell'=true) :
 ∃ b w',hd (σ m)=.pointer (some ⟨b,0,none⟩)∧(storeCells ⟨b,o,none⟩ vs).run P w=.ok () w'∧
   tK C σ ((m,.box (cs.take o++(l++cs.drop (o+l.length))))::tO H m) w'/\u6 C σ σ H ((m,.box (cs.take o++(l++cs.drop (o+l.length))))::tO H m) w w' Γ a:=by
 obtain⟨b,c,e,hs,hh,hc⟩:=h.ent _ (tI hm);have hlc:=vH hc;have hll:=vH hl;have hst:=run_storeCells_at P b o e vs 0 c w hh (by simp at hlc;omega) h1;simp only[ee] at hst;have hs':uU (σ m) b e:=hs;have hO:Ow C.G H σ b:=.inr ⟨_,tI hm,hs'.own⟩;have:=z7 h hE hm (b:=b) hs'.own (e':=.box (cs.take o++(l++cs.drop (o+l.length)))) (c':=(c.toList.take o++vs++c.toList.drop (o+vs.length)).toArray)
  ⟨b,_,e,hs',setRow_heap w b c _ e _ hh,by simp only[gd];refine wH (yU hO) (λ_ _ h=>h) (wT (wX hc) (wT hl ?_));rw[hll];exact xH hc⟩
 exact⟨b,_,hs'.hd,hst,this.1,this.2.1⟩
theorem A6j (h:tK C σ H w) (hE:tM C σ H w Γ a) {i:Nat} {xs:List k.ty} {l:List CV} (hm:tJ H m=some (.row k xs))
 (hn:o+l.length<=k.sz) {y:k.ty} (hy:k.rd ((k.svs (xs.getD i k.dflt)).take o++(l++(k.svs (xs.getD i k.dflt)).drop (o+l.length)))=some y)
 (hv:σ m=.slice (some ⟨b,off,none⟩) len cap) (hi:i<len) (hl:CVs (Ow C.G H σ) w σ l vs) (h1:∀v∈vs,v.oneCell'=true) :
 ∃ w',(storeCells ⟨b,off+i * k.sz+o,none⟩ vs).run P w=.ok () w'∧
   tK C σ ((m,.row k (xs.set i y))::tO H m) w'/\u6 C σ σ H ((m,.row k (xs.set i y))::tO H m) w w' Γ a:=by
 have hent:tV (Ow C.G H σ) w k xs (σ m):=h.ent _ (tI hm);obtain⟨c,e,cs,hx,hh,hsz,hcapl,hlen,hR,hcell⟩:=A4S hent hv hi;have hll:=vH hl;have hRl:=v7 hR;have hmul:(i+1)*k.sz<=cap*k.sz:=dl _ (by omega);rw[ey,mz] at hmul;have hst:=run_storeCells_at P b (off+i*k.sz+o) e vs 0 c w hh (by omega) h1;simp only[ee] at hst;have hblk:Bk (σ m) b:=by rw[hv];simp only[Bk,blk];rw[if_neg (by omega)]
 have hO:Ow C.G H σ b:=.inr ⟨_,tI hm,hblk⟩;have e1:xs.getD i k.dflt=xs[i]:=by simp[bb,bj hx]
 rw[e1] at hy;have hsv:=wL (σ:=σ) hR;have hRy:k.R (Ow C.G H σ) w y (cs.take o++(vs++cs.drop (o+l.length))):=xU hy (wT (wX hsv) (wT hl (xH hsv)));refine⟨_,hst,?_⟩;have hsto:=yU (w:=w) (c':=(c.toList.take (off+i*k.sz+o)++vs++c.toList.drop (off+i*k.sz+o+vs.length)).toArray) hO;have hnew:uB (Ow C.G H σ) (w.setRow b (c.toList.take (off+i*k.sz+o)++vs++c.toList.drop (off+i*k.sz+o+vs.length)).toArray) σ m (.row k (xs.set i y)):=by
  obtain⟨A,cap',hv',hr⟩:=hent;rw[hv] at hv';injection hv' with hA hle hcp;subst hcp;rcases hr with⟨rfl,rfl⟩|⟨hp,hl',b',off',c',e',rfl,hh',hs',hr⟩;·simp at hle;omega
  ·injection hA with hA;injection hA with e4 e5 _;subst e4 e5;rw[hh] at hh';injection hh' with hh';injection hh' with hc' he' _;subst hc' he';refine⟨_,cap,by rw[hv,hle];simp,.inr ⟨hp,by simpa using hl',b,off,_,e,rfl,setRow_heap w b c _ e _ hh,?_,?_⟩⟩
   ·simp only[ge,cy,co,cq,ep];omega
   ·intro i2 hi2;simp only[List.length_set] at hi2;by_cases he:i2=i
    ·subst he;refine⟨_,uX hsto (λ_ _ h=>h) (by simpa using hRy),λj hj=>?_⟩;have hcj:=hcell j hj;rw[fh,gd,vQ _ _ _ _ (by simp;omega)];rw[hll,vQ _ _ _ _ (by omega)];by_cases hj1:j<o
     ·rw[if_pos (by omega),if_pos hj1,<-hcj];simp
     ·rw[if_neg (by omega),if_neg hj1];by_cases hj2:j<o+vs.length
      ·rw[if_pos (by omega),if_pos hj2];congr 1;omega
      ·rw[if_neg (by omega),if_neg hj2,<-hcj];simp
    ·obtain⟨cs2,hR2,hcell2⟩:=hr i2 hi2;refine⟨cs2,uX hsto (λ_ _ h=>h) (by simpa[Ne.symm he] using hR2),λj hj=>?_⟩;rw[<-hcell2 j hj];rw[fh,gd,vQ _ _ _ _ (by simp;omega)];rcases Nat.lt_or_gt_of_ne he with hlt|hgt
     ·have hm2:(i2+1)*k.sz<=i*k.sz:=dl _ (by omega);rw[ey,mz] at hm2;rw[if_pos (by omega)];simp
     ·have hm2:(i+1)*k.sz<=i2*k.sz:=dl _ (by omega);rw[ey,mz] at hm2;rw[if_neg (by omega),if_neg (by omega)];simp
 have:=z7 h hE hm hblk hnew;exact⟨this.1,this.2.1⟩
theorem A6o (h:tK C σ H w) (hE:tM C σ H w Γ a) {l:List CV}
 (hp:CVr (Ow C.G H σ) w σ p v) (hl:CVs (Ow C.G H σ) w σ l vs) (h1:∀v∈vs,v.oneCell'=true) (hput:A2B H p l=some H') :
 ∃b off w',v=.pointer (some ⟨b,off,none⟩)/\(storeCells ⟨b,off,none⟩ vs).run P w=.ok () w'/\tK C σ H' w'/\u6 C σ σ H H' w w' Γ a:=by
 unfold A2B at hput;split at hput
 ·rename_i m;split at hput
  ·rename_i cs hm;split at hput
   ·rename_i hn;cases hput;obtain⟨b,w',hs,hst,h1',h2'⟩:=A3M (P:=P) h hE hm (o:=0) (by omega) hl h1;simp only[CVr] at hp;refine⟨b,0,w',hp.trans (hs),hst,?_,?_⟩;·simpa using h1'
    ·simpa using h2'
   ·cases hput
  ·cases hput
 ·rename_i m o;split at hput
  ·rename_i cs hm;split at hput
   ·rename_i hn;cases hput;obtain⟨b,w',hs,hst,h1',h2'⟩:=A3M (P:=P) h hE hm (o:=o) hn hl h1;simp only[CVr] at hp;obtain⟨b',hs',rfl⟩:=hp;rw[hs] at hs';injection hs' with hs';injection hs' with hs';injection hs' with hs' _ _;subst hs';exact⟨b,o,w',rfl,hst,h1',h2'⟩
   ·cases hput
  ·cases hput
 ·rename_i m sz i o;split at hput
  ·rename_i k xs hm;split at hput
   ·rename_i hn;obtain⟨rfl,hn⟩:=hn;split at hput
    ·rename_i y hy;cases hput;simp only[CVr] at hp;obtain⟨b,off,len,cap,hs,hi,rfl⟩:=hp;obtain⟨w',hst,h1',h2'⟩:=A6j (P:=P) h hE hm hn hy ((v8 (h.ent _ (tI hm))).symm.trans hs) hi hl h1;exact⟨b,_,w',rfl,hst,h1',h2'⟩
    ·cases hput
   ·cases hput
  ·cases hput
 ·cases hput
def A2W (P:Program) (H:tG) (t:TypeId) (p:CV) (x:SV):Option tG:=
 match x.cells,u7 P t with
 |some l,some n=>if l.length=n/\l.all (CV.oneIn H) then A2B H p l else none
 |_,_=>none
theorem A0A (h:v.oneCell'=true):v.cells = #[v]:=by cases v<;>first|rfl|(simp[lg] at h)
theorem A6s (h:tK C σ H w) (hE:tM C σ H w Γ a) {x:SV}
 (hp:CVr (Ow C.G H σ) w σ p v) (hx:SVr (Ow C.G H σ) w σ x u) (hst:A2W P H t p x=some H') :
 ∃b off w',v=.pointer (some ⟨b,off,none⟩)/\(storeVar t ⟨b,off,none⟩ u).run P w=.ok () w'/\tK C σ H' w'/\u6 C σ σ H H' w w' Γ a:=by
 unfold A2W at hst;split at hst
 ·rename_i l n hl hz;split at hst
  ·rename_i hn;obtain⟨hn,ho⟩:=hn;have key:∃vs,u.cells=vs.toArray/\CVs (Ow C.G H σ) w σ l vs:=by
    rcases A2x hl hx with⟨vs,rfl,hvs⟩|⟨y,rfl,hy⟩;·exact⟨vs,rfl,hvs⟩
    ·refine⟨[u],?_,hy,trivial⟩;simp only[kj,ub,mn] at ho;exact A0A (A0p h ho hy)
   obtain⟨vs,hc,hvs⟩:=key;obtain⟨b,off,w',rfl,hrun,h1,h2⟩:=A6o (P:=P) h hE hp hvs (A1D h ho hvs) hst;refine⟨b,off,w',rfl,?_,h1,h2⟩;have:=vH hvs;simp[storeVar,hc,uK hz,hrun,<-hn,this]
  ·cases hst
 ·cases hst
theorem A3A (h:tK C σ H w) (hE:tM C σ H w Γ a) (hf:tY m Γ H=true) {l:List CV}
 (hl:CVs (Ow C.G H σ) w σ l vs) (hlf:l.any (CV.has m)=false) (t:TypeId) :
 tK C (upd σ m (.pointer (some ⟨w.heap.size,0,none⟩))) ((m,.box l)::H) (w.alloc (.cells vs.toArray t))/\
 u6 C σ (upd σ m (.pointer (some ⟨w.heap.size,0,none⟩))) H ((m,.box l)::H) w (w.alloc (.cells vs.toArray t)) Γ a:=by
 have hw:∀b,b<w.heap.size->(w.alloc (.cells vs.toArray t)).heap[b]? =w.heap[b]?:=λb hb=>uH w _ b hb;have hnames:∀n,l.any (CV.has n)=true->upd σ m (.pointer (some ⟨w.heap.size,0,none⟩)) n=σ n:=λn hn=>tT (λe=>by subst e;rw[hlf] at hn;cases hn);have hanti:∀b,b<w.heap.size->¬Ow C.G H σ b->¬Ow C.G ((m,.box l)::H) (upd σ m (.pointer (some ⟨w.heap.size,0,none⟩))) b:=by
  intro b hb ho ho';rcases ho' with hg|⟨p,hp,hbp⟩;·exact ho (.inl hg)
  ·rcases bv.1 hp with rfl|hp;·rw[tQ] at hbp;simp[Bk,blk] at hbp;omega
   ·rw[tT (uI hf p hp).1] at hbp;exact ho (.inr ⟨p,hp,hbp⟩)
 have hst:=y5 (w':=w.alloc (.cells vs.toArray t)) h m m (.box l) (.pointer (some ⟨w.heap.size,0,none⟩)) (λ_ _=>.inr (λp hp=>(uI hf p (uC.1 hp).1).2)) (λp hp=>(uC.1 hp).2)
  (λb hb _=>hw b hb) (by simp) rfl rfl rfl (λb hb=>.inr (by simp[Bk,blk] at hb;omega)) (by rw[yK hf];exact⟨w.heap.size,vs.toArray,t,.inl (tQ _ _ _),heap_alloc_new w _,wW hnames (wH (λb hb _=>hw b hb) hanti hl)⟩)
 rw[yK hf] at hst;exact⟨hst.1,⟨hE.step hst.2.1 hst.2.2 (zZ hf),hst.2.1,hst.2.2⟩⟩
theorem xL (h:tK C σ H w) (hE:tM C σ H w Γ a) (hf:tY m Γ H=true) (k:Kd) (xs:List k.ty) (v:Value)
 (hw:∀b,b<w.heap.size->w'.heap[b]? =w.heap[b]?) (hs:w.heap.size<=w'.heap.size) (hos:w'.os=w.os) (ht:w'.tape=w.tape) (hou:w'.output=w.output)
 (hblk:∀b,Bk v b->w.heap.size<=b) (hrow:∀O',(∀b,b<w.heap.size->¬Ow C.G H σ b->¬O' b)->tV O' w' k xs v) :
 tK C (upd σ m v) ((m,.row k xs)::H) w'/\u6 C σ (upd σ m v) H ((m,.row k xs)::H) w w' Γ a:=by
 have hanti:∀b,b<w.heap.size->¬Ow C.G H σ b->¬Ow C.G ((m,.row k xs)::H) (upd σ m v) b:=by
  intro b hb ho ho';rcases ho' with hg|⟨p,hp,hbp⟩;·exact ho (.inl hg)
  ·rcases bv.1 hp with rfl|hp;·rw[tQ] at hbp;have:=hblk b hbp;omega
   ·rw[tT (uI hf p hp).1] at hbp;exact ho (.inr ⟨p,hp,hbp⟩)
 have hst:=y5 (w':=w') h m m (.row k xs) v (λ_ _=>.inr (λp hp=>(uI hf p (uC.1 hp).1).2)) (λp hp=>(uC.1 hp).2)
  (λb hb _=>hw b hb) hs hos ht hou (λb hb=>.inr (hblk b hb)) (by rw[yK hf];unfold uB;rw[tQ];exact hrow _ hanti)
 rw[yK hf] at hst;exact⟨hst.1,⟨hE.step hst.2.1 hst.2.2 (zZ hf),hst.2.1,hst.2.2⟩⟩
theorem A5c (h:tK C σ H w) (hE:tM C σ H w Γ a) (hf:tY m Γ H=true) (s:ByteArray) (pos:Nat) :
 tK C (upd σ m (.pointer (some ⟨w.heap.size,0,none⟩))) ((m,.it s pos none)::H) (w.alloc (.stringIter s pos))/\
 u6 C σ (upd σ m (.pointer (some ⟨w.heap.size,0,none⟩))) H ((m,.it s pos none)::H) w (w.alloc (.stringIter s pos)) Γ a:=by
 have hst:=y5 (w':=w.alloc (.stringIter s pos)) h m m (.it s pos none) (.pointer (some ⟨w.heap.size,0,none⟩)) (λ_ _=>.inr (λp hp=>(uI hf p (uC.1 hp).1).2)) (λp hp=>(uC.1 hp).2)
  (λb hb _=>uH w _ b hb) (by show w.heap.size<=(w.heap.push _).size;simp) rfl rfl rfl (λb hb=>.inr (by simp[Bk,blk] at hb;omega)) (by rw[yK hf];exact⟨w.heap.size,tQ _ _ _,heap_alloc_new w _,λh=>(by cases h),λh=>(by cases h)⟩)
 rw[yK hf] at hst;exact⟨hst.1,⟨hE.step hst.2.1 hst.2.2 (zZ hf),hst.2.1,hst.2.2⟩⟩
theorem A4q (h:tK C σ H w) (hE:tM C σ H w Γ a) {e:Ent} (hm:tJ H m=some e) (hb:Bk (σ m) b)
 (hw:∀q,q≠b->w'.heap[q]? =w.heap[q]?) (hs:w'.heap.size=w.heap.size) (hos:w'.os=w.os) (ht:w'.tape=w.tape) (hou:w'.output=w.output) (hent:∀O,uB O w' σ m e') :
 tK C σ ((m,e')::tO H m) w'/\u6 C σ σ H ((m,e')::tO H m) w w' Γ a:=by
 have hin:=tI hm;have hst:=y5 (w':=w') h m m e' (σ m) (λ_ _=>.inl rfl) (λp hp=>(uC.1 hp).2)
  (λq _ hq=>hw q (λe1=>hq e hin (by rw[e1];exact hb))) (by omega) hos ht hou (λq hq=>.inl ⟨hq,e,hin⟩) (by rw[z8];exact hent _)
 rw[z8] at hst;exact⟨hst.1,⟨hE.step hst.2.1 hst.2.2 (λ_ _ _ _ _=>rfl),hst.2.1,hst.2.2⟩⟩
def tL:List Prop->Prop
 |[]=>True
 |[p]=>p
 |p::q::ps=>p/\tL (q::ps)
theorem zJ {p:Prop}:∀{ps:List Prop},tL (p::ps)↔p/\tL ps
 |[]=>by simp[tL]
 |_::_=>Iff.rfl
theorem A0b:∀{ps qs:List Prop},tL (ps++qs)↔tL ps/\tL qs
 |[],qs=>by simp[tL]
 |p::ps,qs=>by rw[db,zJ,zJ,A0b,and_assoc]
abbrev Ans:=SV×List Prop
def wS (k:IntKind) (n:Int):SV:=.c (.val (.int k n))
def uP (b:Bool):SV:=.c (.val (.bool b))
def A3H (op:BinOp) (k:IntKind) (x y:Int):Option Int:=
 match op with
 |.and=>some (k.wrap (bi k.bits x &&&bi k.bits y).toNat)
 |.or=>some (k.wrap (bi k.bits x |||bi k.bits y).toNat)
 |.xor=>some (k.wrap (bi k.bits x ^^^ bi k.bits y).toNat)
 |.andNot=>some (k.wrap (bi k.bits x &&& ~~~bi k.bits y).toNat)
 |_=>none
def A1k (op:BinOp) (k k':IntKind) (x y:Int):Option Ans:=
 match op with
 |.shl=>some (wS k (k.wrap (x*2 ^ min y.toNat k.bits)),[0<=y])
 |.shr=>some (wS k (x.fdiv (2 ^ min y.toNat k.bits)),[0<=y])
 | _ => if k ≠ k' then none else
   match op with
   |.add=>some (wS k (k.wrap (x+y)),[])
   |.sub=>some (wS k (k.wrap (x-y)),[])
   |.mul=>some (wS k (k.wrap (x*y)),[])
   |.quo=>some (wS k (k.wrap (x.tdiv y)),[y≠0])
   |.rem=>some (wS k (x.tmod y),[y≠0])
   |.eql=>some (uP (x==y),[])
   |.neq=>some (uP (x !=y),[])
   |.lss=>some (uP (decide (x<y)),[])
   |.leq=>some (uP (decide (x<=y)),[])
   |.gtr=>some (uP (decide (x>y)),[])
   |.geq=>some (uP (decide (x>=y)),[])
   |op=>(A3H op k x y).map λn=>(wS k n,[])
theorem A6C {k k':IntKind} {x y:Int} {v:SV} (h:A1k op k k' x y=some (v,cs)) (hc:tL cs) (t:TypeId) (w:World) :
 ∃u,v=.c (.val u)/\(binOp op t (.int k x) (.int k' y)).run P w=.ok u w:=by
 unfold A1k at h;split at h
 ·cases h;simp only[tL] at hc;refine⟨_,rfl,?_⟩;simp only[binOp,Op.shift];rw[if_neg (by omega)];rfl
 ·cases h;simp only[tL] at hc;refine⟨_,rfl,?_⟩;simp only[binOp,Op.shift];rw[if_neg (by omega)];rfl
 ·split at h;·cases h
  ·rename_i hk;have hk:k=k':=by simpa using hk
   subst hk;split at h;·cases h;exact⟨_,rfl,by simp[binOp,sg]⟩
   ·cases h;exact⟨_,rfl,by simp[binOp,sg]⟩
   ·cases h;exact⟨_,rfl,by simp[binOp,sg]⟩
   ·cases h;simp only[tL] at hc;exact⟨_,rfl,by simp[binOp,Op.intDiv,hc]⟩
   ·cases h;simp only[tL] at hc;exact⟨_,rfl,by simp[binOp,Op.intDiv,hc]⟩
   ·cases h;exact⟨_,rfl,by simp[binOp,qq]⟩
   ·cases h;exact⟨_,rfl,by simp[binOp,qq]⟩
   ·cases h;exact⟨_,rfl,by simp[binOp,qq]⟩
   ·cases h;exact⟨_,rfl,by simp[binOp,qq]⟩
   ·cases h;exact⟨_,rfl,by simp[binOp,qq]⟩
   ·cases h;exact⟨_,rfl,by simp[binOp,qq]⟩
   ·simp only[bf] at h;obtain⟨n,hn,e⟩:=h;cases e;unfold A3H at hn;split at hn<;>first
     |(cases hn;exact⟨_,rfl,by simp[binOp,Op.intBits]⟩)
     |cases hn
theorem A6l (op:BinOp) (t:TypeId) (x y:Operand) (k k':IntKind) (a b:Int) (w:World):(eqGuard op t x y (.int k a) (.int k' b)).run P w=.ok () w:=by cases op<;>simp[eqGuard]
def A2a (op:BinOp) (x y:ByteArray):Option Ans:=
 match op with
 |.add=>some (.c (.val (.string (x++y))),[x.size+y.size<=9223372036854775807])
 |.eql=>some (uP (x.toList==y.toList),[])
 |.neq=>some (uP (!(x.toList==y.toList)),[])
 |.lss=>some (uP (uc x.toList y.toList),[])
 |.leq=>some (uP (uc x.toList y.toList||x.toList==y.toList),[])
 |.gtr=>some (uP (!(uc x.toList y.toList||x.toList==y.toList)),[])
 |.geq=>some (uP (!Op.bytesLess x.toList y.toList),[])
 |_=>none
theorem A67:IntKind.i64.max=9223372036854775807:=by simp[IntKind.max,oj,bh]
theorem A7d {x y:ByteArray} {v:SV} (h:A2a op x y=some (v,cs)) (hc:tL cs) (t:TypeId) (w:World) :
 ∃u,v=.c (.val u)/\(binOp op t (.string x) (.string y)).run P w=.ok u w:=by
 unfold A2a at h;split at h
 ·cases h;simp only[tL] at hc;refine⟨_,rfl,?_⟩;have:¬(((x.size+y.size:Nat):Int)>IntKind.i64.max):=by rw[A67];omega
  simp only[binOp,Op.stringOp];rw[if_neg this];rfl
 all_goals first
  |(cases h;exact⟨_,rfl,by simp[binOp,Op.stringOp]⟩)
  |cases h
theorem A6m (op:BinOp) (t:TypeId) (x y:Operand) (a b:ByteArray) (w:World):(eqGuard op t x y (.string a) (.string b)).run P w=.ok () w:=by cases op<;>simp[eqGuard]
def A1Q (P:Program) (op:BinOp) (t:TypeId) (a b:Bool):Option Ans:=
 match op,P.underlying t with
 |.eql,some .bool=>some (uP (a==b),[])
 |.neq,some .bool=>some (uP (!(a==b)),[])
 |_,_=>none
theorem A5o {a b:Bool} {v:SV} (h:A1Q P op t a b=some (v,cs)) (x y:Operand) (w:World) :
 ∃u,v=.c (.val u)/\(eqGuard op t x y (.bool a) (.bool b)).run P w=.ok () w/\(binOp op t (.bool a) (.bool b)).run P w=.ok u w:=by
 unfold A1Q at h;split at h
 ·rename_i hu;cases h;exact⟨_,rfl,by simp[eqGuard],by simp[binOp,ud,qd,run_equalIn_bool' w 9999 t a b hu]⟩
 ·rename_i hu;cases h;exact⟨_,rfl,by simp[eqGuard],by simp[binOp,ud,qd,run_equalIn_bool' w 9999 t a b hu]⟩
 ·cases h
def A4F:Value->Option Bool
 |.pointer none=>some true
 |_=>none
def A02 (H:tG):CV->Option Bool
 |.val v=>A4F v
 |.imm (.opt _) x=>some x.isNone
 |.h m=>match tJ H m with
  |some (.box _)=>some false
  |_=>none
 |.cell _ _|.elt _ _ _ _|.ielt _ _=>some false
 |_=>none
theorem A3z (h:tK C σ H w):∀{s:CV} {v:Value} {b:Bool},A02 H s=some b->CVr (Ow C.G H σ) w σ s v->
 ∃A,v=.pointer A/\A.isNone=b
 | .val v,_,_,hb,hv => by
   cases hv;simp only[A02] at hb;unfold A4F at hb;split at hb;·cases hb;exact⟨none,rfl,rfl⟩
   ·cases hb
 |.imm (.opt _) none,_,_,hb,hv=>by cases hb;simp only[CVr,Kd.R] at hv;cases hv;exact⟨none,rfl,rfl⟩
 |.imm (.opt _) (some _),_,_,hb,hv=>by cases hb;simp only[CVr,Kd.R] at hv;obtain⟨_,_,_,hv,_⟩:=hv;cases hv;exact⟨_,rfl,rfl⟩
 | .h m,_,_,hb,hv => by
   simp only[A02] at hb;split at hb
   ·rename_i cs hm;cases hb;obtain⟨b,c,e,hs,_⟩:=h.ent _ (tI hm);exact⟨_,hv.trans (hs.hd),rfl⟩
   ·cases hb
 |.cell _ _,_,_,hb,hv=>by cases hb;obtain⟨_,_,rfl⟩:=hv;exact⟨_,rfl,rfl⟩
 |.elt _ _ _ _,_,_,hb,hv=>by cases hb;obtain⟨_,_,_,_,_,_,rfl⟩:=hv;exact⟨_,rfl,rfl⟩
 |.ielt _ _,_,_,hb,hv=>by cases hb;obtain⟨_,_,_,rfl,_⟩:=hv;exact⟨_,rfl,rfl⟩
def A1o (g:TypeId->Option Kd):List TypeId->Option Kd
 |[]=>none
 |[t]=>g t
 | t :: u :: ts => match g t,A1o g (u :: ts) with
     |some a,some b=>some (.pair a b)
     |_,_=>none
def A6D (P:Program) (t:TypeId):Bool:=
 match P.underlying t with
 |some (.struct fs)=>match fs[0]? with
  |some fd=>match P.underlying fd.type with
   |some (.slice e)=>match P.underlying e with
    |some (.pointer t')=>t'==t
    |_=>false
   |_=>false
  |none=>false
 |_=>false
def wB (P:Program):Nat->TypeId->Option Kd
 |0,_=>none
 | f+1,t =>
   if A6D P t=true then some .node else
   match P.underlying t with
   |some (.int k)=>some (.int k)
   |some .bool=>some .bool
   |some .string=>some .str
   |some (.slice e)=>(wB P f e).map Kd.slice
   |some (.pointer e)=>(wB P f e).map Kd.opt
   |some (.struct fs)=>A1o (wB P f) (fs.toList.map (·.type))
   |some (.array n e)=>A1o (wB P f) (bn n e)
   |_=>none
def rdN (k:Kd):Nat->List CV->Option (List k.ty)
 |0,[]=>some []
 |0,_::_=>none
 | n+1,l => match k.rdl l with
    |some (x,r)=>(rdN k n r).map (x::·)
    |none=>none
theorem A0B {O:Nat->Prop} {w:World} {σ:Nat->Value} {k:Kd}:∀{n:Nat} {l:List CV} {xs:List k.ty} {vs:List Value},rdN k n l=some xs->CVs O w σ l vs->
 xs.length=n/\vs.length=n*k.sz/\∀i (h:i<xs.length),∃cs,k.R O w xs[i] cs/\∀j,j<k.sz->vs[i*k.sz+j]? =cs[j]?
 | 0,[],xs,vs,h,hc => by
   cases h;cases vs with
   |nil=>exact⟨rfl,by simp,λi hi=>absurd hi (by simp)⟩
   |cons _ _=>exact hc.elim
 |0,_::_,xs,vs,h,_=>by cases h
 | n+1,l,xs,vs,h,hc => by
   simp only[rdN] at h;split at h
   ·rename_i x r hr;obtain⟨ys,hys,rfl⟩:=bf.1 h;obtain⟨c1,c2,rfl,hR,hc2⟩:=A0s hr hc;obtain⟨h1,h2,h3⟩:=A0B hys hc2;have hl:=v7 hR;refine⟨by simp[h1],by rw[cy,hl,h2,ey];omega,λi hi=>?_⟩;cases i with
    | zero =>
      refine⟨c1,hR,λj hj=>?_⟩;rw[Nat.zero_mul,ew,dk (by omega)]
    | succ i =>
      obtain⟨cs,hRi,hci⟩:=h3 i (by simp at hi;omega);refine⟨cs,by simpa using hRi,λj hj=>?_⟩;rw[<-hci j hj,dd (by rw[ey];omega)];congr 1;rw[ey];omega
   ·cases h
def xI (O:Nat->Prop) (w:World) (k:Kd) (A:Option Addr) (xs:List k.ty):Prop:=
 ∀i (h:i<xs.length),∃b off c,A=some ⟨b,off,none⟩/\k.R O w xs[i] c/\∀j,j<k.sz->w.cell? ⟨b,off+i*k.sz+j,none⟩=c[j]?
theorem A1I:xI O w k A []:=λi hi=>absurd hi (by simp)
theorem wO {xs:List k.ty} (h:tV O w k xs v):∃A cap,v=.slice A xs.length cap/\xs.length<=cap/\xI O w k A xs:=by
 obtain⟨A,cap,rfl,h⟩:=h;rcases h with⟨rfl,rfl⟩|⟨hp,hl,b,off,c,e,rfl,hh,hs,hr⟩;·exact⟨A,0,rfl,bp _,A1I⟩
 ·refine⟨_,cap,rfl,hl,λi hi=>?_⟩;obtain⟨cs,hR,hc⟩:=hr i hi;exact⟨b,off,cs,rfl,hR,λj hj=>by rw[cell_of_row w b _ c e (0,0) hh,hc j hj]⟩
theorem A2u {xs:List k.ty} (h:xI O w k A xs) (lo len:Nat) (hl:lo+len<=xs.length) {A':Option Addr}
 (hA:∀b off,A=some ⟨b,off,none⟩->0<len->A'=some ⟨b,off+lo*k.sz,none⟩):xI O w k A' ((xs.drop lo).take len):=by
 intro i hi;simp only[co,cq] at hi;obtain⟨b,off,c,e,hR,hc⟩:=h (lo+i) (by omega);refine⟨b,off+lo*k.sz,c,hA b off e (by omega),by simpa using hR,λj hj=>?_⟩;rw[<-hc j hj];congr 2;rw[ey];omega
def w9 (H:tG) (k:Kd):CV->Option (List k.ty)
 |.h m=>match tJ H m with
  |some (.row k' xs)=>wQ (.slice k') (.slice k) xs
  |_=>none
 |.imm k' x=>wQ k' (.slice k) x
 |.sub m sz lo len=>match tJ H m with
  |some (.row k' xs)=>if sz=k'.sz then wQ (.slice k') (.slice k) ((xs.drop lo).take len) else none
  |_=>none
 |.val (.slice none 0 0)=>some []
 |.zc=>some []
 |_=>none
theorem yJ (h:tK C σ H w) {s:CV} {xs:List k.ty} (hc:w9 H k s=some xs) (hv:CVr (Ow C.G H σ) w σ s v) :
 ∃A cap,v=.slice A xs.length cap/\xs.length<=cap/\xI (Ow C.G H σ) w k A xs:=by
 unfold w9 at hc;split at hc
 ·rename_i m;split at hc
  ·rename_i k' ys hm;obtain⟨e,rfl⟩:=xM hc;cases e;cases hv;exact wO (A2G (h.ent _ (tI hm)))
  ·cases hc
 ·rename_i k' x;obtain⟨e,rfl⟩:=xM hc;cases e;simp only[CVr,Kd.R] at hv;obtain⟨A,cap,hv,hl,hr⟩:=hv;simp only[ia,and_true] at hv;refine⟨A,cap,hv,hl,λi hi=>?_⟩;obtain⟨b,off,c,e,_,hR,hcell⟩:=hr i hi;exact⟨b,off,c,e,hR,hcell⟩
 ·rename_i m sz lo len;split at hc
  ·rename_i k' ys hm;split at hc
   ·rename_i hsz;subst hsz;obtain⟨e,rfl⟩:=xM hc;cases e;simp only[CVr] at hv;obtain⟨A,l,cap,A',cap',hs,rfl,hlen,hlo,hcap⟩:=hv;obtain⟨A2,cap2,e2,hl2,hr2⟩:=wO (A2G (h.ent _ (tI hm)));rw[hs] at e2;injection e2 with e3 e4 e5;subst e3 e4 e5;have hlen':((ys.drop lo).take len).length=len:=by simp;omega
    refine⟨A',cap',by rw[hlen'],by rw[hlen'];exact hlen,?_⟩;refine A2u hr2 lo len hlo λb off e hp=>?_;obtain⟨_,b',off',e1,e2⟩:=hcap (by omega);rw[e] at e1;injection e1 with e1;injection e1 with e3 e4 _;subst e3 e4;exact e2
   ·cases hc
  ·cases hc
 ·cases hc;cases hv;exact⟨none,0,rfl,bp _,A1I⟩
 ·cases hc;obtain⟨A,rfl⟩:=hv;exact⟨A,0,rfl,bp _,A1I⟩
 ·cases hc
def A0y (H:tG):CV->Option Nat
 |.h m=>match tJ H m with
  |some (.row _ xs)=>some xs.length
  |some (.sets ls none)=>some ls.length
  |some (.sets ls (some _))=>some (ls.length+1)
  |some (.arow _ xs)=>some xs.length
  |some (.aown xs)=>some xs.length
  |some (.brow _ xs)=>some xs.length
  |_=>none
 |.imm k x=>match k,x with
  |.slice _,xs=>some xs.length
  |_,_=>none
 |.sub _ _ _ len=>some len
 |.val (.slice none 0 0)=>some 0
 |.zc=>some 0
 |_=>none
theorem A4j (h:tK C σ H w) {s:CV} {n:Nat} (hc:A0y H s=some n) (hv:CVr (Ow C.G H σ) w σ s v) :
 ∃A cap,v=.slice A n cap/\n<=cap:=by
 unfold A0y at hc;split at hc
 ·split at hc
  ·rename_i hm;cases hc;cases hv;obtain⟨A,cap,e,hl,_⟩:=wO (A2G (h.ent _ (tI hm)));exact⟨A,cap,e,hl⟩
  ·rename_i ls hm;cases hc;obtain⟨A,cap,vs,hs,_,hl,_,_,hr⟩:=h.ent _ (tI hm);have hl:vs.length=ls.length:=by simpa using hl
   refine⟨A,cap,hv.trans (by rw[hs,<-hl];rfl),?_⟩;rcases hr with⟨_,rfl⟩|⟨_,hle,_⟩;·simp at hl;omega
   ·omega
  ·rename_i ls m' hm;cases hc;obtain⟨A,cap,vs,hs,_,hl,_,_,hr⟩:=h.ent _ (tI hm);have hl:vs.length=ls.length+1:=by simpa using hl
   refine⟨A,cap,hv.trans (by rw[hs,<-hl];rfl),?_⟩;rcases hr with⟨_,rfl⟩|⟨_,hle,_⟩;·simp at hl
   ·omega
  ·rename_i hm;cases hc;obtain⟨A,cap,vs,hs,_,_,_,_,hr⟩:=h.ent _ (tI hm);refine⟨A,cap,hv.trans (by rw[hs];rfl),?_⟩;rcases hr with⟨_,rfl⟩|⟨_,hle,_⟩;·simp
   ·exact hle
  ·rename_i hm;cases hc;obtain⟨A,cap,vs,hs,_,_,_,_,hr⟩:=h.ent _ (tI hm);refine⟨A,cap,hv.trans (by rw[hs];rfl),?_⟩;rcases hr with⟨_,rfl⟩|⟨_,hle,_⟩;·simp
   ·exact hle
  ·rename_i hm;cases hc;obtain⟨⟨A,cap,hs,hr⟩,_⟩:=h.ent _ (tI hm);refine⟨A,cap,hv.trans (by rw[hs];rfl),?_⟩;rcases hr with⟨_,hr⟩|⟨_,hle,_⟩;·rw[hr];exact Nat.zero_le _
   ·exact hle
  ·cases hc
 ·split at hc
  ·cases hc;simp only[CVr,Kd.R] at hv;obtain⟨A,cap,hv,hl,_⟩:=hv;simp only[ia,and_true] at hv;exact⟨A,cap,hv,hl⟩
  ·cases hc
 ·cases hc;obtain⟨A,l,cap,A',cap',hs,rfl,hlen,_⟩:=hv;exact⟨A',cap',rfl,hlen⟩
 ·cases hc;cases hv;exact⟨none,0,rfl,bp _⟩
 ·cases hc;obtain⟨A,rfl⟩:=hv;exact⟨A,0,rfl,bp _⟩
 ·cases hc
def zX (P:Program) (s:TypeId) (f:Nat):Option Field:=
 match P.underlying s with
 |some (.struct fs)=>fs[f]?
 |_=>none
def A4E (P:Program) (s:TypeId):Nat:=
 match P.underlying s with
 |some (.struct fs)=>fs.size
 |_=>0
theorem A3f {s:TypeId} {fd:Field} (h:zX P s f=some fd):∃fs,P.underlying s=some (.struct fs)/\fs[f]? =some fd:=by
 unfold zX at h;split at h;·rename_i fs hu;exact⟨fs,hu,h⟩
 ·cases h
def yS (P:Program) (t:TypeId) (l:List CV) (off:Nat):Option SV:=
 match vE P t,u7 P t with
 |some true,some n=>some (.agg ((l.drop off).take n))
 |some false,_=>(l[off]?).map SV.c
 |_,_=>none
theorem wU {O:Nat->Prop} {w:World} {σ:Nat->Value}:∀{l:List CV} {vs:List Value} {n:Nat} {x:CV},CVs O w σ l vs->l[n]? =some x->∃u,vs[n]? =some u/\CVr O w σ x u
 |[],_,_,_,_,h=>by simp at h
 |s::l,v::vs,0,x,hc,h=>by simp only[gh,dw] at h;subst h;exact⟨v,rfl,hc.1⟩
 |s::l,v::vs,n+1,x,hc,h=>by simpa using wU (n:=n) hc.2 (by simpa using h)
 |_::_,[],_,_,hc,_=>hc.elim
theorem A0r {l:List CV} (h:yS P t l off=some sv) (hc:CVs O w σ l vs) :
 ∃u,(part t vs.toArray off).run P w=.ok u w/\SVr O w σ sv u:=by
 unfold yS at h;split at h
 ·rename_i n ha hz;cases h;refine⟨.agg ((vs.drop off).take n).toArray,?_,⟨_,rfl,wX (xH hc)⟩⟩;simp[part,vY ha,uK hz,xw,qr]
 ·rename_i ha;simp only[bf] at h;obtain⟨x,hx,rfl⟩:=h;obtain⟨u,hu,hr⟩:=wU hc hx;refine⟨u,?_,hr⟩;simp[part,vY ha,hu]
 ·cases h
def fld:(n:Nat)->(k:Kd)->(f:Nat)->k.ty->Option (Σ k':Kd,k'.ty)
 |0,_,_,_=>none
 |1,k,0,x=>some ⟨k,x⟩
 |1,_,_+1,_=>none
 |_+2,.pair a _,0,x=>some ⟨a,x.1⟩
 |n+2,.pair _ b,f+1,x=>fld (n+1) b f x.2
 |_+2,.node,0,t=>some ⟨.slice (.opt .node),t.kids⟩
 |_+2,.node,1,t=>some ⟨.slice .str,t.items⟩
 |_+2,.node,2,t=>some ⟨.int .i64,t.n⟩
 |_+2,.node,3,t=>some ⟨.int .i64,t.d⟩
 |_+2,.node,4,t=>some ⟨.pair (.int .i64) (.pair (.int .i64) (.pair (.int .i64) (.int .i64))),(t.s1,t.s2,t.s3,t.s4)⟩
 |_+2,_,_,_=>none
def vG:(n:Nat)->(k:Kd)->(f:Nat)->Nat
 |n+2,.pair a b,f+1=>a.sz+vG (n+1) b f
 |_+2,.node,f=>f
 |_,_,_=>0
theorem A3i {O:Nat->Prop} {w:World}:∀{n:Nat} {k:Kd} {f:Nat} {x:k.ty} {k':Kd} {y:k'.ty} {cs:List Value},fld n k f x=some ⟨k',y⟩->k.R O w x cs->
 ∃c,k'.R O w y c/\vG n k f+k'.sz<=k.sz/\∀j,j<k'.sz->cs[vG n k f+j]? =c[j]?
 |0,_,_,_,_,_,_,h,_=>by simp[fld] at h
 | 1,k,0,x,k',y,cs,h,hR => by
   simp only[fld,dw] at h;cases h;have e:vG 1 k 0=0:=by simp[vG]
   exact⟨cs,hR,by omega,λj _=>by rw[e,ew]⟩
 |1,_,_+1,_,_,_,_,h,_=>by simp[fld] at h
 | n+2,.pair a b,0,x,k',y,cs,h,hR => by obtain⟨c1,c2,rfl,h1,h2⟩:=hR;have hl1:=v7 h1;simp only[fld,dw] at h;cases h;refine⟨c1,h1,by simp[vG,Kd.sz],λj hj=>?_⟩;simp only[vG,ew];rw[dk (by omega)]
 | n+2,.pair a b,f+1,x,k',y,cs,h,hR => by obtain⟨c1,c2,rfl,h1,h2⟩:=hR;have hl1:=v7 h1;simp only[fld] at h;obtain⟨c,hR',hsz,hc⟩:=A3i h h2;refine⟨c,hR',by simp only[vG,Kd.sz];omega,λj hj=>?_⟩;simp only[vG];rw[dd (by omega),<-hc j hj];congr 1;omega
 |_+2,.int _,_,_,_,_,_,h,_=>by simp[fld] at h
 |_+2,.bool,_,_,_,_,_,h,_=>by simp[fld] at h
 |_+2,.str,_,_,_,_,_,h,_=>by simp[fld] at h
 |_+2,.slice _,_,_,_,_,_,h,_=>by simp[fld] at h
 |_+2,.opt _,_,_,_,_,_,h,_=>by simp[fld] at h
 | _+2,.node,0,.mk ..,_,_,_,h,hR => by obtain⟨f,hR⟩:=hR;obtain⟨u,v,rfl,h1,h2⟩:=yR hR;simp only[fld,dw] at h;cases h;exact⟨[u],h1,by simp[vG,Kd.sz],λj hj=>by simp only[Kd.sz] at hj;obtain rfl:j=0:=(by omega);rfl⟩
 | _+2,.node,1,.mk ..,_,_,_,h,hR => by obtain⟨f,hR⟩:=hR;obtain⟨u,v,rfl,h1,h2⟩:=yR hR;simp only[fld,dw] at h;cases h;exact⟨[v],h2,by simp[vG,Kd.sz],λj hj=>by simp only[Kd.sz] at hj;obtain rfl:j=0:=(by omega);rfl⟩
 | _+2,.node,2,.mk _ _ n _ _ _ _ _,_,_,_,h,hR => by obtain⟨f,hR⟩:=hR;obtain⟨u,v,rfl,h1,h2⟩:=yR hR;simp only[fld,dw] at h;cases h;exact⟨[.int .i64 n],rfl,by simp[vG,Kd.sz],λj hj=>by simp only[Kd.sz] at hj;obtain rfl:j=0:=(by omega);rfl⟩
 | _+2,.node,3,.mk _ _ _ d _ _ _ _,_,_,_,h,hR => by obtain⟨f,hR⟩:=hR;obtain⟨u,v,rfl,h1,h2⟩:=yR hR;simp only[fld,dw] at h;cases h;exact⟨[.int .i64 d],rfl,by simp[vG,Kd.sz],λj hj=>by simp only[Kd.sz] at hj;obtain rfl:j=0:=(by omega);rfl⟩
 | _+2,.node,4,.mk _ _ _ _ s1 s2 s3 s4,_,_,_,h,hR => by obtain⟨f,hR⟩:=hR;obtain⟨u,v,rfl,h1,h2⟩:=yR hR;simp only[fld,dw] at h;cases h;exact⟨[.int .i64 s1,.int .i64 s2,.int .i64 s3,.int .i64 s4],⟨[_],_,rfl,rfl,[_],_,rfl,rfl,[_],_,rfl,rfl,rfl⟩,by simp[vG,Kd.sz],λj _=>by simp only[vG];rw[qz];rfl⟩
 |_+2,.node,_+5,_,_,_,_,h,_=>by simp[fld] at h
def A2Q (P:Program) (s:TypeId) (f:Nat) (p:CV):Option CV:=
 match zX P s f with
 |some fd=>if u7 P fd.type=some 0\/u7 P fd.type=none then none else
  match p with
  |.h m=>some (.cell m fd.offset)
  |.cell m o=>some (.cell m (o+fd.offset))
  |.elt m sz i o=>some (.elt m sz i (o+fd.offset))
  |.ielt k x=>match fld (A4E P s) k f x with
   |some ⟨k',y⟩=>if vG (A4E P s) k f=fd.offset then some (.ielt k' y) else none
   |none=>none
  |_=>none
 |none=>none
theorem A0w {s:TypeId} {fd:Field} (h:zX P s f=some fd) (h0:u7 P fd.type≠some 0) (h1:u7 P fd.type≠none) (b off:Nat) (w:World) :
 (ti s (.pointer (some ⟨b,off,none⟩)) f).run P w=.ok (.pointer (some ⟨b,off+fd.offset,none⟩)) w:=by
 obtain⟨fs,hu,hf⟩:=A3f h;cases hz:u7 P fd.type with
 |none=>exact(h1 hz).elim
 | some n =>
   have hn:n≠0:=λe=>h0 (by rw[hz,e]);simp[ti,run_underlying hu,hf,kv,fieldPlace,uK hz,hn,im]
theorem A7G {s:TypeId} {q:CV} (hst:A2Q P s f p=some q) (hbox:∀m,p=.h m->∃b,hd (σ m)=.pointer (some ⟨b,0,none⟩)) (hp:CVr (Ow C.G H σ) w σ p v) :
 ∃u,(ti s v f).run P w=.ok u w/\CVr (Ow C.G H σ) w σ q u:=by
 unfold A2Q at hst;split at hst
 ·rename_i fd hf;split at hst;·cases hst
  ·rename_i hz;rw[not_or] at hz;split at hst
   ·rename_i m;cases hst;cases hp;obtain⟨b,hb⟩:=hbox m rfl;rw[hb];exact⟨_,A0w hf hz.1 hz.2 b 0 w,b,hb,by simp⟩
   ·cases hst;obtain⟨b,hb,rfl⟩:=hp;exact⟨_,A0w hf hz.1 hz.2 b _ w,b,hb,rfl⟩
   ·cases hst;obtain⟨b,off,len,cap,hb,hi,rfl⟩:=hp;exact⟨_,A0w hf hz.1 hz.2 b _ w,b,off,len,cap,hb,hi,by rw[lc _ _ fd.offset]⟩
   ·rename_i k x;split at hst
    ·rename_i k' y hy;split at hst
     ·rename_i ho;cases hst;obtain⟨b,off,c,rfl,hb,hR,hcell⟩:=hp;obtain⟨c',hR',hsz,hc'⟩:=A3i hy hR;refine⟨_,A0w hf hz.1 hz.2 b off w,b,_,c',rfl,hb,hR',λj hj=>?_⟩;rw[<-hc' j hj,<-hcell _ (by omega),ho,lc]
     ·cases hst
    ·cases hst
   ·cases hst
 ·cases hst
def bt (s:ByteArray) (i:Int):Int:=((s[i.toNat]?).getD 0).toNat
def A0Z (k:IntKind):List CV->Option (List Int)
 |[]=>some []
 |.val (.int k' n)::l=>if k'=k then (A0Z k l).map (n::·) else none
 |_=>none
def A3x (P:Program) (t:TypeId):Option IntKind:=
 match P.underlying t with
 |some (.int k)=>some k
 |_=>none
theorem A36 {O:Nat->Prop} {w:World} {σ:Nat->Value} {k:IntKind}:∀{l:List CV} {ns:List Int} {vs:List Value},A0Z k l=some ns->CVs O w σ l vs->vs=ns.map (dh k)
 |[],ns,vs,h,hc=>by cases h;cases vs with|nil=>rfl|cons _ _=>exact hc.elim
 | s :: l,ns,vs,h,hc => by
   unfold A0Z at h;split at h;·rename_i e;cases e
   ·rename_i k' n l' e;cases e;split at h
    ·rename_i ek;subst ek;simp only[bf] at h;obtain⟨ms,hms,rfl⟩:=h;obtain⟨v,us,rfl,hv,hu⟩:=uM hc;rw[A36 hms hu,hv];rfl
    ·cases h
   ·cases h
def A4l (P:Program) (elem:TypeId) (len:Nat) (l:List CV) (i:Int) (n:Nat):Option SV:=
 match A3x P elem,n with
 |some k,1=>match A0Z k l with
  |some ns=>some (.c (.val (.int k (ns.getD i.toNat 0))))
  |none=>none
 |_,_=>match vE P elem,wB P 12 elem with
  |some true,some k=>match decide (n=k.sz),rdN k len l with
   |true,some xs=>some (.agg (k.svs (xs.getD i.toNat k.dflt)))
   |_,_=>yS P elem l (i.toNat*n)
  |some false,some .bool=>match decide (n=1),rdN .bool len l with
   |true,some bs=>some (uP (bs.getD i.toNat false))
   |_,_=>yS P elem l (i.toNat*n)
  |_,_=>yS P elem l (i.toNat*n)
def A2R (P:Program) (t:TypeId) (x:SV) (i:Int):Option Ans:=
 match P.underlying t,x with
 |some .string,.c (.val (.string s))=>some (wS .u8 (bt s i),[0<=i,i<s.size])
 |some (.array len elem),.agg l =>
  match u7 P elem with
  |some n=>if l.length=len*n then (A4l P elem len l i n).map λv=>(v,[0<=i,i<len]) else none
  |none=>none
 |_,_=>none
theorem A7J {x:SV} {xv:Value} {k:IntKind} {v:SV} (hst:A2R P t x i=some (v,cs)) (hc:tL cs) (hx:SVr (Ow C.G H σ) w σ x xv) :
 ∃u,(vh t xv (.int k i)).run P w=.ok u w/\SVr (Ow C.G H σ) w σ v u:=by
 unfold A2R at hst;split at hst
 ·rename_i s hu;cases hst;simp only[tL] at hc;cases hx;refine⟨_,?_,rfl⟩;have hlt:i.toNat<s.size:=by omega
  simp[vh,asIntOf,run_underlying hu,hc.1,bt,hlt]
 ·rename_i len elem l hu;split at hst
  ·rename_i n hz;split at hst
   ·rename_i hl;simp only[bf] at hst;obtain⟨v',hv',e⟩:=hst;cases e;simp only[tL] at hc;obtain⟨vs,rfl,hvs⟩:=hx;have key:∃u,(part elem vs.toArray (i.toNat*n)).run P w=.ok u w/\SVr (Ow C.G H σ) w σ v u:=by
     unfold A4l at hv';split at hv'
     ·rename_i k' hk;split at hv'
      ·rename_i ns hns;cases hv';have hvs':=A36 hns hvs;have hag:vE P elem=some false:=by
        unfold A3x at hk;unfold vE;split at hk;·rename_i hu';rw[hu']
        ·cases hk
       refine⟨.int k' (ns.getD i.toNat 0),?_,rfl⟩;have hlen:ns.length=vs.length:=by rw[hvs'];simp
       have:=vH hvs;have hlt:i.toNat<ns.length:=by omega
       subst hvs';simp[part,vY hag,bb,hlt]
      ·cases hv'
     ·split at hv'
      ·rename_i k' hag hk;split at hv'
       ·rename_i xs hn hxs;cases hv';obtain rfl:=of_decide_eq_true hn;obtain⟨h1,h2,h3⟩:=A0B hxs hvs;have hi:i.toNat<xs.length:=by omega
        obtain⟨c,hR,hc'⟩:=h3 _ hi;have hcl:=v7 hR;refine⟨.agg ((vs.drop (i.toNat*k'.sz)).take k'.sz).toArray,?_,(vs.drop (i.toNat*k'.sz)).take k'.sz,rfl,?_⟩;·simp[part,vY hag,uK hz,xw,qr]
        ·have he:(vs.drop (i.toNat*k'.sz)).take k'.sz=c:=by
          apply List.ext_getElem?;intro j;rcases gw j k'.sz with hj|hj
          ·rw[gv,if_pos hj,ft];exact hc' j (by omega)
          ·rw[gv,if_neg (by omega),li (by omega)]
         rw[he];have hx:xs.getD i.toNat k'.dflt=xs[i.toNat]:=by simp[bb,hi]
         rw[hx];exact wL hR
       ·exact A0r hv' hvs
      ·rename_i hag hk;split at hv'
       ·rename_i bs hn hbs;cases hv';obtain rfl:=of_decide_eq_true hn;obtain⟨h1,h2,h3⟩:=A0B hbs hvs;have hi:i.toNat<bs.length:=by omega
        obtain⟨c,hR,hc'⟩:=h3 _ hi;simp only[Kd.R] at hR;subst hR;have h0:=hc' 0 (by simp[Kd.sz]);simp only[Kd.sz,mf,ee,gh] at h0;have hx:bs.getD i.toNat false=bs[i.toNat]:=by simp[bb,hi]
        refine⟨.bool bs[i.toNat],?_,by rw[hx];rfl⟩;simp[part,vY hag,h0]
       ·exact A0r hv' hvs
      ·exact A0r hv' hvs
    obtain⟨u,hu',hr⟩:=key;refine⟨u,?_,hr⟩;simp[vh,asIntOf,run_underlying hu,hc.1,hc.2,uK hz,hu']
   ·cases hst
  ·cases hst
 ·cases hst
def A2S (P:Program) (H:tG) (t:TypeId) (x:CV) (i:Int):Option (CV×List Prop):=
 match P.underlying t with
 |some (.slice elem)=>match u7 P elem,x with
  |some n,.h m=>match tJ H m with
   |some (.row k xs)=>if n=k.sz then some (.elt m k.sz i.toNat 0,[0<=i,i<(xs.length:Int)]) else none
   |some (.sets ls none)=>if n=1 then some (.elt m 1 i.toNat 0,[0<=i,i<(ls.length:Int)]) else none
   |some (.sets ls (some _))=>if n=1 then some (.elt m 1 i.toNat 0,[0<=i,i<((ls.length+1:Nat):Int)]) else none
   |some (.arow _ xs)=>if n=5 then some (.elt m 5 i.toNat 0,[0<=i,i<(xs.length:Int)]) else none
   |some (.aown xs)=>if n=5 then some (.elt m 5 i.toNat 0,[0<=i,i<(xs.length:Int)]) else none
   |some (.apend _ _ xs)=>if n=5 then some (.elt m 5 i.toNat 0,[0<=i,i<(xs.length:Int)]) else none
   |_=>none
  |some n,.sub m sz lo len=>if n=sz then some (.elt m sz (lo+i.toNat) 0,[0<=i,i<(len:Int)]) else none
  |some n,.imm (.slice k) xs=>if n=k.sz then some (.ielt k ((xs:List k.ty).getD i.toNat k.dflt),[0<=i,i<((xs:List k.ty).length:Int)]) else none
  |some _,.val (.slice none 0 0)=>(wB P 12 elem).map λk=>(.ielt k (([]:List k.ty).getD i.toNat k.dflt),[0<=i,i<((0:Nat):Int)])
  |some _,.zc=>(wB P 12 elem).map λk=>(.ielt k (([]:List k.ty).getD i.toNat k.dflt),[0<=i,i<((0:Nat):Int)])
  |_,_=>none
 |some (.array len elem)=>match u7 P elem,x with
  |some n,.h m=>match tJ H m with
   |some (.box _)=>some (.cell m (i.toNat*n),[0<=i,i<(len:Int)])
   |_=>none
  |some n,.cell m o=>some (.cell m (o+i.toNat*n),[0<=i,i<(len:Int)])
  |some n,.elt m sz 0 0=>match tJ H m with
   |some (.row k xs)=>if n=sz/\sz=k.sz then some (.elt m sz i.toNat 0,[0<=i,i<(len:Int),i<(xs.length:Int)]) else none
   |_=>none
  |_,_=>none
 |_=>none
theorem xF {n:Nat} (hu:P.underlying t=some (.slice elem)) (hz:u7 P elem=some n) {k:IntKind} (h0:0<=i) (h1:i<(len:Int)) (w:World) :
 (ph t (.slice (some ⟨b,off,none⟩) len cap) (.int k i)).run P w=.ok (.pointer (some ⟨b,off+i.toNat*n,none⟩)) w:=by
 simp[ph,asIntOf,run_underlying hu,h0,h1,uK hz,im]
theorem A2I {n:Nat} (hu:P.underlying t=some (.array len elem)) (hz:u7 P elem=some n) {k:IntKind} (h0:0<=i) (h1:i<(len:Int)) (w:World) :
 (ph t (.pointer (some ⟨b,off,none⟩)) (.int k i)).run P w=.ok (.pointer (some ⟨b,off+i.toNat*n,none⟩)) w:=by
 simp[ph,asIntOf,run_underlying hu,h0,h1,uK hz,im,kv]
theorem A19 {xs:List aK.ty} {q:Option (Nat×List cK.ty)} (h:ArR O w v m xs q) (h1:0<=i) (h2:i<(xs.length:Int)) :
 ∃b off cap,hd v=.slice (some ⟨b,off,none⟩) xs.length cap/\xs.length<=cap:=by
 obtain⟨A,cap,vs,rfl,_,_,_,_,hr⟩:=h;rcases hr with⟨_,rfl⟩|⟨_,hl,b,off,_,_,rfl,_⟩;·simp at h2;omega
 ·exact⟨b,off,cap,rfl,hl⟩
theorem A33 (h:uO w σ v ls last) (h1:0<=i) (h2:i<((ls.length+last.toList.length:Nat):Int)) :
 ∃b off cap,hd v=.slice (some ⟨b,off,none⟩) (ls.length+last.toList.length) cap/\ls.length+last.toList.length<=cap:=by
 obtain⟨A,cap,vs,rfl,_,hl0,_,_,hr⟩:=h;rw[<-hl0] at h2 ⊢;rcases hr with⟨_,rfl⟩|⟨_,hl,b,off,_,_,rfl,_⟩;·simp at h2;omega
 ·exact⟨b,off,cap,rfl,hl⟩
theorem A7I (h:tK C σ H w) {q:CV} {k:IntKind} (hst:A2S P H t x i=some (q,cs)) (hc:tL cs)
 (hx:CVr (Ow C.G H σ) w σ x v):∃u,(ph t v (.int k i)).run P w=.ok u w/\CVr (Ow C.G H σ) w σ q u:=by
 unfold A2S at hst;split at hst
 ·rename_i elem hu;split at hst
  ·rename_i n m hz;split at hst
   ·rename_i k' xs hm;split at hst
    ·rename_i hn;cases hst;simp only[tL] at hc;cases hx;obtain⟨A,cap,hs,hl,hr⟩:=wO (h.ent _ (tI hm));have hi:i.toNat<xs.length:=by omega
     obtain⟨b,off,c,rfl,hR,hcell⟩:=hr _ hi;rw[xT hs];exact⟨_,xF hu hz hc.1 hc.2 w,b,off,_,cap,xT hs,hi,by rw[hn,ee]⟩
    ·cases hst
   ·rename_i ls hm;split at hst
    ·rename_i hn;cases hst;simp only[tL] at hc;cases hx;obtain⟨b,off,cap,hs,hl⟩:=A33 (h.ent _ (tI hm)) hc.1 (by simpa using hc.2);simp only[Option.toList_none,eb,ee] at hs;rw[show hd (σ m)=_ from hs];exact⟨_,xF hu hz hc.1 hc.2 w,b,off,_,cap,hs,by omega,by rw[hn,ee]⟩
    ·cases hst
   ·rename_i ls m' hm;split at hst
    ·rename_i hn;cases hst;simp only[tL] at hc;cases hx;obtain⟨b,off,cap,hs,hl⟩:=A33 (h.ent _ (tI hm)) hc.1 (by simpa using hc.2);rw[show hd (σ m)=_ from hs];exact⟨_,xF hu hz hc.1 hc.2 w,b,off,_,cap,hs,by simp;omega,by rw[hn,ee]⟩
    ·cases hst
   ·rename_i m' xs hm;split at hst
    ·rename_i hn;cases hst;simp only[tL] at hc;cases hx;obtain⟨b,off,cap,hs,hl⟩:=A19 (h.ent _ (tI hm)) hc.1 hc.2;rw[show hd (σ m)=_ from hs];exact⟨_,xF hu hz hc.1 hc.2 w,b,off,_,cap,hs,by omega,by rw[hn,ee]⟩
    ·cases hst
   ·rename_i xs hm;split at hst
    ·rename_i hn;cases hst;simp only[tL] at hc;cases hx;obtain⟨b,off,cap,hs,hl⟩:=A19 (h.ent _ (tI hm)) hc.1 hc.2;rw[show hd (σ m)=_ from hs];exact⟨_,xF hu hz hc.1 hc.2 w,b,off,_,cap,hs,by omega,by rw[hn,ee]⟩
    ·cases hst
   ·rename_i i' zs xs hm;split at hst
    ·rename_i hn;cases hst;simp only[tL] at hc;cases hx;obtain⟨b,off,cap,hs,hl⟩:=A19 (And.left (h.ent _ (tI hm))) hc.1 hc.2;rw[show hd (σ m)=_ from hs];exact⟨_,xF hu hz hc.1 hc.2 w,b,off,_,cap,hs,by omega,by rw[hn,ee]⟩
    ·cases hst
   ·cases hst
  ·rename_i n m sz lo len hz;split at hst
   ·rename_i hn;cases hst;simp only[tL] at hc;obtain⟨A,l,cap,A',cap',hs,rfl,hlen,hlo,hcap⟩:=hx;obtain⟨_,b,off,rfl,rfl⟩:=hcap (by omega);refine⟨_,xF hu hz hc.1 hc.2 w,b,off,_,cap,hs,by omega,?_⟩;rw[hn,ey,ee,lc]
   ·cases hst
  ·rename_i n k' xs hz;split at hst
   ·rename_i hn;cases hst;simp only[tL] at hc;simp only[CVr,Kd.R] at hx;obtain⟨A,cap,hv,hl,hr⟩:=hx;simp only[ia,and_true] at hv;subst hv;have hi:i.toNat<(xs:List k'.ty).length:=by omega
    obtain⟨b,off,c,rfl,hb,hR,hcell⟩:=hr _ hi;refine⟨_,xF hu hz hc.1 hc.2 w,b,_,c,rfl,hb,?_,?_⟩;·simpa[bb,bj hi] using hR
    ·rw[hn];exact hcell
   ·cases hst
  ·obtain⟨_,_,e⟩:=bf.1 hst;cases e;simp only[tL] at hc;omega
  ·obtain⟨_,_,e⟩:=bf.1 hst;cases e;simp only[tL] at hc;omega
  ·cases hst
 ·rename_i len elem hu;split at hst
  ·rename_i n m hz;split at hst
   ·rename_i cs' hm;cases hst;simp only[tL] at hc;cases hx;obtain⟨b,c,e,hs,_⟩:=h.ent _ (tI hm);rw[hs.hd];exact⟨_,A2I hu hz hc.1 hc.2 w,b,hs.hd,by simp⟩
   ·cases hst
  ·rename_i n m o hz;cases hst;simp only[tL] at hc;obtain⟨b,hs,rfl⟩:=hx;exact⟨_,A2I hu hz hc.1 hc.2 w,b,hs,rfl⟩
  ·rename_i n m sz hz;split at hst
   ·rename_i k' xs hm;split at hst
    ·rename_i hn;obtain⟨rfl,hn⟩:=hn;cases hst;simp only[tL] at hc;obtain⟨b,off,l,cap,hs,hl,rfl⟩:=hx;obtain⟨A,cap2,hs2,_⟩:=h.ent _ (tI hm);have hs3:hd (σ m)=.slice A xs.length cap2:=xT hs2;rw[hs] at hs3;injection hs3 with h1 h2 h3;refine⟨_,A2I hu hz hc.1 hc.2.1 w,b,off,l,cap,hs,by omega,by simp⟩
    ·cases hst
   ·cases hst
  ·cases hst
 ·cases hst
def u5 (n:Nat) (lo hi:Option Int):Nat×Nat×List Prop:=
 match lo,hi with
 |none,none=>(0,n,[])
 |some l,none=>(l.toNat,n,[0<=l,l<=n])
 |none,some h=>(0,h.toNat,[0<=h,h<=n])
 |some l,some h=>(l.toNat,h.toNat,[0<=l,l<=h,h<=n])
theorem zT {n:Nat} (h:tL (u5 n lo hi).2.2):(u5 n lo hi).1<=(u5 n lo hi).2.1/\(u5 n lo hi).2.1<=n:=by cases lo<;>cases hi<;>simp only[u5,tL] at h ⊢ <;>omega
theorem A4c {n:Nat} (hcap:n<=cap) (h:tL (u5 n lo hi).2.2) (isSlice:Bool) (w:World) :
 (lr isSlice n cap (lo.map (dh kl)) (hi.map (dh kh)) none).run P w=.ok ((u5 n lo hi).1,(u5 n lo hi).2.1,cap) w:=by
 have key:∀(k:IntKind) (i:Int) (y:Nat) (code:BoundsCode),0<=i->i<=(y:Int)->(qt (.int k i) y code).run P w=.ok i.toNat w:=by intro k i y code h0 h1;simp[qt,asIntOf,h0,h1]
 cases lo<;>cases hi<;>simp only[u5,tL] at h ⊢;·simp[lr]
 ·rename_i hh;simp[lr,key kh hh cap _ h.1 (by omega)]
 ·rename_i l;simp[lr,key kl l n _ h.1 h.2]
 ·rename_i l hh;simp[lr,key kh hh cap _ (by omega) (by omega),key kl l hh.toNat _ h.1 (by omega)]
def A2b {α:Type} (xs:List α) (lo hi:Option Int):List α:=
 match lo,hi with
 |none,none=>xs
 |some l,none=>xs.drop l.toNat
 |none,some h=>xs.take h.toNat
 |some l,some h=>(xs.take h.toNat).drop l.toNat
theorem A7e {xs:List α} (h:tL (u5 xs.length lo hi).2.2) :
 A2b xs lo hi=(xs.drop (u5 xs.length lo hi).1).take ((u5 xs.length lo hi).2.1-(u5 xs.length lo hi).1):=by
 cases lo<;>cases hi<;>simp only[u5,tL,A2b] at h ⊢;·simp
 ·simp
 ·rename_i l;rw[fj (by simp)]
 ·rw[List.drop_take]
def A2V (P:Program) (H:tG) (t:TypeId) (x:CV) (lo hi:Option Int):Option (CV×List Prop):=
 match P.underlying t,x with
 |some .string,.val (.string s)=>some (.val (.string (s.extract (u5 s.size lo hi).1 (u5 s.size lo hi).2.1)),(u5 s.size lo hi).2.2)
 |some (.slice elem),.h m=>match tJ H m with
  |some (.row k xs)=>if u7 P elem=some k.sz then some (.sub m k.sz (u5 xs.length lo hi).1 ((u5 xs.length lo hi).2.1-(u5 xs.length lo hi).1),(u5 xs.length lo hi).2.2) else none
  |_=>none
 |some (.slice elem),.sub m sz l len=>if u7 P elem=some sz then some (.sub m sz (l+(u5 len lo hi).1) ((u5 len lo hi).2.1-(u5 len lo hi).1),(u5 len lo hi).2.2) else none
 |some (.slice elem),.imm (.slice k) xs=>if u7 P elem=some k.sz then some (.imm (.slice k) (A2b (α:=k.ty) xs lo hi),(u5 (xs:List k.ty).length lo hi).2.2) else none
 |some (.slice elem),.val (.slice none 0 0)=>if (u7 P elem).isSome then some (.zc,(u5 0 lo hi).2.2) else none
 |some (.slice elem),.zc=>if (u7 P elem).isSome then some (.zc,(u5 0 lo hi).2.2) else none
 |some (.array len elem),.elt m sz 0 0=>match tJ H m,lo,hi with
  |some (.row _ xs),none,none=>if u7 P elem=some sz/\0<len then some (.sub m sz 0 len,[(len:Int)<=(xs.length:Int)]) else none
  |_,_,_=>none
 |_,_=>none
theorem A6p {sz n:Nat} (hu:P.underlying t=some (.array n elem)) (hz:u7 P elem=some sz) (hn:0<n) (w:World) :
 (ly t (.pointer (some ⟨b,off,none⟩)) none none none).run P w=.ok (.slice (some ⟨b,off,none⟩) n n) w:=by
 have h0:¬n=0:=by omega
 simp[ly,run_underlying hu,kv,lr,uK hz,h0,im]
theorem A0E {sz:Nat} (hu:P.underlying t=some (.slice elem)) (hz:u7 P elem=some sz) {n:Nat} (hcap:n<=cap)
 (h:tL (u5 n lo hi).2.2) (w:World):(ly t (.slice A n cap) (lo.map (dh kl)) (hi.map (dh kh)) none).run P w =
  .ok (.slice (if cap=(u5 n lo hi).1 then A else A.map (·.add ((u5 n lo hi).1*sz))) ((u5 n lo hi).2.1-(u5 n lo hi).1) (cap-(u5 n lo hi).1)) w:=by
 simp[ly,run_underlying hu,vi,A4c hcap h,uK hz]
theorem A6q (hu:P.underlying t=some .string) {s:ByteArray} (h:tL (u5 s.size lo hi).2.2) (w:World) :
 (ly t (.string s) (lo.map (dh kl)) (hi.map (dh kh)) none).run P w=.ok (.string (s.extract (u5 s.size lo hi).1 (u5 s.size lo hi).2.1)) w:=by
 simp[ly,run_underlying hu,vi,A4c (bp _) h]
theorem A7Y (h:tK C σ H w) {q:CV} (hst:A2V P H t x lo hi=some (q,cs)) (hc:tL cs)
 (hx:CVr (Ow C.G H σ) w σ x v):∃u,(ly t v (lo.map (dh kl)) (hi.map (dh kh)) none).run P w=.ok u w/\CVr (Ow C.G H σ) w σ q u:=by
 unfold A2V at hst;split at hst
 ·rename_i s hu;cases hst;cases hx;exact⟨_,A6q hu hc w,rfl⟩
 ·rename_i elem m hu;split at hst
  ·rename_i k xs hm;split at hst
   ·rename_i hz;cases hst;cases hx;obtain⟨A,cap,hs,hrr⟩:=h.ent _ (tI hm);have hl:xs.length<=cap:=by
     rcases hrr with⟨rfl,rfl⟩|⟨_,hl,_⟩;·exact bp _
     ·exact hl
    have hcut:=zT hc;rw[xT hs];refine⟨_,A0E hu hz hl hc w,A,_,cap,_,_,xT hs,rfl,by omega,by omega,λhp=>⟨by omega,?_⟩⟩;rcases hrr with⟨rfl,rfl⟩|⟨_,_,b,off,c,e,rfl,_⟩;·omega
    ·refine⟨b,off,rfl,?_⟩;rw[if_neg (by omega)];simp[im]
   ·cases hst
  ·cases hst
 ·rename_i elem m sz l len hu;split at hst
  ·rename_i hz;cases hst;obtain⟨A,n,cap,A',cap',hs,rfl,hlen,hlo,hcap⟩:=hx;have hcut:=zT hc;refine⟨_,A0E hu hz hlen hc w,A,n,cap,_,_,hs,rfl,by omega,by omega,λhp=>?_⟩;obtain⟨h1,b,off,rfl,rfl⟩:=hcap (by omega);refine⟨by omega,b,off,rfl,?_⟩;rw[if_neg (by omega)];simp[im,ey,lc]
  ·cases hst
 ·rename_i elem k xs hu;split at hst
  ·rename_i hz;cases hst;simp only[CVr,Kd.R] at hx;obtain⟨A,cap,hv,hl,hr⟩:=hx;simp only[ia,and_true] at hv;subst hv;have hcut:=zT hc;refine⟨_,A0E hu hz hl hc w,?_⟩;simp only[CVr,Kd.R];rw[A7e hc];have hlen:(((xs:List k.ty).drop (u5 (xs:List k.ty).length lo hi).1).take ((u5 (xs:List k.ty).length lo hi).2.1-(u5 (xs:List k.ty).length lo hi).1)).length=(u5 (xs:List k.ty).length lo hi).2.1-(u5 (xs:List k.ty).length lo hi).1:=by
    simp;omega
   refine⟨_,_,by rw[hlen],by rw[hlen];omega,λi hi'=>?_⟩;rw[hlen] at hi';obtain⟨b,off,c,rfl,hb,hR,hcell⟩:=hr ((u5 (xs:List k.ty).length lo hi).1+i) (by omega);refine⟨b,off+(u5 (xs:List k.ty).length lo hi).1*k.sz,c,?_,hb,?_,λj hj=>?_⟩
   ·rw[if_neg (by omega)];simp[im]
   ·simpa using hR
   ·rw[<-hcell j hj];congr 2;rw[ey];omega
  ·cases hst
 ·rename_i elem hu;split at hst
  ·rename_i hz;obtain⟨sz,hz⟩:=fz.1 hz;cases hst;cases hx;have hcut:=zT hc;have:=A0E (P:=P) (kl:=kl) (kh:=kh) hu hz (A:=none) (bp 0) hc w;rw[show (u5 0 lo hi).2.1-(u5 0 lo hi).1=0 by omega,show 0-(u5 0 lo hi).1=0 by omega] at this;exact⟨_,this,_,rfl⟩
  ·cases hst
 ·rename_i elem hu;split at hst
  ·rename_i hz;obtain⟨sz,hz⟩:=fz.1 hz;cases hst;obtain⟨A,rfl⟩:=hx;have hcut:=zT hc;have:=A0E (P:=P) (kl:=kl) (kh:=kh) hu hz (A:=A) (bp 0) hc w;rw[show (u5 0 lo hi).2.1-(u5 0 lo hi).1=0 by omega,show 0-(u5 0 lo hi).1=0 by omega] at this;exact⟨_,this,_,rfl⟩
  ·cases hst
 ·rename_i len elem m sz hu;split at hst
  ·rename_i k' xs hm;split at hst
   ·rename_i hz;obtain⟨hz,hn⟩:=hz;cases hst;simp only[tL] at hc;obtain⟨b,off,l,cap,hs,hl,rfl⟩:=hx;obtain⟨A,cap2,hs2,hr⟩:=h.ent _ (tI hm);have hs3:hd (σ m)=.slice A xs.length cap2:=xT hs2;have hcap:xs.length<=cap2:=by
     rcases hr with⟨rfl,rfl⟩|⟨_,hle,_⟩;·exact bp _
     ·exact hle
    rw[hs] at hs3;injection hs3 with h1 h2 h3;refine⟨_,A6p hu hz hn w,some ⟨b,off,none⟩,l,cap,some ⟨b,off+0*sz+0,none⟩,len,hs,rfl,bp _,by omega,λ_=>⟨by omega,b,off,rfl,by simp⟩⟩
   ·cases hst
  ·cases hst
 ·cases hst
theorem A6r {sz:Nat} (hu:P.underlying t=some (.slice elem)) (hz:u7 P elem=some sz) {n:Nat} {km:IntKind} (w:World) :
 (ly t (.slice A n cap) none (some (.int kh 0)) (some (.int km 0))).run P w=.ok (.slice A 0 0) w:=by
 simp[ly,run_underlying hu,vi,lr,qt,asIntOf,uK hz]
def tP (xs:List Int):ByteArray:=⟨(xs.map λn=>cw n.toNat).toArray⟩
theorem A63 (xs:List Int) (s:ByteArray):xs.foldl (λr n=>r.push (cw n.toNat)) s=⟨s.data++(xs.map λn=>cw n.toNat).toArray⟩:=by
 induction xs generalizing s with
 |nil=>simp
 | cons n xs ih =>
   rw[fk,ih];congr 1;show s.data.push _++_=_;apply ip;simp
theorem A6k {ik:IntKind} (hik:ik=.u8) {xs:List Int} (h:xI O w (.int ik) A xs) :
 (tp (.slice A xs.length cap)).run P w=.ok (.string (tP xs)) w:=by
 subst hik;cases xs with
 | nil =>
   cases A with
   |none=>simp[tp,tP];rfl
   | some a =>
     have hl:(loadCells a 0).run P w=.ok #[] w:=by simp[loadCells,loadCellsFrom]
     have:=run_bytesToString (P:=P) w a 0 cap [] (by simpa using hl);exact this
 | cons x xs =>
   obtain⟨b,off,c,rfl,_,_⟩:=h 0 (by simp);have hl:=run_loadCells_list (P:=P) w ⟨b,off,none⟩ ((x::xs).map (dh .u8)) (λj v hv=>by rw[fu] at hv;obtain⟨n,hn,rfl⟩:=bf.1 hv;obtain⟨hj,hn⟩:=dt.1 hn;obtain⟨b',off',c',e,hR,hcell⟩:=h j hj;injection e with e;injection e with e1 e2 _;subst e1 e2;have h0:=hcell 0 (by simp[Kd.sz]);simp only[Kd.R] at hR;subst hR;rw[im];simp only[Kd.sz,mf,ee,gh] at h0;rw[h0];simp[<-hn])
   rw[du] at hl;rw[run_bytesToString w ⟨b,off,none⟩ _ cap (x::xs) hl,A63];simp[tP,cc,ByteArray.emptyWithCapacity];rfl
def A1b (d:Option TypeDesc):CV->CV->Option Bool
 |.val (.int k a),.val (.int k' b)=>match d with
  |some (.int _)=>if k=k' then some (a==b) else none
  |_=>none
 |.val (.string a),.val (.string b)=>match d with
  |some .string=>some (a.toList==b.toList)
  |_=>none
 |.val (.bool a),.val (.bool b)=>match d with
  |some .bool=>some (a==b)
  |_=>none
 |_,_=>none
theorem A5w {b:Bool} (h:A1b (P.underlying t) x y=some b) (hx:CVr O w σ x u) (hy:CVr O w σ y v) (d:Nat) :
 (mo (d+1) t u v).run P w=.ok b w:=by
 unfold A1b at h;split at h
 ·split at h
  ·rename_i k' hu;split at h
   ·rename_i e;subst e;cases h;cases hx;cases hy;exact run_equalIn_int w d t _ _ _ _ hu
   ·cases h
  ·cases h
 ·split at h
  ·rename_i hu;cases h;cases hx;cases hy;exact run_equalIn_string w d t _ _ hu
  ·cases h
 ·split at h
  ·rename_i hu;cases h;cases hx;cases hy;exact run_equalIn_bool' w d t _ _ hu
  ·cases h
 ·cases h
def A0h (P:Program) (xs ys:List CV) (f:Field):Option Bool:=
 if f.name = "_" then none else
 match vE P f.type,xs[f.offset]?,ys[f.offset]? with
 |some false,some x,some y=>A1b (P.underlying f.type) x y
 |_,_,_=>none
def A0i (P:Program) (xs ys:List CV):List Field->Option Bool
 |[]=>some true
 |[f]=>A0h P xs ys f
 | f :: g :: fs => match A0h P xs ys f,A0i P xs ys (g :: fs) with
     |some a,some b=>some (a&&b)
     |_,_=>none
theorem A3Y {xs ys:List CV} {f:Field} {b:Bool} (h:A0h P xs ys f=some b) (hx:CVs O w σ xs us) (hy:CVs O w σ ys vs) (d:Nat) (fs:List Field) :
 (pj (d+1) us.toArray vs.toArray (f::fs)).run P w=if b then (pj (d+1) us.toArray vs.toArray fs).run P w else .ok false w:=by
 unfold A0h at h;split at h;·cases h
 ·rename_i hn;split at h
  ·rename_i x y ha hxo hyo;obtain⟨u,hu,hru⟩:=wU hx hxo;obtain⟨v,hv,hrv⟩:=wU hy hyo;have he:=A5w (P:=P) h hru hrv d;have hpu:(part f.type us.toArray f.offset).run P w=.ok u w:=by simp[part,vY ha,hu]
   have hpv:(part f.type vs.toArray f.offset).run P w=.ok v w:=by simp[part,vY ha,hv]
   simp only[pj];rw[if_pos (by simpa using hn)];simp only[fp,hpu,hpv,ed,he];cases b<;>simp
  ·cases h
theorem A3Z {O:Nat->Prop} {w:World} {σ:Nat->Value} {xs ys:List CV} {us vs:List Value} (hx:CVs O w σ xs us) (hy:CVs O w σ ys vs) (d:Nat):∀{fs:List Field} {b:Bool},A0i P xs ys fs=some b->
 (pj (d+1) us.toArray vs.toArray fs).run P w=.ok b w
 |[],b,h=>by cases h;simp[pj]
 | [f],b,h => by rw[A3Y h hx hy d []];cases b<;>simp[pj]
 | f :: g :: fs,b,h => by
   simp only[A0i] at h;split at h
   ·rename_i a b' h1 h2;cases h;rw[A3Y h1 hx hy d,A3Z hx hy d h2];cases a<;>simp
   ·cases h
def A1c (P:Program) (t:TypeId) (xs ys:List CV):Option Bool:=
 if P.eqGuardType P.depth t=false/\P.stoodInHeld t=false then
  match P.underlying t with
  |some (.struct fs)=>A0i P xs ys fs.toList
  |_=>none
 else none
theorem A3a {xs ys:List CV} {b:Bool} (h:A1c P t xs ys=some b) (hx:CVs O w σ xs us) (hy:CVs O w σ ys vs) :
 (mo 10000 t (.agg us.toArray) (.agg vs.toArray)).run P w=.ok b w/\P.eqGuardType P.depth t=false:=by
 unfold A1c at h;split at h
 ·rename_i hg;split at h
  ·rename_i fs hu;have e:P.fieldsOf t=fs:=by simp[Program.fieldsOf,hu]
   refine⟨?_,hg.1⟩;rw[run_equalIn_struct w 9999 t us.toArray vs.toArray (by rw[e];exact hu) hg.2,e];exact A3Z hx hy 9998 h
  ·cases h
 ·cases h
theorem A4a (hu:P.underlying t=some (.pointer e)) (A:Option Addr) (d:Nat) (w:World) :
 (mo (d+1) t (.pointer A) (.pointer none)).run P w=.ok A.isNone w/\(mo (d+1) t (.pointer none) (.pointer A)).run P w=.ok A.isNone w:=by
 cases A<;>simp[mo,run_underlying hu]
theorem A4W (op:BinOp) (t:TypeId) (x y:Operand) (A B:Option Addr) (w:World):(eqGuard op t x y (.pointer A) (.pointer B)).run P w=.ok () w:=by cases op<;>simp[eqGuard]
theorem A4V (t:TypeId) (A B:Option Addr) (b:Bool) (w:World) (h:(mo 10000 t (.pointer A) (.pointer B)).run P w=.ok b w) :
 (binOp .eql t (.pointer A) (.pointer B)).run P w=.ok (.bool b) w/\(binOp .neq t (.pointer A) (.pointer B)).run P w=.ok (.bool (!b)) w:=by
 constructor<;>simp[binOp,ud,qd,h]
def A4K (P:Program) (t:TypeId):Bool:=
 match P.underlying t with
 |some (.pointer _)=>true
 |_=>false
def A2A (P:Program) (H:tG) (op:BinOp) (t:TypeId) (x y:CV):Option Ans:=
 if A4K P t then
  match A02 H x,A02 H y,op with
  |some a,some true,.eql=>some (uP a,[])
  |some a,some true,.neq=>some (uP (!a),[])
  |some true,some b,.eql=>some (uP b,[])
  |some true,some b,.neq=>some (uP (!b),[])
  |_,_,_=>none
 else none
theorem A6d (h:tK C σ H w) {s:SV} (ho:A2A P H op t x y=some (s,cs))
 (hx:CVr (Ow C.G H σ) w σ x u) (hy:CVr (Ow C.G H σ) w σ y v) (ox oy:Operand) :
 ∃r,s=.c (.val r)/\(eqGuard op t ox oy u v).run P w=.ok () w/\(binOp op t u v).run P w=.ok r w:=by
 unfold A2A at ho;split at ho
 ·rename_i ht;obtain⟨e,hu⟩:∃e,P.underlying t=some (.pointer e):=by
   unfold A4K at ht;split at ht;·exact⟨_,by assumption⟩
   ·cases ht
  split at ho<;>first
   |(cases ho;done)
   | (rename_i h1 h2
      obtain⟨A,rfl,hA⟩:=A3z h h1 hx
      obtain⟨B,rfl,hB⟩:=A3z h h2 hy
      cases ho
      first
       | (have e:B=none := by simpa using hB
          subst e
          have:=A4V t A none _ w (A4a hu A 9999 w).1
          exact⟨_,rfl,A4W _ t ox oy A none w,by first|(rw[<-hA];exact this.1)|(rw[<-hA];exact this.2)⟩)
       | (have e:A=none := by simpa using hA
          subst e
          have:=A4V t none B _ w (A4a hu B 9999 w).2
          exact⟨_,rfl,A4W _ t ox oy none B w,by first|(rw[<-hB];exact this.1)|(rw[<-hB];exact this.2)⟩))
 ·cases ho
def A20 (P:Program) (op:BinOp) (t:TypeId):Option Ans:=
 match P.underlying t,op with
 |some (.slice _),.eql=>some (uP true,[])
 |some (.slice _),.neq=>some (uP false,[])
 |_,_=>none
theorem A4Y {n:Nat} (hu:P.underlying t=some (.slice e)):(mo (n+1) t (.slice none 0 0) (.slice none 0 0)).run P w=.ok true w:=by simp[mo,run_underlying hu]
theorem A4U (t:TypeId) (b:Bool) (w:World) (h:(mo 10000 t (.slice none 0 0) (.slice none 0 0)).run P w=.ok b w) :
 (binOp .eql t (.slice none 0 0) (.slice none 0 0)).run P w=.ok (.bool b) w/\(binOp .neq t (.slice none 0 0) (.slice none 0 0)).run P w=.ok (.bool (!b)) w:=by
 constructor<;>simp[binOp,ud,qd,h]
theorem A6X {s:SV} (ho:A20 P op t=some (s,cs)) (ox oy:Operand) (w:World) :
 ∃r,s=.c (.val r)/\(eqGuard op t ox oy (.slice none 0 0) (.slice none 0 0)).run P w=.ok () w/\(binOp op t (.slice none 0 0) (.slice none 0 0)).run P w=.ok r w:=by
 unfold A20 at ho;split at ho
 ·rename_i hu;cases ho;exact⟨_,rfl,by simp[eqGuard],(A4U t true w (A4Y (n:=9999) hu)).1⟩
 ·rename_i hu;cases ho;exact⟨_,rfl,by simp[eqGuard],(A4U t true w (A4Y (n:=9999) hu)).2⟩
 ·cases ho
def A2L (P:Program) (H:tG) (op:BinOp) (t:TypeId) (x y:SV):Option Ans:=
 match x,y with
 |.c (.val (.int k a)),.c (.val (.int k' b))=>A1k op k k' a b
 |.c (.val (.string a)),.c (.val (.string b))=>A2a op a b
 |.c (.val (.bool a)),.c (.val (.bool b))=>A1Q P op t a b
 |.c (.val (.slice none 0 0)),.c (.val (.slice none 0 0))=>A20 P op t
 |.c x,.c y=>A2A P H op t x y
 |.agg xs,.agg ys=>match op,A1c P t xs ys with
  |.eql,some b=>some (uP b,[])
  |.neq,some b=>some (uP (!b),[])
  |_,_=>none
 |_,_=>none
theorem A76 (h:tK C σ H w) {x y s:SV} (ho:A2L P H op t x y=some (s,cs)) (hc:tL cs)
 (hx:SVr (Ow C.G H σ) w σ x u) (hy:SVr (Ow C.G H σ) w σ y v) (ox oy:Operand) :
 ∃r,(do eqGuard op t ox oy u v;binOp op t u v:Sem Value).run P w=.ok r w/\SVr (Ow C.G H σ) w σ s r:=by
 unfold A2L at ho;split at ho
 ·cases hx;cases hy;obtain⟨r,rfl,hr⟩:=A6C (P:=P) ho hc t w;exact⟨r,by simp[A6l,hr],rfl⟩
 ·cases hx;cases hy;obtain⟨r,rfl,hr⟩:=A7d (P:=P) ho hc t w;exact⟨r,by simp[A6m,hr],rfl⟩
 ·cases hx;cases hy;obtain⟨r,rfl,hg,hr⟩:=A5o ho ox oy w;exact⟨r,by simp[hg,hr],rfl⟩
 ·cases hx;cases hy;obtain⟨r,rfl,hg,hr⟩:=A6X (P:=P) ho ox oy w;exact⟨r,by simp[hg,hr],rfl⟩
 ·obtain⟨r,rfl,hg,hr⟩:=A6d h ho hx hy ox oy;exact⟨r,by simp[hg,hr],rfl⟩
 ·obtain⟨us,rfl,hus⟩:=hx;obtain⟨vs,rfl,hvs⟩:=hy;split at ho
  ·rename_i b hb;cases ho;obtain⟨hr,hg⟩:=A3a hb hus hvs;exact⟨_,by simp[run_eqGuard_agg w _ t ox oy _ _ hg,run_eql_struct,hr],rfl⟩
  ·rename_i b hb;cases ho;obtain⟨hr,hg⟩:=A3a hb hus hvs;exact⟨_,by simp[run_eqGuard_agg w _ t ox oy _ _ hg,run_neq_struct,hr],rfl⟩
  ·cases ho
 ·cases ho
def A2X (op:UnOp) (x:CV):Option CV:=
 match op,x with
 |.neg,.val (.int k n)=>some (.val (.int k (k.wrap (0-n))))
 |.not,.val (.bool b)=>some (.val (.bool (!b)))
 |_,_=>none
theorem A7Z {op:UnOp} (h:A2X op x=some y) (hx:CVr O w σ x v):∃u,(ze op v).run P w=.ok u w/\CVr O w σ y u:=by
 unfold A2X at h;split at h;·cases h;cases hx;exact⟨_,by simp[ze,sg],rfl⟩
 ·cases h;cases hx;exact⟨_,by simp[ze],rfl⟩
 ·cases h
def A2O (P:Program) (H:tG) (src dst:TypeId) (x:CV):Option CV:=
 match P.underlying src,P.underlying dst with
 |some (.int _),some (.int k)=>match x with
  |.val (.int _ n)=>some (.val (.int k (k.wrap n)))
  |_=>none
 |some .string,some .string=>match x with
  |.val (.string s)=>some (.val (.string s))
  |_=>none
 |some (.int _),some .string=>match x with
  |.val (.int _ n)=>some (.val (.string (Utf8.encode n)))
  |_=>none
 |some (.slice e),some .string=>match P.underlying e,w9 H (.int .u8) x with
  |some (.int .u8),some xs=>some (.val (.string (tP xs)))
  |_,_=>none
 |_,_=>none
theorem A7B (h:tK C σ H w) {src dst:TypeId} (hs:A2O P H src dst x=some y) (hx:CVr (Ow C.G H σ) w σ x v) :
 ∃u,(convert src dst v).run P w=.ok u w/\CVr (Ow C.G H σ) w σ y u:=by
 unfold A2O at hs;split at hs
 ·rename_i h1 h2;split at hs;·cases hs;cases hx;exact⟨_,by simp[convert,run_underlying h1,run_underlying h2,Conv.intToInt],rfl⟩
  ·cases hs
 ·rename_i h1 h2;split at hs;·cases hs;cases hx;exact⟨_,by simp[convert,run_underlying h1,run_underlying h2],rfl⟩
  ·cases hs
 ·rename_i h1 h2;split at hs;·cases hs;cases hx;exact⟨_,by simp[convert,run_underlying h1,run_underlying h2,Conv.intToString],rfl⟩
  ·cases hs
 ·rename_i e h1 h2;split at hs
  ·rename_i xs he hc;cases hs;obtain⟨A,cap,rfl,_,hr⟩:=yJ h hc hx;exact⟨_,by rw[run_convert_bytes_string w src dst e A _ cap h1 he h2];exact A6k rfl hr,rfl⟩
  ·cases hs
 ·cases hs
def A2U (H:tG) (x:CV):Option (CV×List Prop):=
 match x with
 |.h m=>match tJ H m with
  |some (.box _)|some (.abox _ _ _ _)=>some (.h m,[])
  |_=>none
 |.imm (.opt k) y=>some (.ielt k ((y:Option k.ty).getD k.dflt),[(y:Option k.ty).isSome=true])
 |.cell m o=>some (.cell m o,[])
 |.elt m sz i o=>some (.elt m sz i o,[])
 |.ielt k y=>some (.ielt k y,[])
 |.clo f c=>some (.clo f c,[])
 |_=>none
def A1z (v:Value):Sem Next:=
 match v with
 |.pointer none|.nilIface|.nilFunc=>runtimePanic .nilDeref
 | .func (.method name) first captured =>
   match (first[0]?:Option Value) with
   |some .nilIface=>runtimePanic .nilDeref
   | some (.iface t w) => do
     if (<-nilAhead ((<-program).types.size+Made.depth) t w name) !=some false then
      unsupported (.noEntry "op/nilCheck.the method's receiver behind this interface value is a nil pointer, or cannot be seen to be none, and the arguments act or may panic (ledger 612)")
     pure (.value (.func (.method name) first captured))
   |_=>pure (.value (.func (.method name) first captured))
 |x=>pure (.value x)
theorem A7W (h:tK C σ H w) (hs:A2U H x=some (y,cs)) (hc:tL cs) (hx:CVr (Ow C.G H σ) w σ x v) :
 (A1z v).run P w=.ok (.value v) w/\CVr (Ow C.G H σ) w σ y v:=by
 unfold A2U at hs;split at hs
 ·rename_i m;split at hs
  ·rename_i cs hm;cases hs;obtain⟨b,c,e,hb,_⟩:=h.ent _ (tI hm);refine⟨?_,hx⟩;cases hx;rw[hb.hd];rfl
  ·rename_i hm;cases hs;obtain⟨_,b,c,e,hb,_⟩:=h.ent _ (tI hm);refine⟨?_,hx⟩;cases hx;rw[hb.hd];rfl
  ·cases hs
 ·rename_i k y;cases hs;simp only[tL] at hc;obtain⟨z,rfl⟩:=fz.1 hc;simp only[CVr,Kd.R] at hx;obtain⟨b,off,c,hv,hb,hR,hcell⟩:=hx;simp only[ia,and_true] at hv;subst hv;exact⟨rfl,b,off,c,rfl,hb,hR,hcell⟩
 ·cases hs;refine⟨?_,hx⟩;obtain⟨b,_,rfl⟩:=hx;rfl
 ·cases hs;refine⟨?_,hx⟩;obtain⟨_,_,_,_,_,_,rfl⟩:=hx;rfl
 ·cases hs;refine⟨?_,hx⟩;obtain⟨_,_,_,rfl,_⟩:=hx;rfl
 ·cases hs;refine⟨?_,hx⟩;cases hx;rfl
 ·cases hs
def mx2 (x y:Int):Int:=if y>x then y else x
def mn2 (x y:Int):Int:=if y<x then y else x
def A0l (k:IntKind) (Γ:Env):List Operand->Option (List Int)
 |[]=>some []
 | x :: xs => match evi Γ x with
     |some (k',n)=>if k'=k then (A0l k Γ xs).map (n::·) else none
     |none=>none
theorem A1l {C:FC} {σ:Nat->Value} {H:tG} {w:World} {Γ:Env} {a:Act} (hE:tM C σ H w Γ a) {k:IntKind}:∀{xs:List Operand} {ns:List Int},A0l k Γ xs=some ns->xs.map a.eval=ns.map (dh k)
 |[],ns,h=>by cases h;rfl
 | x :: xs,ns,h => by
   simp only[A0l] at h;split at h
   ·rename_i k' n he;split at h
    ·rename_i e;subst e;simp only[bf] at h;obtain⟨ms,hms,rfl⟩:=h;simp[vR hE he,A1l hE hms]
    ·cases h
   ·cases h
theorem A3j (k:IntKind) (w:World):∀(ns:List Int) (x:Int),(zf xx (.int k x) (ns.map (dh k)):Sem Value).run P w=.ok (.int k (ns.foldl mx2 x)) w
 |[],x=>by simp
 | n :: ns,x => by simp only[dj,uy,fk,fp];have:(xx (.int k x) (.int k n)).run P w=.ok (.int k (mx2 x n)) w:=rfl;rw[this];exact A3j k w ns (mx2 x n)
theorem A3k (k:IntKind) (w:World):∀(ns:List Int) (x:Int),(zf xy (.int k x) (ns.map (dh k)):Sem Value).run P w=.ok (.int k (ns.foldl mn2 x)) w
 |[],x=>by simp
 | n :: ns,x => by simp only[dj,uy,fk,fp];have:(xy (.int k x) (.int k n)).run P w=.ok (.int k (mn2 x n)) w:=rfl;rw[this];exact A3k k w ns (mn2 x n)
def A14 (mx:Bool) (Γ:Env) (args:List Operand):Option CV:=
 match args with
 |[]=>none
 | x :: xs => match evi Γ x with
     |some (k,n)=>(A0l k Γ xs).map λns=> .val (.int k (if mx then ns.foldl mx2 n else ns.foldl mn2 n))
     |none=>none
def A4m (P:Program) (Γ:Env) (H:tG) (ts:Array TypeId) (args:List Operand):Option CV:=
 match ts.toList,args with
 |[t],[x]=>match P.underlying t,evc Γ x with
  |some .string,some (.val (.string s))=>some (.val (.int .i64 s.size))
  |some (.slice _),some y=>(A0y H y).map λ(n:Nat)=> .val (.int .i64 (n:Int))
  |_,_=>none
 |_,_=>none
theorem A3m:∀(vs:List Value) (k off:Nat) (c:Array Value),off+k+vs.length<=c.size->
 (vs.zipIdx k).foldl (λcs p=>cs.setIfInBounds (off+p.2) p.1) c=(c.toList.take (off+k)++(vs++c.toList.drop (off+k+vs.length))).toArray
 |[],k,off,c,_=>by simp
 | v :: vs,k,off,c,h => by simp only[List.length_cons] at h;rw[List.zipIdx_cons,fk,A3m vs (k+1) off _ (by simp;omega)];have e:=list_seg_step c.toList (off+k) v vs (by simp;omega);congr 1;simp only[Array.toList_setIfInBounds];simpa[lc,qz 1] using e
theorem A1e {place:Nat->Option (Nat×Nat)} {i:Nat} {rest:List (Nat×Value)} {size:Nat} (hp:place i=some (off,size)) (hv:v.cells=vs.toArray) (hs:vs.length=size)
 (hfit:off+vs.length<=c.size):pd place c ((i,v)::rest)=pd place (c.toList.take off++(vs++c.toList.drop (off+vs.length))).toArray rest:=by
 have h1:¬((v.cells.size≠size)||decide (off+v.cells.size>c.size))=true:=by simp[hv,hs];omega
 simp only[pd,hp];rw[if_neg h1];congr 1;rw[hv];have:=A3m vs 0 off c (by omega);simp only[ee] at this;rw[<-this];rw[show vs.toArray.zipIdx=(vs.zipIdx).toArray from by simp];simp
def yL (place:Nat->Option (Nat×Nat)) (H:tG) (Γ:Env) (l:List CV):List (Nat×Operand)->Option (List CV)
 |[]=>some l
 |(i,x)::rest=>match place i,(evo Γ x).bind SV.cells with
  |some (off,size),some cs=>if cs.length=size/\off+cs.length<=l.length/\cs.all (CV.oneIn H)=true then yL place H Γ (l.take off++(cs++l.drop (off+cs.length))) rest else none
  |_,_=>none
theorem A3O (h:tK C σ H w) {x:SV} {l:List CV} (hl:x.cells=some l) (ho:l.all (CV.oneIn H)=true) (hx:SVr (Ow C.G H σ) w σ x u) :
 ∃vs,u.cells=vs.toArray/\CVs (Ow C.G H σ) w σ l vs:=by
 rcases A2x hl hx with⟨vs,rfl,hvs⟩|⟨y,rfl,hy⟩;·exact⟨vs,rfl,hvs⟩
 ·refine⟨[u],?_,hy,trivial⟩;simp only[kj,ub,mn] at ho;exact A0A (A0p h ho hy)
theorem A0j {C:FC} {σ:Nat->Value} {H:tG} {w:World} {Γ:Env} {a:Act} (h:tK C σ H w) (hE:tM C σ H w Γ a) {place:Nat->Option (Nat×Nat)}:∀{parts:List (Nat×Operand)} {l l':List CV} {vs:List Value},
 yL place H Γ l parts=some l'->CVs (Ow C.G H σ) w σ l vs->∃us,pd place vs.toArray (parts.map λp=>(p.1,a.eval p.2))=some us.toArray/\CVs (Ow C.G H σ) w σ l' us
 |[],l,l',vs,hf,hl=>by cases hf;exact⟨vs,rfl,hl⟩
 | (i,x) :: rest,l,l',vs,hf,hl => by
   simp only[yL] at hf;split at hf
   ·rename_i off size cs hp hx;split at hf
    ·rename_i hc;obtain⟨sv,he,hcs⟩:=cz.1 hx;obtain⟨us,hu,hus⟩:=A3O h hcs hc.2.2 (vF hE he);have hll:=vH hl;have hul:=vH hus;have hl':CVs (Ow C.G H σ) w σ (l.take off++(cs++l.drop (off+cs.length))) (vs.take off++(us++vs.drop (off+us.length))):=by
      refine wT (wX hl) (wT hus ?_);rw[hul];exact xH hl
     obtain⟨r,hr,hrr⟩:=A0j h hE hf hl';refine⟨r,?_,hrr⟩;rw[dj,A1e hp hu (by omega) (by simp;omega)];simpa using hr
    ·cases hf
   ·cases hf
theorem wY {O:Nat->Prop} {w:World} {σ:Nat->Value}:∀{vs:List Value},CVs O w σ (vs.map CV.val) vs
 |[]=>trivial
 |_::_=>⟨rfl,wY⟩
def uL (P:Program) (t:TypeId):Option Value:=(P.info? t).bind (·.zero)
theorem wK (h:uL P t=some z) (w:World):(zeroValue t).run P w=.ok z w:=by unfold uL at h;obtain⟨i,hi,hz⟩:=cz.1 h;simp[zeroValue,typeInfo,hi,hz]
def A28 (P:Program) (fs:List Field):Option (List (Nat×Nat)):=
 fs.mapM λf=>(u7 P f.type).map λn=>(f.offset,n)
theorem A4Z (w:World):∀{fs:List Field} {ps:List (Nat×Nat)},A28 P fs=some ps->
 (fs.mapM (λf=>do pure (f.offset,<-sizeOf f.type):Field->Sem (Nat×Nat))).run P w=.ok ps w
 |[],ps,h=>by cases h;rfl
 | f :: fs,ps,h => by unfold A28 at h;rw[mu] at h;obtain⟨q,hq,h⟩:=cz.1 h;obtain⟨qs,hqs,h⟩:=cz.1 h;cases h;obtain⟨n,hn,rfl⟩:=bf.1 hq;have ih:=A4Z w (fs:=fs) (ps:=qs) hqs;rw[mu];simp only[fp,uK hn,ed,ie,ih]
def A2M (P:Program) (Γ:Env) (H:tG) (t:TypeId) (parts:Array (Nat×Operand)):Option SV:=
 match uL P t,P.underlying t with
 |some z,some (.struct fs)=>match A28 P fs.toList with
  |some ps=>(yL (λi=>ps[i]?) H Γ (z.cells.toList.map CV.val) parts.toList).map SV.agg
  |none=>none
 |some z,some (.array _ elem)=>match u7 P elem with
  |some n=>(yL (λi=>some (i*n,n)) H Γ (z.cells.toList.map CV.val) parts.toList).map SV.agg
  |none=>none
 |_,_=>none
theorem A78 (h:tK C σ H w) (hE:tM C σ H w Γ a) {parts:Array (Nat×Operand)} {v:SV} (hs:A2M P Γ H t parts=some v) :
 ∃u,(vj t (parts.map λp=>(p.1,a.eval p.2))).run P w=.ok u w/\SVr (Ow C.G H σ) w σ v u:=by
 unfold A2M at hs;split at hs
 ·rename_i z fs hz hu;split at hs
  ·rename_i ps hps;obtain⟨l,hl,rfl⟩:=bf.1 hs;obtain⟨us,hf,hus⟩:=A0j h hE hl wY;refine⟨.agg us.toArray,?_,us,rfl,hus⟩;have hp:=A4Z w hps;have hp2:(fs.mapM (λf=>do pure (f.offset,<-sizeOf f.type):Field->Sem (Nat×Nat))).run P w=.ok ps.toArray w:=by
    rw[<-gr (xs:=fs),List.mapM_toArray];simp only[Sem.run_map,hp,ed]
   simp only[vj,fp,wK hz,ed,run_underlying hu,hp2];simp only[gr] at hf;simp[hf]
  ·cases hs
 ·rename_i z n elem hz hu;split at hs
  ·rename_i sz hsz;obtain⟨l,hl,rfl⟩:=bf.1 hs;obtain⟨us,hf,hus⟩:=A0j h hE hl wY;refine⟨.agg us.toArray,?_,us,rfl,hus⟩;simp only[gr] at hf;simp[vj,wK hz,run_underlying hu,uK hsz,hf]
  ·cases hs
 ·cases hs
theorem A2w {xs:List k.ty} (hh:w.heap[b]? =some (.cells c e (0,0))) (hcb:cap<=9223372036854775807) (hl:xs.length<=cap) (hs:cap*k.sz<=c.size)
 (hr:∀i (h:i<xs.length),∃cs,k.R O w xs[i] cs/\∀j,j<k.sz->c[i*k.sz+j]? =cs[j]?):tV O w k xs (.slice (some ⟨b,0,none⟩) xs.length cap):=by
 refine⟨_,cap,rfl,?_⟩;rcases ki cap with rfl|hp;·exact .inl ⟨rfl,bx (by omega)⟩
 ·refine .inr ⟨⟨hp,hcb⟩,hl,b,0,c,e,rfl,hh,by omega,λi hi=>?_⟩;obtain⟨cs,hR,hc⟩:=hr i hi;exact⟨cs,hR,λj hj=>by rw[ew];exact hc j hj⟩
def A2N (P:Program) (Γ:Env) (H:tG) (nx:Nat) (t:TypeId) (len:Nat) (parts:Array (Nat×Operand)):Option (CV×tG):=
 match P.underlying t with
 |some (.slice elem)=>match u7 P elem,uL P elem,wB P 12 elem with
  | some n,some z,some k =>
    if len*n<=2 ^ 24/\n=k.sz/\tY nx Γ H=true then
     match yL (λi=>some (i*n,n)) H Γ ((gy (len*n)).map λi=>CV.val (z.cells[i%z.cells.size]!)) parts.toList with
     |some l=>(rdN k len l).map λxs=>(.h nx,(nx,.row k xs)::H)
     |none=>none
    else none
  |_,_,_=>none
 |_=>none
theorem A77 (h:tK C σ H w) (hE:tM C σ H w Γ a) {parts:Array (Nat×Operand)} {v:CV}
 (hs:A2N P Γ H nx t len parts=some (v,H')) :
 ∃u w' σ',(lj t len (parts.map λp=>(p.1,a.eval p.2))).run P w=.ok u w'/\tK C σ' H' w'/\u6 C σ σ' H H' w w' Γ a/\CVr (Ow C.G H' σ') w' σ' v u/\∀n,n≠nx->σ' n=σ n:=by
 unfold A2N at hs;split at hs
 ·rename_i elem hu;split at hs
  ·rename_i n z k hz hzo hk;split at hs
   ·rename_i hc;obtain⟨hle,hn,hf⟩:=hc;split at hs
    ·rename_i l hl;obtain⟨xs,hxs,e⟩:=bf.1 hs;cases e;have hmap:(gy (len*n)).map (λi=>CV.val (z.cells[i%z.cells.size]!))=((gy (len*n)).map λi=>(z.cells[i%z.cells.size]!)).map CV.val:=by simp[List.map_map]
     rw[hmap] at hl;obtain⟨us,hfill,hus⟩:=A0j h hE hl wY;obtain⟨h1,h2,h3⟩:=A0B hxs hus;have hrun:(lj t len (parts.map λp=>(p.1,a.eval p.2))).run P w=.ok (.slice (some ⟨w.heap.size,0,none⟩) len len) (w.alloc (.cells us.toArray elem)):=by
      have hbig:¬(len*n>2 ^ 24):=by omega
      have harr:((lz (len*n)).map λi=>(z.cells[i%z.cells.size]!))=((gy (len*n)).map λi=>(z.cells[i%z.cells.size]!)).toArray:=by apply ip;simp
      simp only[lj,fp,run_underlying hu,ed,uK hz,sh];rw[if_neg hbig];have hfin:(match pd (λi=>some (i*n,n)) ((gy (len*n)).map λi=>(z.cells[i%z.cells.size]!)).toArray (parts.map λp=>(p.1,a.eval p.2)).toList with
       |some cells=>do let a <-newRow elem cells;pure (Value.slice (some a) len len)
       | _ => stuck "buildSlice: a part of the wrong size" : Sem Value).run P w = .ok (.slice (some ⟨w.heap.size, 0, none⟩) len len) (w.alloc (.cells us.toArray elem)) := by
       rw[ma,hfill];simp[newRow]
      by_cases h0:len*n=0
      ·rw[if_pos h0];have e:(lz (len*n)).map (λx=>((#[]:Array Value)[x%(#[]:Array Value).size]!))=((gy (len*n)).map λi=>(z.cells[i%z.cells.size]!)).toArray:=by rw[h0];simp
       simp only[ie,ed];rw[e];exact hfin
      ·rw[if_neg h0];simp only[wK hzo,ed,ie];rw[harr];exact hfin
     have hal:=xL (w':=w.alloc (.cells us.toArray elem)) h hE hf k xs (.slice (some ⟨w.heap.size,0,none⟩) xs.length len) (λb hb=>uH w _ b hb) (by simp) rfl rfl rfl
      (λb hb=>by
       simp only[Bk,blk] at hb;split at hb;·cases hb
       ·simp at hb;omega)
      (λO' hO'=>A2w (heap_alloc_new w _) (by have h1:=Kd.sz_pos k;have h2:len<=len*n:=mw len (by omega);omega) (by omega) (by simp;omega) λi hi=>by obtain⟨cs,hR,hcell⟩:=h3 i hi;exact⟨cs,uX (λb hb _=>uH w _ b hb) hO' hR,λj hj=>by rw[fh];exact hcell j hj⟩)
     rw[h1] at hal;exact⟨_,_,_,hrun,hal.1,hal.2,vT,λ_ hn=>tT hn⟩
    ·cases hs
   ·cases hs
  ·cases hs
 ·cases hs
theorem A4u {z0:k.ty} {zs:List Value} (hR:k.R O w z0 zs) (n m:Nat) (hm:m<=n) (c:Array Value) (hc:c=(lz (n*k.sz)).map λi=>(zs.toArray[i%zs.toArray.size]!)) :
 ∀i (h:i<(bn m z0).length),∃cs,k.R O w (bn m z0)[i] cs/\∀j,j<k.sz->c[i*k.sz+j]? =cs[j]?:=by
 intro i hi;simp only[ow] at hi;have hl:=v7 hR;refine⟨zs,by simpa using hR,λj hj=>?_⟩;subst hc;have hmul:(i+1)*k.sz<=n*k.sz:=dl _ (by omega);rw[ey,mz] at hmul;have hmod:(i*k.sz+j)%zs.length=j:=by rw[hl,qz,Nat.add_mul_mod_self_right,Nat.mod_eq_of_lt hj]
 have hlt:i*k.sz+j<n*k.sz:=by omega
 have hjl:j<zs.length:=by omega
 rw[bj hjl];simp only[Array.getElem?_map,Array.getElem?_range,hlt,if_true,fy,ge,hmod];simp[hjl]
def A2T (P:Program) (Γ:Env) (H:tG) (nx:Nat) (t:TypeId) (l c:Operand):Option (CV×tG×List Prop):=
 match P.underlying t,evi Γ l,evi Γ c with
 |some (.slice elem),some (_,n),some (_,m)=>match P.info? elem,uL P elem,wB P 12 elem with
  |some i,some z,some k=>match k.rd (z.cells.toList.map CV.val) with
   |some z0=>if i.size=k.sz/\z.cells.size=k.sz/\tY nx Γ H=true then
    some (.h nx,(nx,.row k (bn n.toNat z0))::H,[0<=n,n<=m,m*i.bytes<=140737488355328,m<=9223372036854775807]) else none
   |none=>none
  |_,_,_=>none
 |_,_,_=>none
theorem A4t {n:Int} (h0 : -9223372036854775808<=n) (h1:n<=9223372036854775807):IntKind.i64.wrap n=n:=by
 have e:IntKind.i64.wrap n=if n%18446744073709551616>=9223372036854775808 then n%18446744073709551616-18446744073709551616 else n%18446744073709551616:=by simp[IntKind.wrap,bh,oj]
 rw[e];split<;>omega
theorem A7Q (h:tK C σ H w) (hE:tM C σ H w Γ a) {l c:Operand} {v:CV}
 (hs:A2T P Γ H nx t l c=some (v,H',cs)) (hc:tL cs) :
 ∃u w' σ',(ro t (a.eval l) (a.eval c)).run P w=.ok u w'/\tK C σ' H' w'/\u6 C σ σ' H H' w w' Γ a/\CVr (Ow C.G H' σ') w' σ' v u/\∀n,n≠nx->σ' n=σ n:=by
 unfold A2T at hs;split at hs
 ·rename_i elem k1 n k2 m hu hl hm;split at hs
  ·rename_i i z k hi hz hk;split at hs
   ·rename_i z0 hz0;split at hs
    ·rename_i hcond;obtain⟨hsz,hzs,hf⟩:=hcond;cases hs;simp only[tL] at hc;obtain⟨h0,h1,h2,h3⟩:=hc;have hR:k.R (Ow C.G H σ) w z0 z.cells.toList:=xU (σ:=σ) hz0 wY;have hwn:=A4t (n:=n) (by omega) (by omega);have hwm:=A4t (n:=m) (by omega) (by omega);have hz':i.zero=some z:=by
      unfold uL at hz;rw[hi] at hz;exact hz
     have hnb:¬(281474976710656<(i.bytes:Int)*m):=by rw[Int.mul_comm];omega
     have hrun:(ro t (.int k1 n) (.int k2 m)).run P w=.ok (.slice (some ⟨w.heap.size,0,none⟩) n.toNat m.toNat)
      (w.alloc (.cells ((lz (m.toNat*k.sz)).map λj=>(z.cells.toList.toArray[j%z.cells.toList.toArray.size]!)) elem)):=by
      have hcond1:¬((decide (m<0)||decide ((i.bytes:Int)*m>2 ^ 48))||decide (n<0)||decide (n>m))=true:=by simp;omega
      have harr:(if m.toNat*k.sz=0 then (lz (m.toNat*k.sz)).map (λj=>((#[]:Array Value)[j%(#[]:Array Value).size]!)) else (lz (m.toNat*k.sz)).map (λj=>(z.cells[j%z.cells.size]!))) =
       (lz (m.toNat*k.sz)).map λj=>(z.cells.toList.toArray[j%z.cells.toList.toArray.size]!):=by
       split;·rename_i e;rw[e];simp
       ·rfl
      simp only[ro,fp,run_underlying hu,ed,asInt,asIntOf,ie,typeInfo,run_program,hi,hwn,hwm,sh];rw[if_neg (by simpa using hcond1)];simp only[run_askRoom,ed,sizeOf,typeInfo,fp,run_program,hi,ie,hsz,zeroValue,hz'];rw[<-harr];by_cases e:m.toNat*k.sz=0;·simp[e,newRow]
      ·simp[e,newRow]
     have hal:=xL (w':=w.alloc (.cells ((lz (m.toNat*k.sz)).map λj=>(z.cells.toList.toArray[j%z.cells.toList.toArray.size]!)) elem)) h hE hf k (bn n.toNat z0)
      (.slice (some ⟨w.heap.size,0,none⟩) (bn n.toNat z0).length m.toNat) (λb hb=>uH w _ b hb) (by simp) rfl rfl rfl
      (λb hb=>by
       simp only[Bk,blk] at hb;split at hb;·cases hb
       ·simp at hb;omega)
      (λO' hO'=>A2w (heap_alloc_new w _) (by omega) (by simp;omega) (by simp) λi2 hi2=>by obtain⟨cs,hR2,hcell⟩:=A4u hR m.toNat n.toNat (by omega) _ rfl i2 hi2;exact⟨cs,uX (λb hb _=>uH w _ b hb) hO' hR2,hcell⟩)
     rw[ow] at hal;exact⟨_,_,_,by rw[vR hE hl,vR hE hm];exact hrun,hal.1,hal.2,vT,λ_ hn=>tT hn⟩
    ·cases hs
   ·cases hs
  ·cases hs
 ·cases hs
theorem y7 (h:tK C σ H w) (hE:tM C σ H w Γ a) {e:Ent} (hm:tJ H m=some e) (hf:tY nx Γ H=true) (k:Kd) (ys:List k.ty) (v:Value)
 (hw:∀b,b<w.heap.size->¬Bk (σ m) b->w'.heap[b]? =w.heap[b]?) (hs:w.heap.size<=w'.heap.size) (hos:w'.os=w.os) (ht:w'.tape=w.tape) (hou:w'.output=w.output)
 (hblk:∀b,Bk v b->Bk (σ m) b\/w.heap.size<=b)
 (hrow:∀O',uA (Ow C.G H σ) w w'->(∀b,b<w.heap.size->¬Ow C.G H σ b->¬O' b)->tV O' w' k ys v) :
 tK C (upd σ nx v) ((nx,.row k ys)::tO H m) w'/\u6 C σ (upd σ nx v) H ((nx,.row k ys)::tO H m) w w' Γ a:=by
 have hin:=tI hm;have hso:uA (Ow C.G H σ) w w':=λb hb ho=>hw b hb λhb'=>ho (.inr ⟨(m,e),hin,hb'⟩);have hanti:∀b,b<w.heap.size->¬Ow C.G H σ b->¬Ow C.G ((nx,.row k ys)::tO H m) (upd σ nx v) b:=by
  intro b hb ho ho';rcases ho' with hg|⟨p,hp,hbp⟩;·exact ho (.inl hg)
  ·rcases bv.1 hp with rfl|hp
   ·rw[tQ] at hbp;rcases hblk b hbp with h1|h1;·exact ho (.inr ⟨(m,e),hin,h1⟩)
    ·omega
   ·rw[tT (uI hf p (uC.1 hp).1).1] at hbp;exact ho (.inr ⟨p,(uC.1 hp).1,hbp⟩)
 have hst:=y5 (w':=w') h m nx (.row k ys) v (λ_ _=>.inr (λp hp=>(uI hf p (uC.1 hp).1).2)) (λp hp=>(uI hf p (uC.1 hp).1).1)
  (λb hb hq=>hw b hb (hq e hin)) hs hos ht hou (λb hb=>(hblk b hb).imp (λq=>⟨q,e,hin⟩) id) (by unfold uB;rw[tQ];exact hrow _ hso hanti)
 exact⟨hst.1,⟨hE.step hst.2.1 hst.2.2 (zZ hf),hst.2.1,hst.2.2⟩⟩
def vB (O:Nat->Prop) (w:World) (k:Kd) (xs:List k.ty) (vs:List Value):Prop:=
 vs.length=xs.length*k.sz/\∀i (h:i<xs.length),∃cs,k.R O w xs[i] cs/\∀j,j<k.sz->vs[i*k.sz+j]? =cs[j]?
theorem A3t {n s q:Nat} (hs:0<s) (h:q<n*s):q/s<n/\q%s<s/\q=(q/s)*s+q%s:=by refine⟨(Nat.div_lt_iff_lt_mul hs).2 h,Nat.mod_lt _ hs,?_⟩;rw[Nat.mul_comm];exact(Nat.div_add_mod q s).symm
theorem wN {xs:List k.ty} (h:xI O w k A xs) :
 ∃vs,vB O w k xs vs/\(∀v∈vs,v.oneCell'=true)/\∀j u,vs[j]? =some u->∃b off,A=some ⟨b,off,none⟩/\w.cell? ⟨b,off+j,none⟩=some u:=by
 have hsz:=k.sz_pos;cases xs with
 |nil=>exact⟨[],⟨by simp,λi hi=>absurd hi (by simp)⟩,by simp,by simp⟩
 | cons x xs =>
   obtain⟨b,off,_,rfl,_,_⟩:=h 0 (by simp);have hcell:∀q,q<(x::xs).length*k.sz->∃u,w.cell? ⟨b,off+q,none⟩=some u/\u.oneCell'=true:=by
    intro q hq;obtain⟨h1,h2,h3⟩:=A3t hsz hq;obtain⟨b',off',c,e,hR,hc⟩:=h _ h1;injection e with e;injection e with e1 e2 _;subst e1 e2;have hl:=v7 hR;have hlt:q%k.sz<c.length:=by omega
    refine⟨c[q%k.sz],?_,zD hR _ (kz _)⟩;rw[show off+q=off+q/k.sz*k.sz+q%k.sz by omega,hc _ h2,bj hlt]
   let vs:=(gy ((x::xs).length*k.sz)).map λq=>(w.cell? ⟨b,off+q,none⟩).getD undef;have hvs:∀q,q<(x::xs).length*k.sz->vs[q]? =w.cell? ⟨b,off+q,none⟩:=by intro q hq;obtain⟨u,hu,_⟩:=hcell q hq;show ((gy ((x::xs).length*k.sz)).map _)[q]? =_;rw[fu,List.getElem?_range hq,hu,fy,hu];rfl
   have hlen:vs.length=(x::xs).length*k.sz:=by simp[vs]
   refine⟨vs,⟨hlen,λi hi=>?_⟩,λv hv=>?_,λj u hu=>?_⟩
   ·obtain⟨b',off',c,e,hR,hc⟩:=h i hi;injection e with e;injection e with e1 e2 _;subst e1 e2;refine⟨c,hR,λj hj=>?_⟩;have hmul:(i+1)*k.sz<=(x::xs).length*k.sz:=dl _ (by omega);rw[ey,mz] at hmul;rw[hvs _ (by omega),<-hc j hj,lc]
   ·obtain⟨q,hq,e⟩:=cj.1 hv;obtain⟨u,hu,h1⟩:=hcell q (by simpa using hq);rw[hu] at e;simp at e;rw[<-e];exact h1
   ·have hj:j<vs.length:=by
     rcases gw j vs.length with h'|h';·exact h'
     ·rw[li h'] at hu;cases hu
    exact⟨b,off,rfl,by rw[<-hvs j (by omega),hu]⟩
theorem wG {size n l:Nat} (hl:vs.length=n*size) (w:World) (h:∀j u,vs[j]? =some u->∃b off,A=some ⟨b,off,none⟩/\w.cell? ⟨b,off+j,none⟩=some u) :
 (ib size n (.slice A l cap)).run P w=.ok vs.toArray w:=by
 cases vs with
 | nil =>
   have h0:n*size=0:=by simpa using hl.symm
   cases A with
   |none=>simp[ib]
   |some a=>simp[ib,loadCells,h0,loadCellsFrom]
 | cons v vs =>
   obtain⟨b,off,rfl,_⟩:=h 0 v rfl;refine run_firstCells_some w size n _ l cap _ hl λj u hu=>?_;obtain⟨b',off',e,hc⟩:=h j u hu;injection e with e;injection e with e1 e2 _;subst e1 e2;rw[im];exact hc
theorem A0k {xs ys:List k.ty} (h1:vB O w k xs us) (h2:vB O w k ys vs):vB O w k (xs++ys) (us++vs):=by
 obtain⟨l1,r1⟩:=h1;obtain⟨l2,r2⟩:=h2;refine⟨by rw[cy,cy,l1,l2,ey],λi hi=>?_⟩;rw[cy] at hi;by_cases hx:i<xs.length
 ·obtain⟨cs,hR,hc⟩:=r1 i hx;refine⟨cs,by rw[List.getElem_append_left hx];exact hR,λj hj=>?_⟩;have hmul:(i+1)*k.sz<=xs.length*k.sz:=dl _ (by omega);rw[ey,mz] at hmul;rw[dk (by omega)];exact hc j hj
 ·obtain⟨cs,hR,hc⟩:=r2 (i-xs.length) (by omega);refine⟨cs,by rw[List.getElem_append_right (by omega)];exact hR,λj hj=>?_⟩;have hmul:xs.length*k.sz<=i*k.sz:=dl _ (by omega);rw[dd (by omega),<-hc j hj];congr 1;rw[zj];omega
theorem xR (hw:uA O w w') (ho:∀b,b<w.heap.size->¬O b->¬O' b) {xs:List k.ty} (h:vB O w k xs vs):vB O' w' k xs vs:=
 ⟨h.1,λi hi=>by obtain⟨cs,hR,hc⟩:=h.2 i hi;exact⟨cs,uX hw ho hR,hc⟩⟩
theorem xJ {xs:List k.ty} (hh:w.heap[b]? =some (.cells c e (0,0))) (hcb:cap<=9223372036854775807) (hl:xs.length<=cap) (hs:off+cap*k.sz<=c.size)
 (hf:vB O w k xs vs) (hc:∀j,j<vs.length->c[off+j]? =vs[j]?):tV O w k xs (.slice (some ⟨b,off,none⟩) xs.length cap):=by
 refine⟨_,cap,rfl,?_⟩;rcases ki cap with rfl|hp;·exact .inl ⟨rfl,bx (by omega)⟩
 ·refine .inr ⟨⟨hp,hcb⟩,hl,b,off,c,e,rfl,hh,hs,λi hi=>?_⟩;obtain⟨cs,hR,hcc⟩:=hf.2 i hi;refine⟨cs,hR,λj hj=>?_⟩;have hmul:(i+1)*k.sz<=xs.length*k.sz:=dl _ (by omega);rw[ey,mz] at hmul;rw[<-hcc j hj,lc,hc _ (by rw[hf.1];omega)]
theorem zF {xs:List k.ty} {l:Nat} (h:tV O w k xs (.slice A l cap)) :
 l=xs.length/\((cap=0/\xs=[])\/((0<cap/\cap<=9223372036854775807)/\xs.length<=cap/\∃b off c e,A=some ⟨b,off,none⟩/\w.heap[b]? =some (.cells c e (0,0))/\off+cap*k.sz<=c.size)):=by
 obtain⟨A',cap',e,h⟩:=h;injection e with e1 e2 e3;subst e1 e3;refine⟨e2,?_⟩;rcases h with h|⟨hp,hl,b,off,c,e,rfl,hh,hs,_⟩;·exact .inl h
 ·exact .inr ⟨hp,hl,b,off,c,e,rfl,hh,hs⟩
theorem A0v {ty:TypeId} {i:TypeInfo} (ht:P.underlying t=some (.slice e)) (hi:P.info? e=some i) (hz:i.zero=some z) {n:Nat} {olds news:List Value} (w:World)
 (hlo:olds.length=n*i.size) (hold:∀j u,olds[j]? =some u->∃b off,A=some ⟨b,off,none⟩/\w.cell? ⟨b,off+j,none⟩=some u)
 (hln:news.length=m*i.size) (hnew:∀j u,news[j]? =some u->∃b off,B=some ⟨b,off,none⟩/\w.cell? ⟨b,off+j,none⟩=some u)
 (hg:cap<n+m) (h63:n+m<=9223372036854775807) (hfit:(n+m)*i.bytes<=140737488355328) :
 ∃gc,(n+m<=gc/\gc<=9223372036854775807)/\(fq #[t,t] ty #[.slice A n cap,.slice B m cap2]).run P w=.ok (.slice (some ⟨w.heap.size,0,none⟩) (n+m) gc) (w.drew.alloc (.cells (olds.toArray++news.toArray++fv z.cells (gc-(n+m))) e)):=by
 have hn:¬(n+m<=cap):=by omega
 have h63':¬(9223372036854775807<((n:Int)+(m:Int))):=by omega
 have h48':¬(281474976710656<sj (n+m) cap*i.bytes):=by have:=growslice_fits hg hfit;omega
 have hf:=wG (P:=P) (l:=m) (cap:=cap2) hln w.drew (by simpa using hnew);have hfo:=wG (P:=P) (l:=n) (cap:=cap) hlo w.drew (by simpa using hold);refine⟨grownCap w (n+m) cap e,⟨grownCap_ge w _ _ _,grownCap_le_maxLen w _ _ _ h63⟩,?_⟩;simp[fq,run_underlying ht,sizeOf,typeInfo,zeroValue,hi,hz,ld,hn,h63',h48',vu,hf,hfo,newRow,grownCap];congr 2;apply ip;simp[gd]
theorem A2H {ty e2:TypeId} {i:TypeInfo} (ht:P.underlying t=some (.slice e)) (hi:P.info? e=some i) {n:Nat} {news:List Value} {cur:Array Value} (w:World)
 (hln:news.length=m*i.size) (hnew:∀j u,news[j]? =some u->∃b off,B=some ⟨b,off,none⟩/\w.cell? ⟨b,off+j,none⟩=some u)
 (h1:∀u∈news,u.oneCell'=true) (hroom:n+m<=cap) (hg:w.heap[b]? =some (.cells cur e2 (0,0))) (hfit:off+n*i.size+news.length<=cur.size) :
 (fq #[t,t] ty #[.slice (some ⟨b,off,none⟩) n cap,.slice B m cap2]).run P w =
  .ok (.slice (some ⟨b,off,none⟩) (n+m) cap) (w.setRow b (cur.toList.take (off+n*i.size)++news++cur.toList.drop (off+n*i.size+news.length)).toArray):=by
 have hf:=wG (P:=P) (l:=m) (cap:=cap2) hln w hnew;have hst:=run_storeCells_at P b (off+n*i.size) e2 news 0 cur w hg (by omega) h1;simp only[ee] at hst;simp[fq,run_underlying ht,sizeOf,typeInfo,hi,ld,hroom,hf,im,hst]
theorem A4T {ty:TypeId} {i:TypeInfo} (ht:P.underlying t=some (.slice e)) (hi:P.info? e=some i) {n:Nat} (w:World) (hroom:n<=cap) :
 (fq #[t,t] ty #[.slice A n cap,.slice B 0 cap2]).run P w=.ok (.slice A n cap) w:=by
 have hf:=wG (P:=P) (A:=B) (l:=0) (cap:=cap2) (size:=i.size) (n:=0) (vs:=[]) (by simp) w (by simp);cases A<;>simp[fq,run_underlying ht,sizeOf,typeInfo,hi,ld,hroom,hf,storeCells]
def A2K (P:Program) (Γ:Env) (H:tG) (nx:Nat) (ts:Array TypeId) (s x:Operand):Option (CV×tG×List Prop):=
 match ts.toList with
 |[t,t']=>if t=t' then
  match P.underlying t with
  |some (.slice e)=>match P.info? e,uL P e,evc Γ s,evc Γ x with
   | some i,some z,some sv,some xv =>
     if 0<i.bytes/\z.cells.size=i.size/\tY nx Γ H=true then
      match sv with
      |.h m=>match tJ H m with
       |some (.row k xs)=>if k.sz=i.size then
        (w9 H k xv).map λys=>(.h nx,(nx,.row k (xs++ys))::tO H m,[(xs.length+ys.length)*i.bytes<=140737488355328]) else none
       |_=>none
      |.val (.slice none 0 0)=>match wB P 12 e with
       |some k=>if k.sz=i.size then (w9 H k xv).map λys=>(.h nx,(nx,.row k ys)::H,[ys.length*i.bytes<=140737488355328]) else none
       |none=>none
      |.zc=>match wB P 12 e with
       |some k=>if k.sz=i.size then (w9 H k xv).map λys=>(.h nx,(nx,.row k ys)::H,[ys.length*i.bytes<=140737488355328]) else none
       |none=>none
      |_=>none
     else none
   |_,_,_,_=>none
  |_=>none
  else none
 |_=>none
theorem zN {n:Nat} (hb:0<b) (h:n*b<=140737488355328):n<=140737488355328:=fo (mw n hb) h
theorem A1U (z:Value) (n:Nat) (h:z.cells.size=n) (m:Nat):(fv z.cells m).size=m*n:=by rw[size_zeroCells,h]
theorem A3F (h:tK C σ H w) (hE:tM C σ H w Γ a) {ty:TypeId} {i:TypeInfo} (ht:P.underlying t=some (.slice e)) (hi:P.info? e=some i)
 (hz:i.zero=some z) (hb:0<i.bytes) (hzs:z.cells.size=i.size) (hf:tY nx Γ H=true) (hk:k.sz=i.size) {xv:CV} {ys:List k.ty} (hc:w9 H k xv=some ys)
 (hx:CVr (Ow C.G H σ) w σ xv u) (hbd:ys.length*i.bytes<=140737488355328) :
 ∃v w' σ',(fq #[t,t] ty #[.slice A 0 0,u]).run P w=.ok v w'/\tK C σ' ((nx,.row k ys)::H) w'/\u6 C σ σ' H ((nx,.row k ys)::H) w w' Γ a/\v=hd (σ' nx)/\∀n,n≠nx->σ' n=σ n:=by
 obtain⟨B,cap2,rfl,_,hr⟩:=yJ h hc hx;by_cases h0:ys=[]
 ·subst h0;have hrun:=A4T (P:=P) (ty:=ty) (A:=A) (B:=B) (n:=0) (cap:=0) (cap2:=cap2) ht hi w (bp 0);have hal:=xL (w':=w) h hE hf k [] (.slice A 0 0) (λ_ _=>rfl) (bp _) rfl rfl rfl (λb hb=>by cases A<;>simp[Bk,blk] at hb) (λO' _=>⟨A,0,rfl,.inl ⟨rfl,rfl⟩⟩);exact⟨_,_,_,hrun,hal.1,hal.2,vT (O:=λ_=>False) (w:=w),λ_ hn=>tT hn⟩
 ·have hpos:0<ys.length:=mr.2 h0;obtain⟨vs,hfl,h1,hcell⟩:=wN hr;obtain⟨gc,hgc,hrun⟩:=A0v (P:=P) (ty:=ty) (A:=A) (B:=B) (n:=0) (cap:=0) (m:=ys.length) (cap2:=cap2) (olds:=[]) (news:=vs) ht hi hz w (by simp) (by simp) (by rw[hfl.1,hk]) hcell (by omega)
   (by have:=zN hb hbd;omega) (by simpa using hbd)
  simp only[ew] at hrun hgc;have hal:=xL (w':=w.drew.alloc (.cells ((([]:List Value).toArray)++vs.toArray++fv z.cells (gc-ys.length)) e)) h hE hf k ys (.slice (some ⟨w.heap.size,0,none⟩) ys.length gc)
   (λb hb=>uH w.drew _ b hb) (by simp) rfl rfl rfl
   (λb hb=>by
    simp only[Bk,blk] at hb;split at hb;·cases hb
    ·simp at hb;omega)
   (λO' hO'=>xJ (heap_alloc_new w.drew _) (by omega) (by omega) (by
    simp only[nl,ge,A1U z _ hzs,hfl.1,hk,eb,ew];rw[<-ey];exact dl _ (by omega))
    (xR (w:=w) (λb hb _=>uH w.drew _ b hb) hO' hfl) (λj hj=>by simp only[ew,Array.empty_append];rw[ff (by simpa using hj)];simp))
  exact⟨_,_,_,hrun,hal.1,hal.2,vT (O:=λ_=>False) (w:=w),λ_ hn=>tT hn⟩
theorem A5j (h:tK C σ H w) (hE:tM C σ H w Γ a) {ty:TypeId} {i:TypeInfo} (ht:P.underlying t=some (.slice e)) (hi:P.info? e=some i)
 (hz:i.zero=some z) (hb:0<i.bytes) (hzs:z.cells.size=i.size) (hf:tY nx Γ H=true) (hk:k.sz=i.size) {xs:List k.ty} (hm:tJ H m=some (.row k xs)) {xv:CV} {ys:List k.ty} (hc:w9 H k xv=some ys)
 (hx:CVr (Ow C.G H σ) w σ xv u) (hbd:(xs.length+ys.length)*i.bytes<=140737488355328) :
 ∃v w' σ',(fq #[t,t] ty #[σ m,u]).run P w=.ok v w'/\tK C σ' ((nx,.row k (xs++ys))::tO H m) w'/\u6 C σ σ' H ((nx,.row k (xs++ys))::tO H m) w w' Γ a/\v=hd (σ' nx)/\∀n,n≠nx->σ' n=σ n:=by
 obtain⟨B,cap2,rfl,_,hr⟩:=yJ h hc hx;obtain⟨vs,hfl,h1,hcell⟩:=wN hr;have hent:tV (Ow C.G H σ) w k xs (σ m):=h.ent _ (tI hm);obtain⟨A,cap,hs,hlc,hrx⟩:=wO hent;obtain⟨us,hfx,h1x,hcellx⟩:=wN hrx;have hfa:=A0k hfx hfl;rw[hs] at hent ⊢;obtain⟨_,hrow⟩:=zF hent;by_cases hroom:xs.length+ys.length<=cap
 ·rcases hrow with⟨rfl,rfl⟩|⟨hp,_,b,off,c,e2,rfl,hh,hsz⟩
  ·have hy:ys=[]:=bx (by simpa using hroom);subst hy;have hrun:=A4T (P:=P) (ty:=ty) (A:=A) (B:=B) (n:=0) (cap:=0) (cap2:=cap2) ht hi w (bp 0);have hsw:=y7 (w':=w) h hE hm hf k ([]++[]) (.slice A 0 0) (λ_ _ _=>rfl) (bp _) rfl rfl rfl (λb hb=>by cases A<;>simp[Bk,blk] at hb) (λO' _ _=>⟨A,0,rfl,.inl ⟨rfl,rfl⟩⟩);exact⟨_,_,_,hrun,hsw.1,hsw.2,vT (O:=λ_=>False) (w:=w),λ_ hn=>tT hn⟩
  ·have hmul:(xs.length+ys.length)*k.sz<=cap*k.sz:=dl _ hroom;rw[ey] at hmul;have hfit:off+xs.length*i.size+vs.length<=c.size:=by rw[<-hk,hfl.1];omega
   have hrun:=A2H (P:=P) (ty:=ty) (B:=B) (n:=xs.length) (cap:=cap) (m:=ys.length) (cap2:=cap2) ht hi w (by rw[hfl.1,hk]) hcell h1 hroom hh hfit;have hblk:Bk (σ m) b:=by rw[hs];simp only[Bk,blk];rw[if_neg (by omega)]
   have hsw:=y7 (w':=w.setRow b (c.toList.take (off+xs.length*i.size)++vs++c.toList.drop (off+xs.length*i.size+vs.length)).toArray) h hE hm hf k (xs++ys) (.slice (some ⟨b,off,none⟩) (xs++ys).length cap)
    (λq _ hq=>setRow_other w b q _ (λe=>hq (e▸hblk))) (by simp[mg]) rfl rfl rfl
    (λq hq=>by simp only[Bk,blk] at hq;rw[if_neg (by omega)] at hq;simp at hq;exact .inl (hq▸hblk))
    (λO' hso hanti=>by
     refine xJ (setRow_heap w b c _ e2 _ hh) (by omega) (by simpa using hroom) ?_ (xR hso hanti hfa) (λj hj=>?_)
     ·simp only[ge,cy,co,cq,ep];omega
     ·rw[fh,gd,vQ _ _ _ _ (by simp;omega)];rw[cy,hfx.1,hk] at hj;by_cases hj1:j<us.length
      ·have hj2:us[j]? =some us[j]:=bj hj1;rw[dk hj1];rw[hfx.1,hk] at hj1;rw[if_pos (by omega)];obtain⟨b',off',e,hcj⟩:=hcellx j _ hj2;injection e with e;injection e with e3 e4 _;subst e3 e4;rw[cell_of_row w b _ c e2 (0,0) hh] at hcj;rw[hj2,<-hcj];simp
      ·rw[hfx.1,hk] at hj1;rw[if_neg (by omega),if_pos (by omega),dd (by rw[hfx.1,hk];omega),hfx.1,hk];congr 1;omega)
   rw[cy] at hsw;exact⟨_,_,_,hrun,hsw.1,hsw.2,vT (O:=λ_=>False) (w:=w),λ_ hn=>tT hn⟩
 ·obtain⟨gc,hgc,hrun⟩:=A0v (P:=P) (ty:=ty) (A:=A) (B:=B) (n:=xs.length) (cap:=cap) (m:=ys.length) (cap2:=cap2) (olds:=us) (news:=vs) ht hi hz w (by rw[hfx.1,hk]) hcellx (by rw[hfl.1,hk]) hcell (by omega)
   (by have:=zN hb hbd;omega) hbd
  have hsw:=y7 (w':=w.drew.alloc (.cells (us.toArray++vs.toArray++fv z.cells (gc-(xs.length+ys.length))) e)) h hE hm hf k (xs++ys) (.slice (some ⟨w.heap.size,0,none⟩) (xs++ys).length gc)
   (λb hb _=>uH w.drew _ b hb) (by simp) rfl rfl rfl
   (λb hb=>by
    simp only[Bk,blk] at hb;split at hb;·cases hb
    ·simp at hb;exact .inr (by omega))
   (λO' hso hanti=>xJ (heap_alloc_new w.drew _) (by omega) (by simpa using hgc.1) (by
    simp only[nl,ge,A1U z _ hzs,hfl.1,hfx.1,hk];rw[<-ey,<-ey,ew];exact dl _ (by omega))
    (xR (w:=w) (λb hb _=>uH w.drew _ b hb) hanti hfa) (λj hj=>by simp only[ew];rw[ff (by simpa using hj)];simp))
  rw[cy] at hsw;exact⟨_,_,_,hrun,hsw.1,hsw.2,vT (O:=λ_=>False) (w:=w),λ_ hn=>tT hn⟩
theorem A75 (h:tK C σ H w) (hE:tM C σ H w Γ a) {ts:Array TypeId} {ty:TypeId} {x:Operand} {v:CV}
 (hst:A2K P Γ H nx ts s x=some (v,H',cs)) (hc:tL cs) :
 ∃u w' σ',(fq ts ty #[a.eval s,a.eval x]).run P w=.ok u w'/\tK C σ' H' w'/\u6 C σ σ' H H' w w' Γ a/\CVr (Ow C.G H' σ') w' σ' v u/\∀n,n≠nx->σ' n=σ n:=by
 unfold A2K at hst;split at hst
 ·rename_i t t' hts;split at hst
  ·rename_i ett;subst ett;have hts':ts = #[t,t]:=by rw[<-gr (xs:=ts),hts]
   subst hts';split at hst
   ·rename_i e hu;split at hst
    ·rename_i i z sv xv hi hz hs hx;split at hst
     ·rename_i hcond;obtain⟨hb,hzs,hf⟩:=hcond;have hz':i.zero=some z:=by
       unfold uL at hz;rw[hi] at hz;exact hz
      have hsr:=tX hE hs;have hxr:=tX hE hx;split at hst
      ·rename_i m;split at hst
       ·rename_i k xs hm;split at hst
        ·rename_i hk;obtain⟨ys,hys,e⟩:=bf.1 hst;cases e;simp only[tL] at hc;obtain⟨v,w',σ',h1,h2,h3,h4,h5⟩:=A5j (P:=P) (ty:=ty) h hE hu hi hz' hb hzs hf hk hm hys hxr hc;simp only[CVr] at hsr;exact⟨v,w',σ',by rw[hsr,v8 (h.ent _ (tI hm))];exact h1,h2,h3,h4,h5⟩
        ·cases hst
       ·cases hst
      ·split at hst
       ·rename_i k hk0;split at hst
        ·rename_i hk;obtain⟨ys,hys,e⟩:=bf.1 hst;cases e;simp only[tL] at hc;obtain⟨v,w',σ',h1,h2,h3,h4,h5⟩:=A3F (P:=P) (ty:=ty) (A:=none) h hE hu hi hz' hb hzs hf hk hys hxr hc;simp only[CVr] at hsr;exact⟨v,w',σ',by rw[hsr];exact h1,h2,h3,h4,h5⟩
        ·cases hst
       ·cases hst
      ·split at hst
       ·rename_i k hk0;split at hst
        ·rename_i hk;obtain⟨ys,hys,e⟩:=bf.1 hst;cases e;simp only[tL] at hc;obtain⟨A,hA⟩:=hsr;obtain⟨v,w',σ',h1,h2,h3,h4,h5⟩:=A3F (P:=P) (ty:=ty) (A:=A) h hE hu hi hz' hb hzs hf hk hys hxr hc;exact⟨v,w',σ',by rw[hA];exact h1,h2,h3,h4,h5⟩
        ·cases hst
       ·cases hst
      ·cases hst
     ·cases hst
    ·cases hst
   ·cases hst
  ·cases hst
 ·cases hst
def A0H (P:Program) (H:tG) (k:Kd) (t:TypeId) (x:CV):Option (List k.ty):=
 match P.underlying t,x with
 |some .string,.val (.string s)=>wQ (.slice (.int .u8)) (.slice k) (s.data.toList.map λb=>(b.toNat:Int))
 |some (.slice _),x=>w9 H k x
 |_,_=>none
def tU {α:Type} (xs ys:List α) (lo:Nat):List α:=xs.take lo++(ys++xs.drop (lo+ys.length))
def A2P (P:Program) (Γ:Env) (H:tG) (ts:Array TypeId) (d s:Operand):Option (CV×tG):=
 match ts.toList with
 |[td,tsr]=>match P.underlying td,evc Γ d,evc Γ s with
  |some (.slice e),some dv,some sv=>match u7 P e with
   |some n=>match dv with
    |.h m=>match tJ H m with
     |some (.row k xs)=>if n=k.sz then (A0H P H k tsr sv).map λys=>(.val (.int .i64 ((ys.take xs.length).length:Nat)),(m,.row k (tU xs (ys.take xs.length) 0))::tO H m) else none
     |_=>none
    |.sub m sz lo len=>match tJ H m with
     |some (.row k xs)=>if n=k.sz/\sz=k.sz then (A0H P H k tsr sv).map λys=>(.val (.int .i64 ((ys.take len).length:Nat)),(m,.row k (tU xs (ys.take len) lo))::tO H m) else none
     |_=>none
    |_=>none
   |none=>none
  |_,_,_=>none
 |_=>none
theorem A72 (h:tK C σ H w) {ys:List k.ty} (hs:A0H P H k t x=some ys) (hx:CVr (Ow C.G H σ) w σ x v) (n:Nat) :
 (ld v).run P w=.ok ys.length w/\∃vs,vB (Ow C.G H σ) w k (ys.take n) vs/\(∀u∈vs,u.oneCell'=true)/\(ib k.sz (min ys.length n) v).run P w=.ok vs.toArray w:=by
 unfold A0H at hs;split at hs
 ·rename_i s hu;obtain⟨e,rfl⟩:=xM hs;cases e;cases hx;refine⟨by simp[ld],((s.data.toList.take n).map λb=>dh .u8 b.toNat),⟨by simp[Kd.sz],λi hi=>?_⟩,λu hu=>by obtain⟨b,_,rfl⟩:=cj.1 hu;rfl,?_⟩
  ·have hi':i<(s.data.toList.take n).length:=by simpa using hi
   refine⟨[dh .u8 ((s.data.toList.take n)[i]'hi').toNat],?_,λj hj=>?_⟩;·simp[Kd.R]
   ·simp only[Kd.sz] at hj ⊢;have:j=0:=by omega
    subst this;rw[mf,ee,fu,bj hi'];rfl
  ·simp only[ib,ie,du,ep];congr 1;apply ip;simp only[ma,ol,Array.toList_extract,List.extract_eq_take_drop,Nat.sub_zero,ic];congr 1;have:s.data.size=s.data.toList.length:=by simp
   rw[this];rcases xz s.data.toList.length n with hle|hle;·rw[oa hle,fj hle,fj (bp _)]
   ·rw[uz hle]
 ·rename_i e x' hu;obtain⟨A,cap,rfl,_,hr⟩:=yJ h hs hx;have hp:=A2u hr 0 (min ys.length n) (by omega) (A':=A) (λb off e _=>by simpa using e);simp only[ic] at hp;have et:ys.take (min ys.length n)=ys.take n:=by
   rcases xz ys.length n with hle|hle;·rw[oa hle,fj hle,fj (bp _)]
   ·rw[uz hle]
  rw[et] at hp;obtain⟨vs,hfl,h1,hcell⟩:=wN hp;refine⟨by simp[ld],vs,hfl,h1,wG (by rw[hfl.1];simp[ya]) w hcell⟩
 ·cases hs
theorem A3h {xs ys:List k.ty} (h1:vB O w k xs us) (h2:vB O w k ys vs) (lo:Nat) (hl:lo+ys.length<=xs.length) :
 vB O w k (tU xs ys lo) (us.take (lo*k.sz)++(vs++us.drop (lo*k.sz+vs.length))):=by
 have htake:vB O w k (xs.take lo) (us.take (lo*k.sz)):=by have hmul:lo*k.sz<=xs.length*k.sz:=dl _ (by omega);refine⟨by rw[co,co,h1.1,oa hmul,oa (by omega)],λi hi=>?_⟩;simp only[co] at hi;obtain⟨cs,hR,hc⟩:=h1.2 i (by omega);refine⟨cs,by rw[List.getElem_take];exact hR,λj hj=>?_⟩;have hm2:(i+1)*k.sz<=lo*k.sz:=dl _ (by omega);rw[ey,mz] at hm2;rw[gv,if_pos (by omega)];exact hc j hj
 have hdrop:vB O w k (xs.drop (lo+ys.length)) (us.drop (lo*k.sz+vs.length)):=by
  have e:lo*k.sz+vs.length=(lo+ys.length)*k.sz:=by rw[h2.1,ey]
  refine⟨by rw[cq,cq,h1.1,e,zj],λi hi=>?_⟩;simp only[cq] at hi;obtain⟨cs,hR,hc⟩:=h1.2 (lo+ys.length+i) (by omega);refine⟨cs,by rw[List.getElem_drop];exact hR,λj hj=>?_⟩;rw[ft,<-hc j hj,e];congr 1;rw[ey (lo+ys.length) i];omega
 exact A0k htake (A0k h2 hdrop)
theorem A3R (h:tK C σ H w) (hE:tM C σ H w Γ a) {lo:Nat} {td tsr ty:TypeId} (hu:P.underlying td=some (.slice e)) (hz:u7 P e=some k.sz) {xs:List k.ty}
 (hm:tJ H m=some (.row k xs)) {l:Nat} (hs:σ m=.slice A l cap) {A':Option Addr} {cap':Nat} (hlo:lo+len<=l) (hcap:0<len->∃b off,A=some ⟨b,off,none⟩/\A'=some ⟨b,off+lo*k.sz,none⟩)
 {sv:CV} {ys:List k.ty} (hy:A0H P H k tsr sv=some ys) (hx:CVr (Ow C.G H σ) w σ sv u) :
 ∃w',(lm #[td,tsr] ty #[.slice A' len cap',u]).run P w=.ok (.int .i64 ((ys.take len).length:Nat)) w'/\tK C σ ((m,.row k (tU xs (ys.take len) lo))::tO H m) w'/\u6 C σ σ H ((m,.row k (tU xs (ys.take len) lo))::tO H m) w w' Γ a:=by
 obtain⟨hlen,vs,hfl,h1,hfc⟩:=A72 (P:=P) h hy hx len;have hent:tV (Ow C.G H σ) w k xs (σ m):=h.ent _ (tI hm);have hent':=hent;rw[hs] at hent';obtain⟨el,hrow⟩:=zF hent';have hyl:(ys.take len).length<=len:=by simp;omega
 have hn:(ys.take len).length=min ys.length len:=by simp[ya]
 by_cases h0:ys.take len=[]
 ·have hput:tU xs (ys.take len) lo=xs:=by rw[h0];simp[tU]
  have hvs:vs=[]:=bx (by rw[hfl.1,h0];simp);subst hvs;have hmin:min ys.length len=0:=by rw[<-hn,h0];rfl
  have hrun:(lm #[td,tsr] ty #[.slice A' len cap',u]).run P w=.ok (.int .i64 ((ys.take len).length:Nat)) w:=by have hfc':=hfc;rw[hmin] at hfc';cases A'<;>simp[lm,run_underlying hu,hlen,uK hz,hmin,hfc',storeCells,goInt,h0]
  rw[hput];refine⟨w,hrun,?_⟩;have hmem:∀p∈(m,Ent.row k xs)::tO H m,p∈H:=by
   intro p hp;rcases bv.1 hp with rfl|hp;·exact tI hm
   ·exact(uC.1 hp).1
  have hnd:(((m,Ent.row k xs)::tO H m).map di).Nodup:=by simp only[dj,dy];refine⟨λhh=>?_,A08 h.nd⟩;obtain⟨p,hp,e⟩:=cj.1 hh;exact(uC.1 hp).2 e
  refine⟨h.sub hmem hnd,hE.sub hmem,λ_ _ _=>rfl,λb _ ho hb=>ho ?_⟩;rcases hb with hg|⟨p,hp,e⟩;·exact .inl hg
  ·exact .inr ⟨p,hmem p hp,e⟩
 ·have hpos:0<(ys.take len).length:=mr.2 h0;obtain⟨b,off,rfl,rfl⟩:=hcap (by omega);rcases hrow with⟨rfl,rfl⟩|⟨hp,hlc,b',off',c,e2,eA,hh,hsz⟩;·simp at el;omega
  ·injection eA with eA;injection eA with e3 e4 _;subst e3 e4;obtain⟨us,hfx,h1x,hcellx⟩:=wN (by obtain⟨A2,cap2,e5,_,hr⟩:=wO hent';injection e5 with e6 e7 e8;subst e6;exact hr);have hfp:=A3h hfx hfl lo (by omega);have hb:Bk (σ m) b:=by rw[hs];simp only[Bk,blk];rw[if_neg (by omega)]
   have hmul:(lo+(ys.take len).length)*k.sz<=cap*k.sz:=dl _ (by omega);rw[ey,<-hfl.1] at hmul;have hst:=run_storeCells_at P b (off+lo*k.sz) e2 vs 0 c w hh (by omega) h1;simp only[ee] at hst;have hrun:(lm #[td,tsr] ty #[.slice (some ⟨b,off+lo*k.sz,none⟩) len cap',u]).run P w=.ok (.int .i64 ((ys.take len).length:Nat)) (w.setRow b (c.toList.take (off+lo*k.sz)++vs++c.toList.drop (off+lo*k.sz+vs.length)).toArray):=by have hmin:Nat.min ys.length len=min ys.length len:=rfl;rw[hn];simp[lm,run_underlying hu,hlen,uK hz,hmin,hfc,hst,goInt]
   have hO:Ow C.G H σ b:=.inr ⟨_,tI hm,hb⟩;have hso:=yU (w:=w) (c':=(c.toList.take (off+lo*k.sz)++vs++c.toList.drop (off+lo*k.sz+vs.length)).toArray) hO;have hpl:(tU xs (ys.take len) lo).length=xs.length:=by simp only[tU,cy,co,cq] at *;omega
   have hnew:uB (Ow C.G H σ) (w.setRow b (c.toList.take (off+lo*k.sz)++vs++c.toList.drop (off+lo*k.sz+vs.length)).toArray) σ m (.row k (tU xs (ys.take len) lo)):=by
    show tV _ _ _ _ _;rw[hs,el,<-hpl];refine xJ (setRow_heap w b c _ e2 _ hh) (by omega) (by rw[hpl];exact hlc) ?_ (xR hso (λ_ _ h=>h) hfp) (λj hj=>?_)
    ·simp only[ge,cy,co,cq,ep];omega
    ·have hul:=hfx.1;have hmx:xs.length*k.sz<=cap*k.sz:=dl _ hlc;have hmy:(lo+(ys.take len).length)*k.sz<=xs.length*k.sz:=dl _ (by omega);rw[ey,<-hfl.1] at hmy;simp only[cy,co,cq] at hj;rw[fh,gd,vQ _ _ _ _ (by simp;omega),vQ _ _ _ _ (by omega)];have hcj:c.toList[off+j]? =us[j]?:=by
      have hj2:us[j]? =some us[j]:=bj (by omega);obtain⟨b',off',e,hcj⟩:=hcellx j _ hj2;injection e with e;injection e with e3 e4 _;subst e3 e4;rw[cell_of_row w b _ c e2 (0,0) hh] at hcj;rw[hj2,<-hcj];simp
     by_cases hj1:j<lo*k.sz;·rw[if_pos (by omega),if_pos hj1,hcj]
     ·by_cases hj2:j<lo*k.sz+vs.length
      ·rw[if_neg (by omega),if_pos (by omega),if_neg hj1,if_pos hj2];congr 1;omega
      ·rw[if_neg (by omega),if_neg (by omega),if_neg hj1,if_neg hj2,hcj]
   have:=z7 h hE hm hb hnew;exact⟨_,hrun,this.1,this.2.1⟩
theorem A7C (h:tK C σ H w) (hE:tM C σ H w Γ a) {ts:Array TypeId} {ty:TypeId} {d:Operand} {v:CV}
 (hst:A2P P Γ H ts d s=some (v,H')) :
 ∃u w',(lm ts ty #[a.eval d,a.eval s]).run P w=.ok u w'/\tK C σ H' w'/\u6 C σ σ H H' w w' Γ a/\CVr (Ow C.G H' σ) w' σ v u:=by
 unfold A2P at hst;split at hst
 ·rename_i td tsr hts;have hts':ts = #[td,tsr]:=by rw[<-gr (xs:=ts),hts]
  subst hts';split at hst
  ·rename_i e dv sv hu hd hs;have hdr:=tX hE hd;have hsr:=tX hE hs;split at hst
   ·rename_i n hz;split at hst
    ·rename_i m;split at hst
     ·rename_i k xs hm;split at hst
      ·rename_i hn;subst hn;obtain⟨ys,hys,e⟩:=bf.1 hst;cases e;have hent:tV (Ow C.G H σ) w k xs (σ m):=h.ent _ (tI hm);obtain⟨A,cap,hsl,hcc⟩:=hent;simp only[CVr] at hdr;obtain⟨w',h1,h2,h3⟩:=A3R (P:=P) (ty:=ty) (len:=xs.length) (lo:=0) (A':=A) (cap':=cap) h hE hu hz hm hsl (by omega) (λhp=>by
        rcases hcc with⟨_,rfl⟩|⟨_,_,b,off,c,e2,rfl,_⟩;·simp at hp
        ·exact⟨b,off,rfl,by simp⟩) hys hsr
       exact⟨_,w',by rw[hdr,xT hsl];exact h1,h2,h3,rfl⟩
      ·cases hst
     ·cases hst
    ·rename_i m sz lo len;split at hst
     ·rename_i k xs hm;split at hst
      ·rename_i hn;obtain⟨rfl,rfl⟩:=hn;obtain⟨ys,hys,e⟩:=bf.1 hst;cases e;obtain⟨A,l,cap,A',cap',hsl,hv,hlen,hlo,hcap⟩:=hdr;obtain⟨w',h1,h2,h3⟩:=A3R (P:=P) (ty:=ty) (len:=len) (lo:=lo) (A':=A') (cap':=cap') h hE hu hz hm ((v8 (h.ent _ (tI hm))).symm.trans hsl) hlo (λhp=>(hcap (by omega)).2) hys hsr;exact⟨_,w',by rw[hv];exact h1,h2,h3,rfl⟩
      ·cases hst
     ·cases hst
    ·cases hst
   ·cases hst
  ·cases hst
 ·cases hst
def SV.map (f:CV->CV):SV->SV
 |.c x=> .c (f x)
 |.agg l=> .agg (l.map f)
 |.tup l=> .tup (l.map λq=>(q.1,q.2.map f))
def vC (f:CV->CV) (Γ:Env):Env:=Γ.map λp=>(p.1,p.2.map f)
def vO (f:CV->CV) (H:tG):tG:=H.map λp=>(p.1,match p.2 with
 |.box cs=> .box (cs.map f)
 |.lit cs=> .lit (cs.map f)
 |.abox pre k bs post=> .abox (pre.map f) k bs (post.map f)
 |e=>e)
theorem wV {O O':Nat->Prop} {w:World} {σ:Nat->Value} {f:CV->CV} (hf:∀s v,CVr O w σ s v->CVr O' w σ (f s) v):∀{l:List CV} {vs:List Value},CVs O w σ l vs->CVs O' w σ (l.map f) vs
 |[],[],_=>trivial
 |_::_,_::_,h=>⟨hf _ _ h.1,wV hf h.2⟩
 |[],_::_,h=>h.elim
 |_::_,[],h=>h.elim
theorem A0W {O O':Nat->Prop} {w:World} {σ:Nat->Value} {f:CV->CV} (hf:∀s v,CVr O w σ s v->CVr O' w σ (f s) v):∀{l:List (Bool×List CV)} {vs:List Value},PVs O w σ l vs->PVs O' w σ (l.map λq=>(q.1,q.2.map f)) vs
 |[],[],_=>trivial
 |(true,_)::_,_::_,h=>⟨by obtain⟨us,e,hu⟩:=h.1;exact⟨us,e,wV hf hu⟩,A0W hf h.2⟩
 |(false,[_])::_,_::_,h=>⟨hf _ _ h.1,A0W hf h.2⟩
 |(false,[])::_,_::_,h=>h.1.elim
 |(false,_::_::_)::_,_::_,h=>h.1.elim
 |[],_::_,h=>h.elim
 |_::_,[],h=>h.elim
theorem A1s {α β:Type} {f:α->β}:∀{l:List (Nat×α)} {t:Nat} {v:β},tJ (l.map λp=>(p.1,f p.2)) t=some v->∃u,tJ l t=some u/\v=f u
 |[],_,_,h=>by simp[tJ] at h
 | (s,u) :: l,t,v,h => by
   simp only[dj,tJ] at h ⊢;by_cases e:s=t;·rw[if_pos e] at h ⊢;cases h;exact⟨u,rfl,rfl⟩
   ·rw[if_neg e] at h ⊢;exact A1s h
theorem A5B {f:CV->CV} (hf:∀s v,CVr O w σ s v->CVr O' w σ (f s) v):∀{s:SV} {v:Value},SVr O w σ s v->SVr O' w σ (s.map f) v
 |.c _,_,h=>hf _ _ h
 |.agg _,_,h=>by obtain⟨vs,rfl,h⟩:=h;exact⟨vs,rfl,wV hf h⟩
 |.tup _,_,h=>by obtain⟨vs,rfl,h⟩:=h;exact⟨vs,rfl,A0W hf h⟩
theorem A0T (h:tM C σ H w Γ a) {f:CV->CV} (hf:∀s v,CVr (Ow C.G H σ) w σ s v->CVr (Ow C.G H σ) w σ (f s) v):tM C σ H w (vC f Γ) a:=
 ⟨λt sv hl=>by obtain⟨u,hu,rfl⟩:=A1s hl;exact⟨(h.1 t u hu).1,A5B hf (h.1 t u hu).2⟩,h.2⟩
def tW (H:tG) (ns:List Nat):tG:=H.filter λp=>!ns.contains p.1
theorem wE {ns:List Nat} {p:Nat×Ent}:p∈tW H ns↔p∈H/\p.1∉ns:=by simp[tW]
theorem A6Z {ns:List Nat} (h:(H.map di).Nodup):((tW H ns).map di).Nodup:=(ux _ (nw)).nodup h
def tZ (k:Int) (l:List Int):List Int:=l.filter (λx=>decide (x<k))++k::l.filter (λx=>decide (k<x))
def uQ (k:Int) (l:List Int):List Int:=l.filter λx=>!(x==k)
theorem A7c (h:tK C σ H w) (ns:List Nat) (n':Nat) (e':Ent) (v':Value)
 (hfree:∀p∈tW H ns,p.1≠n'/\p.2.has n'=false)
 (hw:∀b,b<w.heap.size->(∀n∈ns,∀e,(n,e)∈H->¬Bk (σ n) b)->w'.heap[b]? =w.heap[b]?)
 (hs:w.heap.size<=w'.heap.size) (hos:w'.os=w.os) (ht:w'.tape=w.tape) (hou:w'.output=w.output)
 (hblk:∀b,Bk v' b->(∃n∈ns,(∃e,(n,e)∈H)/\Bk (σ n) b)\/w.heap.size<=b)
 (hent:uA (Ow C.G H σ) w w'->(∀b,b<w.heap.size->¬Ow C.G H σ b->¬Ow C.G ((n',e')::tW H ns) (upd σ n' v') b)->uB (Ow C.G ((n',e')::tW H ns) (upd σ n' v')) w' (upd σ n' v') n' e') :
 tK C (upd σ n' v') ((n',e')::tW H ns) w'/\uA (Ow C.G H σ) w w'/\
  ∀b,b<w.heap.size->¬Ow C.G H σ b->¬Ow C.G ((n',e')::tW H ns) (upd σ n' v') b:=by
 have hne:∀p∈tW H ns,upd σ n' v' p.1=σ p.1:=λp hp=>tT (hfree p hp).1;have hso:uA (Ow C.G H σ) w w':=λb hb ho=>hw b hb λn hn e he hb'=>ho (.inr ⟨(n,e),he,hb'⟩);have hanti:∀b,b<w.heap.size->¬Ow C.G H σ b->¬Ow C.G ((n',e')::tW H ns) (upd σ n' v') b:=by
  intro b hb ho ho';rcases ho' with hg|⟨p,hp,hbp⟩;·exact ho (.inl hg)
  ·rcases bv.1 hp with rfl|hp
   ·rw[tQ] at hbp;rcases hblk b hbp with⟨n,hn,⟨e,he⟩,hb1⟩|hb2;·exact ho (.inr ⟨(n,e),he,hb1⟩)
    ·omega
   ·rw[hne p hp] at hbp;exact ho (.inr ⟨p,(wE.1 hp).1,hbp⟩)
 have hkb:∀p∈tW H ns,∀b,Bk (σ p.1) b->∀n∈ns,∀e,(n,e)∈H->¬Bk (σ n) b:=by intro p hp b hb n hn e he;have hp':=wE.1 hp;exact h.disj p hp'.1 (n,e) he (λe'=>hp'.2 (e'▸hn)) b hb
 have hold:∀p∈tW H ns,∀b,Bk (σ p.1) b->w'.heap[b]? =w.heap[b]?:=λp hp b hb=>
  hw b (xC (h.ent p (wE.1 hp).1) b hb) (hkb p hp b hb)
 have hnames:∀p∈tW H ns,∀m,p.2.has m=true->upd σ n' v' m=σ m:=by intro p hp m hm;refine tT λe=>?_;subst e;rw[(hfree p hp).2] at hm;cases hm
 refine⟨⟨λp hp=>?_,?_,?_,?_,?_⟩,hso,hanti⟩
 ·rcases bv.1 hp with rfl|hp;·exact hent hso hanti
  ·exact A0R (hne p hp) (hnames p hp) (yB hso hanti (hold p hp) (h.ent p (wE.1 hp).1))
 ·simp only[dj,dy];refine⟨λhm=>?_,A6Z h.nd⟩;obtain⟨p,hp,e⟩:=cj.1 hm;exact(hfree p hp).1 e
 ·have key:∀q∈tW H ns,∀b,Bk v' b->¬Bk (σ q.1) b:=by
   intro q hq b hb hb';rcases hblk b hb with⟨n,hn,⟨e,he⟩,hb1⟩|hb2;·exact hkb q hq b hb' n hn e he hb1
   ·have:=xC (h.ent q (wE.1 hq).1) b hb';omega
  intro p hp q hq hpq b hb hb';rcases bv.1 hp with rfl|hp<;>rcases bv.1 hq with rfl|hq;·exact hpq rfl
  ·rw[tQ] at hb;rw[hne q hq] at hb';exact key q hq b hb hb'
  ·rw[tQ] at hb';rw[hne p hp] at hb;exact key p hp b hb' hb
  ·rw[hne p hp] at hb;rw[hne q hq] at hb';exact h.disj p (wE.1 hp).1 q (wE.1 hq).1 hpq b hb hb'
 ·intro p hp b hb;rcases bv.1 hp with rfl|hp
  ·rw[tQ] at hb;rcases hblk b hb with⟨n,hn,⟨e,he⟩,hb1⟩|hb2;·exact h.mine (n,e) he b hb1
   ·refine⟨λhg=>?_,.inr (fo h.fr.size hb2)⟩;have:=h.fr.gsize b hg;have:=h.fr.size;omega
  ·rw[hne p hp] at hb;exact h.mine p (wE.1 hp).1 b hb
 ·refine⟨hos.trans h.fr.os,ht.trans h.fr.tape,hou.trans h.fr.output,fo h.fr.size hs,λb hb ho=>?_,h.fr.gsize⟩;rw[hw b (na hb h.fr.size) ?_];·exact h.fr.block b hb ho
  ·intro n hn e he hb';rcases (h.mine (n,e) he b hb').2 with h1|h1;·exact ho h1
   ·omega
theorem vL (h:tK C σ H w) (hE:tM C σ H w Γ a) (ns:List Nat) (n':Nat) (e':Ent) (v':Value) (hf:tY n' Γ H=true)
 (hw:∀b,b<w.heap.size->(∀n∈ns,∀e,(n,e)∈H->¬Bk (σ n) b)->w'.heap[b]? =w.heap[b]?)
 (hs:w.heap.size<=w'.heap.size) (hos:w'.os=w.os) (ht:w'.tape=w.tape) (hou:w'.output=w.output)
 (hblk:∀b,Bk v' b->(∃n∈ns,(∃e,(n,e)∈H)/\Bk (σ n) b)\/w.heap.size<=b)
 (hent:uA (Ow C.G H σ) w w'->(∀b,b<w.heap.size->¬Ow C.G H σ b->¬Ow C.G ((n',e')::tW H ns) (upd σ n' v') b)->uB (Ow C.G ((n',e')::tW H ns) (upd σ n' v')) w' (upd σ n' v') n' e') :
 tK C (upd σ n' v') ((n',e')::tW H ns) w'/\u6 C σ (upd σ n' v') H ((n',e')::tW H ns) w w' Γ a:=by
 have hst:=A7c h ns n' e' v' (λp hp=>uI hf p (wE.1 hp).1) hw hs hos ht hou hblk hent;exact⟨hst.1,⟨hE.step hst.2.1 hst.2.2 (zZ hf),hst.2.1,hst.2.2⟩⟩
theorem y6 (h:tK C σ H w) (hE:tM C σ H w Γ a) {e:Ent} (hm:tJ H m=some e)
 (hw:∀b,b<w.heap.size->¬Bk (σ m) b->w'.heap[b]? =w.heap[b]?) (hs:w.heap.size<=w'.heap.size) (hos:w'.os=w.os) (ht:w'.tape=w.tape) (hou:w'.output=w.output)
 (hent:uA (Ow C.G H σ) w w'->uB (Ow C.G H σ) w' σ m e') :
 tK C σ ((m,e')::tO H m) w'/\u6 C σ σ H ((m,e')::tO H m) w w' Γ a:=by
 have hin:=tI hm;have how:∀q,Ow C.G ((m,e')::tO H m) σ q↔Ow C.G H σ q:=by
  intro q;constructor
  ·rintro (hg|⟨p,hp,hq⟩);·exact .inl hg
   ·rcases bv.1 hp with rfl|hp;·exact .inr ⟨(m,e),hin,hq⟩
    ·exact .inr ⟨p,(uC.1 hp).1,hq⟩
  ·rintro (hg|⟨p,hp,hq⟩);·exact .inl hg
   ·by_cases hpm:p.1=m;·exact .inr ⟨(m,e'),de,by simpa[hpm] using hq⟩
    ·exact .inr ⟨p,cg _ (uC.2 ⟨hp,hpm⟩),hq⟩
 have hso:uA (Ow C.G H σ) w w':=λb hb ho=>hw b hb λhb'=>ho (.inr ⟨(m,e),hin,hb'⟩);have hst:=y5 (w':=w') h m m e' (σ m) (λ_ _=>.inl rfl) (λp hp=>(uC.1 hp).2)
  (λq hq hb=>hw q hq (hb e hin)) hs hos ht hou (λq hq=>.inl ⟨hq,e,hin⟩) (by rw[z8,show Ow C.G ((m,e')::tO H m) σ=Ow C.G H σ from funext λq=>propext (how q)];exact hent hso)
 rw[z8] at hst;exact⟨hst.1,⟨hE.step hst.2.1 hst.2.2 (λ_ _ _ _ _=>rfl),hst.2.1,hst.2.2⟩⟩
def xE (P:Program) (t:TypeId):Bool:=
 match P.underlying t with
 |some (.map k e)=>(match P.underlying k with|some (.int .i64)=>true|_=>false)&&(match uL P e with|some (.agg c)=>c.size==0|_=>false)
 |_=>false
theorem A1v (h:xE P t=true):∃k e,P.underlying t=some (.map k e)/\P.underlying k=some (.int .i64)/\uL P e=some (.agg #[]):=by
 unfold xE at h;split at h
 ·rename_i k e hu;simp only[bq] at h;refine⟨k,e,hu,?_,?_⟩
  ·have:=h.1;split at this;·assumption
   ·cases this
  ·have:=h.2;split at this
   ·rename_i c hz;rw[hz,show c = #[] from Array.eq_empty_of_size_eq_zero (by simpa using this)]
   ·cases this
 ·cases h
theorem vS {k x:Int}:x∈tZ k l↔x=k\/x∈l:=by
 simp only[tZ,cf,ef,bv,decide_eq_true_eq];constructor
 ·rintro (⟨h,_⟩|rfl|⟨h,_⟩);·exact .inr h
  ·exact .inl rfl
  ·exact .inr h
 ·rintro (rfl|h);·exact .inr (.inl rfl)
  ·rcases Int.lt_trichotomy x k with h1|rfl|h1;·exact .inl ⟨h,h1⟩
   ·exact .inr (.inl rfl)
   ·exact .inr (.inr ⟨h,h1⟩)
theorem A1j {k:Int} (h:l.Pairwise (·< ·)):(tZ k l).Pairwise (·< ·):=by
 unfold tZ;rw[List.pairwise_append];refine⟨h.filter _,dz.2 ⟨λx hx=>by simpa using(ef.1 hx).2,h.filter _⟩,λx hx y hy=>?_⟩;have h1:x<k:=by simpa using(ef.1 hx).2
 rcases bv.1 hy with rfl|hy;·exact h1
 ·have h2:k<y:=by simpa using(ef.1 hy).2
  omega
theorem A6A {k:Int} (h:l.Pairwise (·< ·)) (hk:k∈l):tZ k l=l:=by
 induction l with
 |nil=>cases hk
 | cons x l ih =>
   have hx:=dz.1 h;unfold tZ;by_cases e:x=k
   ·subst e;have h1:l.filter (λy=>decide (y<x))=[]:=by
     rw[List.filter_eq_nil_iff];intro y hy;have:=hx.1 y hy;simp;omega
    have h2:l.filter (λy=>decide (x<y))=l:=by rw[ir];intro y hy;simpa using hx.1 y hy
    rw[fx,fx,if_neg (by simp),if_neg (by simp),h1,h2];rfl
   ·have hk':k∈l:=by simpa[Ne.symm e] using hk
    have hlt:=hx.1 k hk';have h1:=ih hx.2 hk';unfold tZ at h1;rw[fx,if_pos (by simpa using hlt),fx,if_neg (by simp;omega),db,h1]
theorem yQ {k x:Int}:x∈uQ k l↔x∈l/\x≠k:=by simp[uQ]
open MapKept in
theorem A1u (h:uN w b l):∃es clock,w.heap[b]? =some (.map es clock)/\Stamped es clock/\(∀x∈es.toList,IsKey (.int .i64) x.key)/\
 (∀x∈es.toList,∃n,x.key=.int .i64 n/\x.val=.agg #[]/\n∈l)/\(∀n∈l,∃x∈es.toList,x.key=.int .i64 n)/\l.Pairwise (·< ·)/\∀n∈l,-9223372036854775808<=n/\n<=9223372036854775807:=by
 obtain⟨es,clock,hb,hs,he,hl⟩:=h;exact⟨es,clock,hb,hs,λx hx=>by obtain⟨n,hn,_⟩:=he x hx;rw[hn];rfl,he,hl⟩
open MapKept in
theorem A6O (h:uN w b l) (ht:xE P t=true) (k:Int) :
 (ra t (.map (some b)) (.int .i64 k) true).run P w=.ok (.tuple #[.agg #[],.bool (l.contains k)]) w:=by
 obtain⟨kt,et,hu,hk,hz⟩:=A1v ht;obtain⟨es,clock,hb,_,hks,he,hl,_,_⟩:=A1u h;have hkey:IsKey (.int .i64) (.int .i64 k):=rfl;rcases findNow_spec hkey es.toList 0 hks with⟨h1,h2⟩|⟨j,x,h1,h2,h3⟩
 ·have hc:l.contains k=false:=by
   rw[Bool.eq_false_iff];intro hc;obtain⟨x,hx,hkx⟩:=hl k (by simpa using hc);exact h2 x hx hkx
  rw[hc];simp[ra,run_underlying hu,kp hb,lp hk hkey,run_findKey hk h1,wK hz]
 ·have hc:l.contains k=true:=by
   obtain⟨n,hn,_,hmem⟩:=he x (fm h2);rw[hn] at h3;injection h3 with _ h3;subst h3;simpa using hmem
  obtain⟨n,_,hv,_⟩:=he x (fm h2);rw[hc];simp[ra,run_underlying hu,kp hb,lp hk hkey,run_findKey hk h1,hv]
open MapKept in
theorem A6Q (h:uN w b l) (ht:xE P t=true) {k:Int} (h0 : -9223372036854775808<=k) (h1:k<=9223372036854775807) :
 ∃w',(oc t (.map (some b)) (.int .i64 k) (.agg #[])).run P w=.ok () w'/\uN w' b (tZ k l)/\(∀q,q≠b->w'.heap[q]? =w.heap[q]?)/\w'.heap.size=w.heap.size/\w'.os=w.os/\w'.tape=w.tape/\w'.output=w.output:=by
 obtain⟨kt,et,hu,hk,hz⟩:=A1v ht;obtain⟨es,clock,hb,hs,hks,he,hl,hp,hr⟩:=A1u h;have hkey:IsKey (.int .i64) (.int .i64 k):=rfl;rcases findNow_spec hkey es.toList 0 hks with⟨h3,h4⟩|⟨j,x,h3,h4,h5⟩
 ·refine⟨{w with heap:=w.heap.setIfInBounds b (.map (es.push {key:=.int .i64 k,val:=.agg #[],born:=clock}) (clock+1))},
   by simp[oc,run_underlying hu,kp hb,lp hk hkey,run_findKey hk h3,run_setObj_map _ hb],
   ⟨_,_,(heap_set hb).1,stamped_push hs h4,?_,?_,A1j hp,?_⟩,λq hq=>(heap_set hb).2 q hq,by simp,rfl,rfl,rfl⟩
  ·intro x hx;simp only[Array.toList_push,cf,List.mem_singleton] at hx;rcases hx with hx|rfl
   ·obtain⟨n,h6,h7,h8⟩:=he x hx;exact⟨n,h6,h7,vS.2 (.inr h8)⟩
   ·exact⟨k,rfl,rfl,vS.2 (.inl rfl)⟩
  ·intro n hn;rcases vS.1 hn with rfl|hn;·exact⟨{key:=.int .i64 n,val:=.agg #[],born:=clock},by simp,rfl⟩
   ·obtain⟨x,hx,hx2⟩:=hl n hn;exact⟨x,by simp[hx],hx2⟩
  ·intro n hn;rcases vS.1 hn with rfl|hn;·exact⟨h0,h1⟩
   ·exact hr n hn
 ·have hj:es[j]? =some x:=by simpa using h4
  have hkl:k∈l:=by obtain⟨n,hn,_,hmem⟩:=he x (fm h4);rw[hn] at h5;injection h5 with _ h5;exact h5▸hmem
  have hval:x.val=.agg #[]:=by obtain⟨n,_,hv,_⟩:=he x (fm h4);exact hv
  have hmod:es.modify j (λe=>{e with key:=.int .i64 k,val:=.agg #[]})=es:=by
   apply Bz;·simp
   ·intro i hi1 hi2;rw[Array.getElem_modify];split
    ·rename_i e;subst e;have:es[j]=x:=by
      have:=jf hi2;rw[this] at hj;exact fg hj
     rw[this,<-h5,<-hval]
    ·rfl
  rw[A6A hp hkl];have hsame:({w with heap:=w.heap.setIfInBounds b (.map es clock)}:World)=w:=by
   have:w.heap.setIfInBounds b (.map es clock)=w.heap:=by
    apply Bz;·simp
    ·intro i hi1 hi2;rw[Array.getElem_setIfInBounds];split
     ·rename_i e;subst e;rw[jf hi2] at hb;exact(fg hb).symm
     ·rfl
   rw[this]
  refine⟨w,?_,h,λ_ _=>rfl,rfl,rfl,rfl,rfl⟩;have hrun:(oc t (.map (some b)) (.int .i64 k) (.agg #[])).run P w=.ok () {w with heap:=w.heap.setIfInBounds b (.map (es.modify j (λe=>{e with key:=.int .i64 k,val:=.agg #[]})) clock)}:=by simp[oc,run_underlying hu,kp hb,lp hk hkey,run_findKey hk h3,hj,h5,run_keyThatStays hkey,run_setObj_map _ hb]
  rw[hrun,hmod,hsame]
open MapKept in
theorem A6N (h:uN w b l) {kt2 ty:TypeId} (ht:xE P t=true) (k:Int) :
 ∃w',(pp #[t,kt2] ty #[.map (some b),.int .i64 k]).run P w=.ok (.tuple #[]) w'/\uN w' b (uQ k l)/\(∀q,q≠b->w'.heap[q]? =w.heap[q]?)/\w'.heap.size=w.heap.size/\w'.os=w.os/\w'.tape=w.tape/\w'.output=w.output:=by
 obtain⟨kt,et,hu,hk,hz⟩:=A1v ht;obtain⟨es,clock,hb,hs,hks,he,hl,hp,hr⟩:=A1u h;have hkey:IsKey (.int .i64) (.int .i64 k):=rfl;rcases findNow_spec hkey es.toList 0 hks with⟨h3,h4⟩|⟨j,x,h3,h4,h5⟩
 ·have hkl:∀n∈l,n≠k:=by
   rintro n hn rfl;obtain⟨x,hx,hx2⟩:=hl n hn;exact h4 x hx hx2
  refine⟨{w with heap:=w.heap.setIfInBounds b (.map es clock)},by simp[pp,run_underlying hu,kp hb,lp hk hkey,run_findKey hk h3,run_setObj_map _ hb],
   ⟨es,clock,(heap_set hb).1,hs,?_,?_,hp.filter _,λn hn=>hr n (yQ.1 hn).1⟩,λq hq=>(heap_set hb).2 q hq,by simp,rfl,rfl,rfl⟩
  ·intro x hx;obtain⟨n,h6,h7,h8⟩:=he x hx;exact⟨n,h6,h7,yQ.2 ⟨h8,hkl n h8⟩⟩
  ·intro n hn;exact hl n (yQ.1 hn).1
 ·have hsub:∀y∈(es.eraseIdxIfInBounds j).toList,y∈es.toList/\y.key≠.int .i64 k:=by
   intro y hy;have hjl:j<es.size:=by have:=(dt.1 h4).1;simpa using this
   unfold qi at hy;rw[dif_pos hjl] at hy;simp only[ry] at hy;have hmem:=(List.eraseIdx_sublist _ _).subset hy;refine⟨hmem,λe=>?_⟩;have hnd:=(MapKept.stamped_iff es clock).1 hs;obtain⟨i,hi1,hi2⟩:=fe hy;have hpw:=hnd.2.2;rw[List.pairwise_iff_getElem] at hpw;have hxk:es.toList[j]'(by simpa using hjl)=x:=by have:=(dt.1 h4).2;exact this
   rw[List.getElem_eraseIdx] at hi2;split at hi2
   ·rename_i hlt;have:=hpw i j (by simp;omega) (by simpa using hjl) hlt;rw[hi2,hxk,h5,e] at this;exact this rfl
   ·rename_i hge;have hi1':i+1<es.toList.length:=by
     have h9:=hi1;rw[List.length_eraseIdx,if_pos (by simpa using hjl)] at h9;omega
    have:=hpw j (i+1) (by simpa using hjl) hi1' (by omega);rw[hi2,hxk,h5,e] at this;exact this rfl
  have hkeep:∀y∈es.toList,y.key≠.int .i64 k->y∈(es.eraseIdxIfInBounds j).toList:=by
   intro y hy hne;have hjl:j<es.size:=by have:=(dt.1 h4).1;simpa using this
   unfold qi;rw[dif_pos hjl];simp only[ry];obtain⟨i,hi1,hi2⟩:=fe hy;rw[List.mem_eraseIdx_iff_getElem];refine⟨i,hi1,λe=>?_,hi2⟩;subst e;have hxk:es.toList[i]=x:=(dt.1 h4).2;rw[<-hi2,hxk,h5] at hne;exact hne rfl
  refine⟨{w with heap:=w.heap.setIfInBounds b (.map (es.eraseIdxIfInBounds j) clock)},by simp[pp,run_underlying hu,kp hb,lp hk hkey,run_findKey hk h3,run_setObj_map _ hb],
   ⟨_,clock,(heap_set hb).1,stamped_erase hs _,?_,?_,hp.filter _,λn hn=>hr n (yQ.1 hn).1⟩,λq hq=>(heap_set hb).2 q hq,by simp,rfl,rfl,rfl⟩
  ·intro y hy;obtain⟨hy1,hy2⟩:=hsub y hy;obtain⟨n,h6,h7,h8⟩:=he y hy1;exact⟨n,h6,h7,yQ.2 ⟨h8,λe=>hy2 (by rw[h6,e])⟩⟩
  ·intro n hn;obtain⟨hn1,hn2⟩:=yQ.1 hn;obtain⟨y,hy1,hy2⟩:=hl n hn1;exact⟨y,hkeep y hy1 (by rw[hy2];intro e;injection e with _ e;exact hn2 e),hy2⟩
theorem A0D {ty:TypeId} {i:TypeInfo} (ht:P.underlying t=some (.slice e)) {dx:TypeDesc} (htx:P.underlying tx=some dx) (hnx:∀q,dx≠.int q) (hi:P.info? e=some i)
 (hz:i.zero=some z) (hb:0<i.bytes) (hzs:z.cells.size=i.size) (hk:k.sz=i.size) {xs ys:List k.ty} (hrow0:tV O w k xs v) (hfl:vB O w k ys vs) (h1:∀x∈vs,x.oneCell'=true)
 (hlu:∀w',(ld u).run P w'=.ok ys.length w') (hf1:(ib i.size ys.length u).run P w=.ok vs.toArray w) (hf2:(ib i.size ys.length u).run P w.drew=.ok vs.toArray w.drew)
 (hbd:(xs.length+ys.length)*i.bytes<=140737488355328) :
 ∃ v' w',(fq #[t,tx] ty #[v,u]).run P w=.ok v' w'∧(∃ A c,v'=.slice A (xs.length+ys.length) c)∧(∀ b,b<w.heap.size→¬ Bk v b→w'.heap[b]? = w.heap[b]?)∧w.heap.size≤w'.heap.size∧w'.os=w.os∧w'.tape=w.tape∧w'.output=w.output∧
   (∀b,Bk v' b->Bk v b\/w.heap.size<=b)/\(w8 w v e->w8 w' v' e)/\∀O',uA O w w'->(∀b,b<w.heap.size->¬O b->¬O' b)->tV O' w' k (xs++ys) v':=by
 obtain⟨A,cap,rfl,hlc,hrx⟩:=wO hrow0;obtain⟨us,hfx,h1x,hcellx⟩:=wN hrx;have hfa:=A0k hfx hfl;obtain⟨_,hrow⟩:=zF hrow0;have hzer:(match dx with|.int _=>true|_=>false)=false:=by cases dx<;>first|rfl|(rename_i q;exact(hnx q rfl).elim)
 by_cases hroom:xs.length+ys.length<=cap
 ·rcases hrow with⟨rfl,rfl⟩|⟨hp,_,b,off,c,e2,rfl,hh,hsz⟩
  ·have hy:ys=[]:=bx (by simpa using hroom);subst hy;have hvs:vs=[]:=bx (by rw[hfl.1];simp);subst hvs;refine⟨.slice A 0 0,w,?_,⟨A,0,rfl⟩,λ_ _ _=>rfl,bp _,rfl,rfl,rfl,λb hb=>.inl hb,λhT A' len' cap' hv=>(by cases hv;exact hT _ _ _ rfl),λO' _ _=>⟨A,0,rfl,.inl ⟨rfl,rfl⟩⟩⟩;have:=hlu w;have hf1':(ib i.size 0 u).run P w=.ok #[] w:=by simpa using hf1
   cases A<;>simp[fq,run_underlying ht,run_underlying htx,sizeOf,typeInfo,hi,hlu,hf1',storeCells]
  ·have hmul:(xs.length+ys.length)*k.sz<=cap*k.sz:=dl _ hroom;rw[ey] at hmul;have hfit:off+xs.length*i.size+vs.length<=c.size:=by rw[<-hk,hfl.1];omega
   have hst:=run_storeCells_at P b (off+xs.length*i.size) e2 vs 0 c w hh (by omega) h1;simp only[ee] at hst;have hblk:Bk (.slice (some ⟨b,off,none⟩) xs.length cap) b:=by simp only[Bk,blk];rw[if_neg (by omega)]
   refine⟨.slice (some ⟨b,off,none⟩) (xs.length+ys.length) cap,w.setRow b (c.toList.take (off+xs.length*i.size)++vs++c.toList.drop (off+xs.length*i.size+vs.length)).toArray,?_,⟨_,_,rfl⟩,
    λq _ hq=>setRow_other w b q _ (λe=>hq (e▸hblk)),by simp[mg],rfl,rfl,rfl,λq hq=>?_,λhT A' len' cap' hv=>?_,λO' hso hanti=>?_⟩
   ·simp[fq,run_underlying ht,run_underlying htx,sizeOf,typeInfo,hi,hlu,hroom,hf1,im,hst]
   ·simp only[Bk,blk] at hq;rw[if_neg (by omega)] at hq;simp at hq;exact .inl (hq▸hblk)
   ·cases hv;rcases hT _ _ _ rfl with⟨h0,_⟩|⟨hc,b',c',e1,hh'⟩;·omega
    ·cases e1;rw[hh] at hh';cases hh';exact .inr ⟨hc,b,_,rfl,setRow_heap w b c _ e _ hh⟩
   ·rw[<-cy];refine xJ (setRow_heap w b c _ e2 _ hh) (by omega) (by simpa using hroom) ?_ (xR hso hanti hfa) (λj hj=>?_)
    ·simp only[ge,cy,co,cq,ep];omega
    ·rw[fh,gd,vQ _ _ _ _ (by simp;omega)];rw[cy,hfx.1,hk] at hj;by_cases hj1:j<us.length
     ·have hj2:us[j]? =some us[j]:=bj hj1;rw[dk hj1];rw[hfx.1,hk] at hj1;rw[if_pos (by omega)];obtain⟨b',off',e,hcj⟩:=hcellx j _ hj2;injection e with e;injection e with e3 e4 _;subst e3 e4;rw[cell_of_row w b _ c e2 (0,0) hh] at hcj;rw[hj2,<-hcj];simp
     ·rw[hfx.1,hk] at hj1;rw[if_neg (by omega),if_pos (by omega),dd (by rw[hfx.1,hk];omega),hfx.1,hk];congr 1;omega
 ·have h63:xs.length+ys.length<=9223372036854775807:=by have:=zN hb hbd;omega
  have hn:¬(xs.length+ys.length<=cap):=hroom;have hg:cap<xs.length+ys.length:=by omega
  have h63':¬(9223372036854775807<((xs.length:Int)+(ys.length:Int))):=by omega
  have h48':¬(281474976710656<sj (xs.length+ys.length) cap*i.bytes):=by have:=growslice_fits hg hbd;omega
  have hfo:=wG (P:=P) (l:=xs.length) (cap:=cap) (size:=i.size) (by rw[hfx.1,hk]) w.drew (by simpa using hcellx);refine⟨.slice (some ⟨w.heap.size,0,none⟩) (xs.length+ys.length) (grownCap w (xs.length+ys.length) cap e),
   w.drew.alloc (.cells (us.toArray++vs.toArray++fv z.cells (grownCap w (xs.length+ys.length) cap e-(xs.length+ys.length))) e),?_,⟨_,_,rfl⟩,
   λb hb _=>uH w.drew _ b hb,by simp,rfl,rfl,rfl,λb hb=>?_,λ_ A' len' cap' hv=>(by cases hv;exact .inr ⟨by have:=grownCap_ge w (xs.length+ys.length) cap e;omega,_,_,rfl,heap_alloc_new w.drew _⟩),λO' hso hanti=>?_⟩
  ·simp[fq,run_underlying ht,run_underlying htx,sizeOf,typeInfo,zeroValue,hi,hz,hlu,hn,h63',h48',vu,hf2,hfo,newRow,grownCap];congr 2;apply ip;simp[gd]
  ·simp only[Bk,blk] at hb;split at hb;·cases hb
   ·simp at hb;exact .inr (by omega)
  ·have hgc1:=grownCap_ge w (xs.length+ys.length) cap e;have hgc2:=grownCap_le_maxLen w (xs.length+ys.length) cap e h63;have key:tV O' (w.drew.alloc (.cells (us.toArray++vs.toArray++fv z.cells (grownCap w (xs.length+ys.length) cap e-(xs.length+ys.length))) e)) k (xs++ys) (.slice (some ⟨w.heap.size,0,none⟩) (xs++ys).length (grownCap w (xs.length+ys.length) cap e)):=by
    refine xJ (heap_alloc_new w.drew _) hgc2 (by rw[cy];exact hgc1) ?_ (xR hso hanti hfa) (λj hj=>?_)
    ·simp only[nl,ge,A1U z _ hzs,hfl.1,hfx.1,hk];rw[<-ey,<-ey,ew];exact dl _ (by omega)
    ·simp only[ew];rw[ff (by simpa using hj)];simp
   rw[cy] at key;exact key
structure u4 where
 v:SV
 H:tG
 nx:Nat
 c:List Prop
 f:CV->CV
variable {out:u4}
def A2l (P:Program) (C:FC) (σ:Nat->Value) (H:tG) (nx:Nat) (Γ:Env) (a:Act) (w:World) (o:Oper) (out:u4):Prop:=
 ∃ u w' σ',((execOp a.eval o).run P w=.ok (.value u) w'∨((execOp a.eval o).run P w=.ok .skip w'∧u=undef))∧tK C σ' out.H w'∧u6 C σ σ' H out.H w w' Γ a∧SVr (Ow C.G out.H σ') w' σ' out.v u∧
   (∀n,n≠nx\/out.nx=nx->σ' n=σ n)/\∀s v,CVr (Ow C.G out.H σ') w' σ' s v->CVr (Ow C.G out.H σ') w' σ' (out.f s) v
theorem xA (h:tK C σ H w) (hE:tM C σ H w Γ a) (hf:tY m Γ H=true) (e':Ent) (v':Value)
 (hw:∀b,b<w.heap.size->w'.heap[b]? =w.heap[b]?) (hs:w.heap.size<=w'.heap.size) (hos:w'.os=w.os) (ht:w'.tape=w.tape) (hou:w'.output=w.output)
 (hblk:∀b,Bk v' b->w.heap.size<=b)
 (hent:uA (Ow C.G H σ) w w'->(∀b,b<w.heap.size->¬Ow C.G H σ b->¬Ow C.G ((m,e')::H) (upd σ m v') b)->uB (Ow C.G ((m,e')::H) (upd σ m v')) w' (upd σ m v') m e') :
 tK C (upd σ m v') ((m,e')::H) w'/\u6 C σ (upd σ m v') H ((m,e')::H) w w' Γ a:=by
 have e:tW H []=H:=by simp[tW]
 have:=vL (w':=w') h hE [] m e' v' hf (λb hb _=>hw b hb) hs hos ht hou (λb hb=>.inr (hblk b hb)) (by rw[e];exact hent);rw[e] at this;exact this
def tR (s:ByteArray):List Int:=s.data.toList.map λb=>(b.toNat:Int)
theorem A1h (s:ByteArray):vB O w (.int .u8) (tR s) ((tR s).map (dh .u8)):=by
 refine⟨by simp[Kd.sz],λi hi=>⟨[.int .u8 (tR s)[i]],rfl,λj hj=>?_⟩⟩;simp only[Kd.sz] at hj;obtain rfl:j=0:=by omega
 simp[Kd.sz,hi]
theorem A1S (s:ByteArray):(tR s).length=s.size:=by simp only[tR,du,ep];rfl
theorem yM (s:ByteArray) (w:World):(ib 1 (tR s).length (.string s)).run P w=.ok ((tR s).map (dh .u8)).toArray w:=by
 have hl:(tR s).length=s.size:=A1S s;have he:s.extract 0 s.size=s:=by apply ByteArray.ext;rw[ol];exact Array.extract_size
 simp only[ib,hl,he,ie];congr 1;apply ip;simp[tR]
def zM (P:Program) (Γ:Env) (H:tG) (nx:Nat) (t tx:TypeId) (s x:Operand):Option u4:=
 match P.underlying t,P.underlying tx with
 |some (.slice e),some .string=>match P.info? e,uL P e,evc Γ s,evc Γ x with
  | some i,some z,some sv,some (.val (.string str)) =>
    if (0<i.bytes/\z.cells.size=i.size/\i.size=1)/\tY nx Γ H=true then
     match sv with
     |.h m=>match tJ H m with
      |some (.row (.int .u8) xs)=>some ⟨.c (.h nx),(nx,.row (.int .u8) (xs++tR str))::tO H m,nx+1,[(xs.length+(tR str).length)*i.bytes<=140737488355328],id⟩
      |_=>none
     |.val (.slice none 0 0)=>some ⟨.c (.h nx),(nx,.row (.int .u8) (tR str))::H,nx+1,[(tR str).length*i.bytes<=140737488355328],id⟩
     |.zc=>some ⟨.c (.h nx),(nx,.row (.int .u8) (tR str))::H,nx+1,[(tR str).length*i.bytes<=140737488355328],id⟩
     |_=>none
    else none
  |_,_,_,_=>none
 |_,_=>none
theorem A5i (h:tK C σ H w) (hE:tM C σ H w Γ a) {ty:TypeId} {x:Operand}
 (hst:zM P Γ H nx t tx s x=some out) (hc:tL out.c) :
 ∃u w' σ',(fq #[t,tx] ty #[a.eval s,a.eval x]).run P w=.ok u w'/\tK C σ' out.H w'/\u6 C σ σ' H out.H w w' Γ a/\SVr (Ow C.G out.H σ') w' σ' out.v u/\(∀n,n≠nx->σ' n=σ n)/\out.f=id/\out.nx=nx+1:=by
 unfold zM at hst;split at hst
 ·rename_i e ht htx;split at hst
  ·rename_i i z sv str hi hz0 hs hx;split at hst
   ·rename_i hcond;obtain⟨⟨hb,hzs,h1⟩,hf⟩:=hcond;have hz:i.zero=some z:=by simpa[uL,hi] using hz0
    have hsr:=tX hE hs;have hxr:a.eval x=.string str:=tX hE hx;rw[hxr];have hk:Kd.sz (.int .u8)=i.size:=by rw[h1];rfl
    have hlu:∀w',(ld (.string str)).run P w'=.ok (tR str).length w':=λw'=>by rw[A1S];rfl
    have hone:∀x∈(tR str).map (dh .u8),x.oneCell'=true:=by intro x hx;obtain⟨y,_,rfl⟩:=cj.1 hx;rfl
    have nil:∀A:Option Addr,tL [(tR str).length*i.bytes<=140737488355328]->∃u w' σ',(fq #[t,tx] ty #[.slice A 0 0,.string str]).run P w=.ok u w'/\tK C σ' ((nx,.row (.int .u8) (tR str))::H) w'/\u6 C σ σ' H ((nx,.row (.int .u8) (tR str))::H) w w' Γ a/\
     CVr (Ow C.G ((nx,.row (.int .u8) (tR str))::H) σ') w' σ' (.h nx) u/\∀n,n≠nx->σ' n=σ n:=by
     intro A hbd;simp only[tL] at hbd;obtain⟨v',w',hrun,⟨A',c',rfl⟩,h2,h3,h4,h5,h6,h7,hT,h8⟩:=A0D (P:=P) (ty:=ty) (O:=Ow C.G H σ) (xs:=[]) ht htx (by intro q hq;cases hq) hi hz hb hzs hk ⟨A,0,rfl,.inl ⟨rfl,rfl⟩⟩ (A1h str) hone hlu
      (by rw[h1];exact yM str w) (by rw[h1];exact yM str w.drew) (by simpa using hbd)
     simp only[List.nil_append,eb,ew] at h8 hrun h7;have hal:=xL (w':=w') h hE hf (.int .u8) (tR str) (.slice A' (tR str).length c') (λb hb=>h2 b hb (by cases A<;>simp[Bk,blk])) h3 h4 h5 h6
      (λb hb=>(h7 b hb).elim (λq=>by cases A<;>simp[Bk,blk] at q) id) (λO' hO'=>h8 O' (λb hb _=>h2 b hb (by cases A<;>simp[Bk,blk])) hO')
     exact⟨_,_,_,hrun,hal.1,hal.2,vT (O:=λ_=>False) (w:=w),λ_ hn=>tT hn⟩
    split at hst
    ·rename_i m;split at hst
     ·rename_i xs hm;cases hst;simp only[tL] at hc;have hrow:tV (Ow C.G H σ) w (.int .u8) xs (σ m):=h.ent _ (tI hm);obtain⟨v',w',hrun,⟨A',c',rfl⟩,h2,h3,h4,h5,h6,h7,hT,h8⟩:=A0D (P:=P) (ty:=ty) ht htx (by intro q hq;cases hq) hi hz hb hzs hk hrow (A1h str) hone hlu
       (by rw[h1];exact yM str w) (by rw[h1];exact yM str w.drew) hc
      have hsw:=y7 (w':=w') h hE hm hf (.int .u8) (xs++tR str) (.slice A' (xs.length+(tR str).length) c') h2 h3 h4 h5 h6 h7 h8;simp only[CVr] at hsr;exact⟨_,_,_,by rw[hsr,v8 hrow];exact hrun,hsw.1,hsw.2,vT (O:=λ_=>False) (w:=w),λ_ hn=>tT hn,rfl,rfl⟩
     ·cases hst
    ·cases hst;obtain⟨u,w',σ',g1,g2,g3,g4,g5⟩:=nil none hc;simp only[CVr] at hsr;exact⟨u,w',σ',by rw[hsr];exact g1,g2,g3,g4,g5,rfl,rfl⟩
    ·cases hst;obtain⟨A,hsr⟩:=hsr;obtain⟨u,w',σ',g1,g2,g3,g4,g5⟩:=nil A hc;exact⟨u,w',σ',by rw[hsr];exact g1,g2,g3,g4,g5,rfl,rfl⟩
    ·cases hst
   ·cases hst
  ·cases hst
 ·cases hst
def yI (P:Program) (Γ:Env) (H:tG) (nx:Nat) (t tx:TypeId) (s x:Operand):Option u4:=
 match P.underlying t,P.underlying tx with
 |some (.slice e),some dx=>match P.info? e,uL P e,evc Γ s,evc Γ x with
  |some i,some z,some (.h m),some xv=>match tJ H m with
   | some (.brow e0 xs) =>
     if (0<i.bytes/\z.cells.size=i.size/\i.size=1)/\e0=e/\tY nx Γ H=true then
      match dx,xv with
      |.string,.val (.string str)=>some ⟨.c (.h nx),(nx,.brow e (xs++tR str))::tW H [m],nx+1,[(xs.length+(tR str).length)*i.bytes<=140737488355328],id⟩
      |.slice _,xv=>if tx=t then (w9 H (.int .u8) xv).map λys=>⟨.c (.h nx),(nx,.brow e (xs++ys))::tW H [m],nx+1,[(xs.length+ys.length)*i.bytes<=140737488355328],id⟩ else none
      |_,_=>none
     else none
   |_=>none
  |_,_,_,_=>none
 |_,_=>none
theorem A3E (h:tK C σ H w) (hE:tM C σ H w Γ a) {xs zs:List Int} {v':Value} (hm:tJ H m=some (.brow e xs)) (hf:tY nx Γ H=true)
 (g2:∀b,b<w.heap.size->¬Bk (σ m) b->w'.heap[b]? =w.heap[b]?) (g3:w.heap.size<=w'.heap.size) (g4:w'.os=w.os) (g5:w'.tape=w.tape) (g6:w'.output=w.output) (g7:∀b,Bk v' b->Bk (σ m) b\/w.heap.size<=b)
 (gT:w8 w (σ m) e->w8 w' v' e) (g8:∀O',uA (Ow C.G H σ) w w'->(∀b,b<w.heap.size->¬Ow C.G H σ b->¬O' b)->tV O' w' (.int .u8) zs v') :
 tK C (upd σ nx v') ((nx,.brow e zs)::tW H [m]) w'/\u6 C σ (upd σ nx v') H ((nx,.brow e zs)::tW H [m]) w w' Γ a:=
 vL (w':=w') h hE [m] nx (.brow e zs) v' hf (λq hq hno=>g2 q hq (hno m (by simp) _ (tI hm))) g3 g4 g5 g6
  (λb hb=>(g7 b hb).imp (λq=>⟨m,by simp,⟨_,tI hm⟩,q⟩) id)
  (λhso hanti=>by show tV _ _ _ _ _/\w8 _ _ _;rw[tQ];exact⟨g8 _ hso hanti,gT (h.ent _ (tI hm)).2⟩)
theorem A3D (h:tK C σ H w) (hE:tM C σ H w Γ a) {ty:TypeId} {x:Operand} (hst:yI P Γ H nx t tx s x=some out) (hc:tL out.c) :
 ∃u w' σ',(fq #[t,tx] ty #[a.eval s,a.eval x]).run P w=.ok u w'/\tK C σ' out.H w'/\u6 C σ σ' H out.H w w' Γ a/\SVr (Ow C.G out.H σ') w' σ' out.v u/\(∀n,n≠nx->σ' n=σ n)/\out.f=id/\out.nx=nx+1:=by
 unfold yI at hst;split at hst
 ·rename_i e dx ht htx;split at hst
  ·rename_i i z m xv hi hz0 hs hx;split at hst
   ·rename_i e0 xs hm;split at hst
    ·rename_i hcond;obtain⟨⟨hb,hzs,h1⟩,rfl,hf⟩:=hcond;have hz:i.zero=some z:=by simpa[uL,hi] using hz0
     have hk:Kd.sz (.int .u8)=i.size:=by rw[h1];rfl
     have hsr:=tX hE hs;have hxr:=tX hE hx;have hrow:tV (Ow C.G H σ) w (.int .u8) xs (σ m):=(h.ent _ (tI hm)).1;simp only[CVr] at hsr;rw[v8 hrow] at hsr;split at hst
     ·rename_i str;cases hst;simp only[tL] at hc;have hxv:a.eval x=.string str:=hxr;have hlu:∀w',(ld (.string str)).run P w'=.ok (tR str).length w':=λw'=>by rw[A1S];rfl
      have hone:∀x∈(tR str).map (dh .u8),x.oneCell'=true:=by intro x hx;obtain⟨y,_,rfl⟩:=cj.1 hx;rfl
      obtain⟨v',w',hrun,⟨A',c',hv'⟩,g2,g3,g4,g5,g6,g7,gT,g8⟩:=A0D (P:=P) (ty:=ty) ht htx (by intro q hq;cases hq) hi hz hb hzs hk hrow (A1h str) hone hlu
       (by rw[h1];exact yM str w) (by rw[h1];exact yM str w.drew) hc
      have hst:=A3E h hE hm hf g2 g3 g4 g5 g6 g7 gT g8;refine⟨v',w',_,by rw[hsr,hxv];exact hrun,hst.1,hst.2,?_,λ_ hn=>tT hn,rfl,rfl⟩;simp only[SVr,CVr];rw[tQ,hv'];rfl
     ·rename_i e2 _;split at hst
      ·rename_i htt;subst htt;obtain⟨ys,hys,e'⟩:=bf.1 hst;cases e';simp only[tL] at hc;obtain⟨B,cap2,hxv,_,hrd⟩:=yJ h hys hxr;obtain⟨us,hfl,hone,hcell⟩:=wN hrd;obtain⟨v',w',hrun,⟨A',c',hv'⟩,g2,g3,g4,g5,g6,g7,gT,g8⟩:=A0D (P:=P) (ty:=ty) ht ht (by intro q hq;cases hq) hi hz hb hzs hk hrow hfl hone
        (u:=.slice B ys.length cap2) (λw'=>rfl) (by rw[<-hk];exact wG hfl.1 w hcell) (by rw[<-hk];exact wG hfl.1 w.drew (by simpa using hcell)) hc
       have hst:=A3E h hE hm hf g2 g3 g4 g5 g6 g7 gT g8;refine⟨v',w',_,by rw[hsr,hxv];exact hrun,hst.1,hst.2,?_,λ_ hn=>tT hn,rfl,rfl⟩;simp only[SVr,CVr];rw[tQ,hv'];rfl
      ·cases hst
     ·cases hst
    ·cases hst
   ·cases hst
  ·cases hst
 ·cases hst
def A0I (P:Program) (Γ:Env) (H:tG) (nx:Nat) (t:TypeId) (x:Operand):Option u4:=
 match P.underlying t,evc Γ x with
 |some (.slice e),some (.sub m sz lo len)=>match tJ H m,uL P e,u7 P e with
  |some (.row k xs),some z,some n=>match k.rd (z.cells.toList.map CV.val) with
   |some z0=>if sz=k.sz/\n=k.sz/\z.cells.size=k.sz then some ⟨.tup [],(m,.row k (tU xs (bn len z0) lo))::tO H m,nx,[],id⟩ else none
   |none=>none
  |_,_,_=>none
 |_,_=>none
theorem A7h {z0:k.ty} (hR:k.R O w z0 z.cells.toList) (n:Nat):vB O w k (bn n z0) (fv z.cells n).toList:=by have hl:=v7 hR;simp only[ep] at hl;refine⟨by simp[fv,hl],λi hi=>?_⟩;obtain⟨cs,h1,h2⟩:=A4u hR n n (bp _) _ rfl i hi;refine⟨cs,h1,λj hj=>?_⟩;rw[<-h2 j hj];simp only[fv,hl,gr,Array.getElem?_toList]
theorem A6i (h:tK C σ H w) (hE:tM C σ H w Γ a) {lo:Nat} {xs ys:List k.ty} (hm:tJ H m=some (.row k xs)) {l:Nat} (hs:σ m=.slice (some ⟨b,off,none⟩) l cap)
 (hlo:lo+ys.length<=xs.length) (hpos:0<ys.length) (hfl:vB (Ow C.G H σ) w k ys vs) (h1:∀v∈vs,v.oneCell'=true) :
 ∃w',(storeCells ⟨b,off+lo*k.sz,none⟩ vs).run P w=.ok () w'/\tK C σ ((m,.row k (tU xs ys lo))::tO H m) w'/\u6 C σ σ H ((m,.row k (tU xs ys lo))::tO H m) w w' Γ a:=by
 have hent:tV (Ow C.G H σ) w k xs (σ m):=h.ent _ (tI hm);have hent':=hent;rw[hs] at hent';obtain⟨el,hrow⟩:=zF hent';rcases hrow with⟨rfl,rfl⟩|⟨hp,hlc,b',off',c,e2,eA,hh,hsz⟩;·simp only[eb] at hlo;omega
 ·injection eA with eA;injection eA with e3 e4 _;subst e3 e4;obtain⟨us,hfx,h1x,hcellx⟩:=wN (by obtain⟨A2,cap2,e5,_,hr⟩:=wO hent';injection e5 with e6 e7 e8;subst e6;exact hr);have hfp:=A3h hfx hfl lo (by omega);have hb:Bk (σ m) b:=by rw[hs];simp only[Bk,blk];rw[if_neg (by omega)]
  have hmul:(lo+ys.length)*k.sz<=cap*k.sz:=dl _ (by omega);rw[ey,<-hfl.1] at hmul;have hst:=run_storeCells_at P b (off+lo*k.sz) e2 vs 0 c w hh (by omega) h1;simp only[ee] at hst;have hO:Ow C.G H σ b:=.inr ⟨_,tI hm,hb⟩;have hso:=yU (w:=w) (c':=(c.toList.take (off+lo*k.sz)++vs++c.toList.drop (off+lo*k.sz+vs.length)).toArray) hO;have hpl:(tU xs ys lo).length=xs.length:=by simp only[tU,cy,co,cq] at *;omega
  have hnew:uB (Ow C.G H σ) (w.setRow b (c.toList.take (off+lo*k.sz)++vs++c.toList.drop (off+lo*k.sz+vs.length)).toArray) σ m (.row k (tU xs ys lo)):=by
   show tV _ _ _ _ _;rw[hs,el,<-hpl];refine xJ (setRow_heap w b c _ e2 _ hh) (by omega) (by rw[hpl];exact hlc) ?_ (xR hso (λ_ _ h=>h) hfp) (λj hj=>?_)
   ·simp only[ge,cy,co,cq,ep];omega
   ·have hul:=hfx.1;have hmx:xs.length*k.sz<=cap*k.sz:=dl _ hlc;have hmy:(lo+ys.length)*k.sz<=xs.length*k.sz:=dl _ (by omega);rw[ey,<-hfl.1] at hmy;simp only[cy,co,cq] at hj;rw[fh,gd,vQ _ _ _ _ (by simp;omega),vQ _ _ _ _ (by omega)];have hcj:c.toList[off+j]? =us[j]?:=by
     have hj2:us[j]? =some us[j]:=bj (by omega);obtain⟨b',off',e,hcj⟩:=hcellx j _ hj2;injection e with e;injection e with e3 e4 _;subst e3 e4;rw[cell_of_row w b _ c e2 (0,0) hh] at hcj;rw[hj2,<-hcj];simp
    by_cases hj1:j<lo*k.sz;·rw[if_pos (by omega),if_pos hj1,hcj]
    ·rw[if_neg (by omega),if_neg hj1];by_cases hj2:j<lo*k.sz+vs.length
     ·rw[if_pos (by omega),if_pos hj2];congr 1;omega
     ·rw[if_neg (by omega),if_neg hj2,hcj]
  have:=z7 h hE hm (b:=b) hb hnew;exact⟨_,hst,this.1,this.2.1⟩
theorem A7A (h:tK C σ H w) (hE:tM C σ H w Γ a) {ty:TypeId} {x:Operand} (hst:A0I P Γ H nx t x=some out) :
 ∃w',(sm #[t] ty #[a.eval x]).run P w=.ok (.tuple #[]) w'/\tK C σ out.H w'/\u6 C σ σ H out.H w w' Γ a/\out.v=.tup []/\out.f=id/\out.nx=nx:=by
 unfold A0I at hst;split at hst
 ·rename_i e m sz lo len hu hx;split at hst
  ·rename_i k xs z n hm hz hn;split at hst
   ·rename_i z0 hz0;split at hst
    ·rename_i hcond;obtain⟨rfl,rfl,hzs⟩:=hcond;cases hst;have hv:=tX hE hx;simp only[CVr] at hv;obtain⟨A,l,cap,A',cap',hs,hv,hlen,hlo,hcap⟩:=hv;have hs':σ m=.slice A l cap:=(v8 (h.ent _ (tI hm))).symm.trans hs;have hR:=xU (O:=Ow C.G H σ) (w:=w) (σ:=σ) hz0 wY;rw[hv];rcases ki len with rfl|hpos
     ·refine⟨w,by cases A'<;>simp[sm,run_underlying hu],?_⟩;have hput:tU xs (bn 0 z0) lo=xs:=by simp[tU]
      rw[hput];have hmem:∀p∈(m,Ent.row k xs)::tO H m,p∈H:=by
       intro p hp;rcases bv.1 hp with rfl|hp;·exact tI hm
       ·exact(uC.1 hp).1
      have hnd:(((m,Ent.row k xs)::tO H m).map di).Nodup:=by simp only[dj,dy];refine⟨λhh=>?_,A08 h.nd⟩;obtain⟨p,hp,e⟩:=cj.1 hh;exact(uC.1 hp).2 e
      refine⟨h.sub hmem hnd,⟨hE.sub hmem,λ_ _ _=>rfl,λb _ ho hb=>ho ?_⟩,rfl,rfl,rfl⟩;rcases hb with hg|⟨p,hp,e⟩;·exact .inl hg
      ·exact .inr ⟨p,hmem p hp,e⟩
     ·obtain⟨_,b,off,rfl,rfl⟩:=hcap (by omega);have hxl:l=xs.length:=by
       obtain⟨A2,cap2,e2,_⟩:=wO (h.ent _ (tI hm));have e2':σ m=.slice A2 xs.length cap2:=e2;rw[hs'] at e2';injection e2'
      obtain⟨w',hrun,g1,g2⟩:=A6i (P:=P) h hE (ys:=bn len z0) (lo:=lo) hm hs' (by simp;omega) (by simpa using hpos) (A7h hR len) (by intro v hv;simp only[fv,ma,cj] at hv;obtain⟨i,hi,rfl⟩:=hv;have hsz:=k.sz_pos;have:i%z.cells.size<z.cells.size:=Nat.mod_lt _ (by omega);rw[getElem!_pos z.cells _ this];exact zD hR _ (by simp))
      refine⟨w',?_,g1,g2,rfl,rfl,rfl⟩;cases len with
      |zero=>omega
      |succ len=>simp[sm,run_underlying hu,wK hz,hrun]
    ·cases hst
   ·cases hst
  ·cases hst
 ·cases hst
end Go.Pal
