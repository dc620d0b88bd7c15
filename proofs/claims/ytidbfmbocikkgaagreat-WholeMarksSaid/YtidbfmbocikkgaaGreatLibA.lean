/- A walk through code on symbolic values, part 1 of 3: what is shown of every program, no statement of this one. -/
import Derived.Tactics
import Derived.Laws.Rows
import Derived.Laws.AppendOwn
import Derived.Below
import Derived.KernelRfl
import Derived.MapKept
import Derived.Laws.StructEq
import Derived.Laws.BytesString
import Derived.Maps.Own
import Derived.Maps.RangeRun
import Derived.Laws.RangeString
import Derived.Deep.LoopGhost
import Derived.Orders
import Derived.Scope
import Derived.WalkKit
import Derived.ProofKit
import Derived.OpenShut
import Derived.ShutString
import Derived.ChangeOld
import Derived.SizedLaws
import Derived.Deep.CondSized
import Derived.Carry
import Derived.Shelf.Spec.SlicesInsertGrow
import Derived.Lib.UnsafeStr
import Derived.Shelf.SlMaps.Clone
import Derived.Shelf.SlIterI.Nil
import Derived.Shelf.SortM.Plain
import Derived.Shelf.SortM.SortNone
import Derived.WalkArith
set_option linter.unusedVariables false
set_option linter.unusedSimpArgs false
set_option linter.unnecessarySimpa false
namespace Go.Pal
open Go
theorem alc_old (w:World) (o:Obj) (b:Nat) (h:b<w.heap.size):(w.alloc o).heap[b]? = w.heap[b]?:=by
 first | exact heap_alloc_old w o b h | exact heap_alloc_old w o h
inductive Tree where
 | mk (kids:List (Option Tree)) (items:List ByteArray) (n d s1 s2 s3 s4:Int)
def Tree.kids:Tree→List (Option Tree) | .mk x _ _ _ _ _ _ _=>x
def Tree.items:Tree→List ByteArray | .mk _ x _ _ _ _ _ _=>x
def Tree.n:Tree→Int | .mk _ _ x _ _ _ _ _=>x
def Tree.d:Tree→Int | .mk _ _ _ x _ _ _ _=>x
def Tree.s1:Tree→Int | .mk _ _ _ _ x _ _ _=>x
def Tree.s2:Tree→Int | .mk _ _ _ _ _ x _ _=>x
def Tree.s3:Tree→Int | .mk _ _ _ _ _ _ x _=>x
def Tree.s4:Tree→Int | .mk _ _ _ _ _ _ _ x=>x
inductive Kd where
 | int (k:IntKind)
 | bool
 | str
 | slice (e:Kd)
 | opt (e:Kd)
 | pair (a b:Kd)
 | node
 deriving DecidableEq
@[reducible] def Kd.ty:Kd→Type
  | .int _ => Int
  | .bool => Bool
  | .str => ByteArray
  | .slice e => List e.ty
  | .opt e => Option e.ty
  | .pair a b => a.ty × b.ty
  | .node => Tree
def Kd.sz:Kd→Nat
 | .pair a b => a.sz+b.sz
 | .node => 8
 | _ => 1
def Kd.dflt:(k:Kd)→k.ty
 | .int _ => (0:Int)
 | .bool => false
 | .str => ByteArray.empty
 | .slice _ => []
 | .opt _ => none
 | .pair a b => (a.dflt,b.dflt)
 | .node => .mk [] [] 0 0 0 0 0 0
theorem Kd.sz_pos:∀ k:Kd,0<k.sz
 | .pair a b => by have := Kd.sz_pos a; simp only [Kd.sz]; omega
 | .int _ | .bool | .str | .slice _ | .opt _ | .node => by simp [Kd.sz]
def NodeR (O:Nat→Prop) (w:World):Nat→Tree→List Value→Prop
 | 0,_,_ => False
 | f+1,.mk kids items n d s1 s2 s3 s4,cs => ∃ A ca B cb,cs=[.slice A kids.length ca,.slice B items.length cb,.int .i64 n,.int .i64 d,.int .i64 s1,.int .i64 s2,.int .i64 s3,.int .i64 s4] ∧
    kids.length≤ca∧items.length≤cb∧
    (∀ i (h:i<kids.length),∃ b off v,A=some ⟨b,off,none⟩∧¬ O b∧w.cell? ⟨b,off+i,none⟩=some v∧
     match kids[i] with
     | none => v=.pointer none
     | some t => ∃ b' off' c,v=.pointer (some ⟨b',off',none⟩) ∧ ¬ O b' ∧ NodeR O w f t c ∧ ∀ j,j<8 → w.cell? ⟨b',off'+j,none⟩=c[j]?) ∧
    ∀ i (h:i<items.length),∃ b off,B=some ⟨b,off,none⟩∧¬ O b∧w.cell? ⟨b,off+i,none⟩=some (.string items[i])
def Kd.R (O:Nat→Prop) (w:World):(k:Kd)→k.ty→List Value→Prop
 | .int ik,n,cs => cs=[.int ik n]
 | .bool,b,cs => cs=[.bool b]
 | .str,s,cs => cs=[.string s]
 | .slice e,xs,cs => ∃ A cap,cs=[.slice A xs.length cap] ∧ xs.length ≤ cap ∧
  ∀ i (h:i<xs.length),∃ b off c,A=some ⟨b,off,none⟩∧¬ O b∧e.R O w xs[i] c∧∀ j,j<e.sz→w.cell? ⟨b,off+i * e.sz+j,none⟩=c[j]?
 | .opt e,x,cs => match x with
  | none => cs=[.pointer none]
  | some y => ∃ b off c,cs=[.pointer (some ⟨b,off,none⟩)] ∧ ¬ O b ∧ e.R O w y c ∧ ∀ j,j<e.sz → w.cell? ⟨b,off+j,none⟩=c[j]?
 | .pair a b,x,cs => ∃ c1 c2,cs=c1 ++ c2 ∧ a.R O w x.1 c1 ∧ b.R O w x.2 c2
 | .node,t,cs => ∃ f,NodeR O w f t cs
theorem NodeR_len {O:Nat→Prop} {w:World}:∀ {f:Nat} {t:Tree} {cs:List Value},NodeR O w f t cs→cs.length=8
 | 0,_,_,h => h.elim
 | _+1,.mk ..,_,h => by obtain ⟨_,_,_,_,rfl,_⟩ := h; rfl
theorem R_len {O:Nat→Prop} {w:World}:∀ {k:Kd} {x:k.ty} {cs:List Value},k.R O w x cs→cs.length=k.sz
 | .int _,_,_,h => by subst h; rfl
 | .bool,_,_,h => by subst h; rfl
 | .str,_,_,h => by subst h; rfl
 | .slice _,_,_,h => by obtain ⟨_,_,rfl,_⟩ := h; rfl
 | .opt _,none,_,h => by simp only [Kd.R] at h; subst h; rfl
 | .opt _,some _,_,h => by simp only [Kd.R] at h; obtain ⟨_,_,_,rfl,_⟩ := h; rfl
 | .pair _ _,_,_,h => by
   obtain ⟨c1,c2,rfl,h1,h2⟩:=h
   have:=R_len h1
   have:=R_len h2
   simp only [List.length_append,Kd.sz]
   omega
 | .node,_,_,h => by obtain ⟨_,h⟩ := h; exact NodeR_len h
def SameOff (O:Nat→Prop) (w w':World):Prop:=∀ b,b<w.heap.size→¬ O b→w'.heap[b]? = w.heap[b]?
theorem SameOff.cell {O:Nat→Prop} {w w':World} (h:SameOff O w w') {a:Addr} {v:Value} (hb:¬ O a.block) (hc:w.cell? a=some v):w'.cell? a=some v:=by
 rw [← hc]
 exact World.cell?_of_block (h a.block (World.block_lt_of_cell? w a hc) hb)
theorem SameOff.cells {O:Nat→Prop} {w w':World} (h:SameOff O w w') {b off n:Nat} {c:List Value} (hb:¬ O b) (hl:c.length=n)
 (hc:∀ j,j<n→w.cell? ⟨b,off+j,none⟩=c[j]?):∀ j,j<n→w'.cell? ⟨b,off+j,none⟩=c[j]?:=by
 intro j hj
 have hs:c[j]? = some c[j]:=List.getElem?_eq_getElem (by omega)
 rw [hs]
 exact h.cell (a:=⟨b,off+j,none⟩) hb (by rw [hc j hj,hs])
theorem lt_of_cells {w:World} {b off n:Nat} {c:List Value} (hl:c.length=n) (hn:0<n) (hc:∀ j,j<n→w.cell? ⟨b,off+j,none⟩=c[j]?):b<w.heap.size:=by
 have h0:=hc 0 hn
 have hs:c[0]? = some c[0]:=List.getElem?_eq_getElem (by omega)
 rw [hs] at h0
 exact World.block_lt_of_cell? w _ h0
theorem NodeR_mono {O O':Nat→Prop} {w w':World} (hw:SameOff O w w') (ho:∀ b,b<w.heap.size→¬ O b→¬ O' b) :
 ∀ {f:Nat} {t:Tree} {cs:List Value},NodeR O w f t cs→NodeR O' w' f t cs
 | 0,_,_,h => h.elim
 | f+1,.mk kids items n d s1 s2 s3 s4,_,h => by
   obtain ⟨A,ca,B,cb,rfl,h1,h2,h3,h4⟩:=h
   refine ⟨A,ca,B,cb,rfl,h1,h2,fun i hi=>?_,fun i hi=>?_⟩
   ·obtain ⟨b,off,v,hA,hb,hc,hk⟩:=h3 i hi
    refine ⟨b,off,v,hA,ho b (World.block_lt_of_cell? w _ hc) hb,hw.cell (a:=⟨b,off+i,none⟩) hb hc,?_⟩
    split at hk
    ·exact hk
    ·obtain ⟨b',off',c,hv,hb',hR,hc'⟩:=hk
     have hl:=NodeR_len hR
     exact ⟨b',off',c,hv,ho b' (lt_of_cells hl (by omega) hc') hb',NodeR_mono hw ho hR,hw.cells hb' hl hc'⟩
   ·obtain ⟨b,off,hB,hb,hc⟩:=h4 i hi
    exact ⟨b,off,hB,ho b (World.block_lt_of_cell? w _ hc) hb,hw.cell (a:=⟨b,off+i,none⟩) hb hc⟩
theorem R_mono {O O':Nat→Prop} {w w':World} (hw:SameOff O w w') (ho:∀ b,b<w.heap.size→¬ O b→¬ O' b) :
 ∀ {k:Kd} {x:k.ty} {cs:List Value},k.R O w x cs→k.R O' w' x cs
 | .int _,_,_,h => h
 | .bool,_,_,h => h
 | .str,_,_,h => h
 | .slice e,xs,_,h => by
   obtain ⟨A,cap,rfl,hl,hr⟩:=h
   refine ⟨A,cap,rfl,hl,fun i hi=>?_⟩
   obtain ⟨b,off,c,hA,hb,hR,hc⟩:=hr i hi
   have hlt:=lt_of_cells (R_len hR) (Kd.sz_pos e) hc
   exact ⟨b,off,c,hA,ho b hlt hb,R_mono hw ho hR,hw.cells hb (R_len hR) hc⟩
 | .opt e,none,_,h => h
 | .opt e,some y,_,h => by
   simp only [Kd.R] at h ⊢
   obtain ⟨b,off,c,rfl,hb,hR,hc⟩:=h
   have hlt:=lt_of_cells (R_len hR) (Kd.sz_pos e) hc
   exact ⟨b,off,c,rfl,ho b hlt hb,R_mono hw ho hR,hw.cells hb (R_len hR) hc⟩
 | .pair a b,_,_,h => by
   obtain ⟨c1,c2,rfl,h1,h2⟩:=h
   exact ⟨c1,c2,rfl,R_mono hw ho h1,R_mono hw ho h2⟩
 | .node,_,_,h => by obtain ⟨f,h⟩ := h; exact ⟨f,NodeR_mono hw ho h⟩
inductive CV where
 | val (v:Value)
 | imm (k:Kd) (x:k.ty)
 | h (n:Nat)
 | cell (n o:Nat)
 | elt (n sz i o:Nat)
 | ielt (k:Kd) (x:k.ty)
 | sub (n sz lo len:Nat)
 | clo (f:FuncId) (caps:List Nat)
 | zc
 | slf (n:Nat) (t:TypeId)
 | elm (n i:Nat)
abbrev cK:Kd:=.pair (.int .i64) (.int .i64)
abbrev aK:Kd:=.pair .str (.pair (.int .i64) (.pair (.int .i64) (.pair (.int .i64) (.slice cK))))
inductive SV where
 | c (x:CV)
 | agg (l:List CV)
 | tup (l:List (Bool × List CV))
inductive Ent where
 | box (cs:List CV)
 | row (k:Kd) (xs:List k.ty)
 | it (s:ByteArray) (pos:Nat) (k:Option Bool)
 | map (l:List Int)
 | lit (cs:List CV)
 | sets (ls:List (List Int)) (last:Option Nat)
 | arow (m:Nat) (xs:List aK.ty)
 | aown (xs:List aK.ty)
 | apend (i:Nat) (zs:List cK.ty) (xs:List aK.ty)
 | brow (e:TypeId) (xs:List Int)
 | mit (left:List Int) (cur:Option Int)
 | abox (pre:List CV) (k:Nat) (bs:List Bool) (post:List CV)
def flatA (pre:List CV) (bs:List Bool) (post:List CV):List CV:=pre++(bs.map (fun b=>CV.val (.bool b))++post)
abbrev Env:=List (Nat×SV)
abbrev Heap:=List (Nat×Ent)
def blk:Value→Option Nat
 | .pointer (some a) => some a.block
 | .slice (some a) _ cap => if cap=0 then none else some a.block
 | .map (some b) => some b
 | _ => none
def hd:Value→Value
 | .tuple vs => vs.toList.headD undef
 | v => v
def tl:Value→List Value
 | .tuple vs => vs.toList.tail
 | _ => []
def bare:Value→Value
 | .agg c => c.getD 0 undef
 | v => v
def cmp (v:Value) (i:Nat):Value:=bare ((tl v).getD i undef)
def Bk:Value→Nat→Prop
 | .tuple vs,b => ∃ v ∈ vs.toList,blk v=some b
 | v,b => blk v=some b
def MapR (w:World) (b:Nat) (l:List Int):Prop:=
 ∃ es clock,w.heap[b]? = some (.map es clock)∧MapKept.Stamped es clock∧(∀ x∈es.toList,∃ n,x.key=.int .i64 n∧x.val=.agg #[]∧n∈l)∧
   (∀ n∈l,∃ x∈es.toList,x.key=.int .i64 n)∧l.Pairwise (·< ·)∧∀ n∈l,-9223372036854775808≤n∧n≤9223372036854775807
def CVr (O:Nat→Prop) (w:World) (σ:Nat→Value):CV→Value→Prop
 | .val u,v => v=u
 | .imm k x,v => k.R O w x [v]
 | .h n,v => v=hd (σ n)
 | .cell n o,v => ∃ b,hd (σ n)=.pointer (some ⟨b,0,none⟩) ∧ v=.pointer (some ⟨b,o,none⟩)
 | .elt n sz i o,v => ∃ b off len cap,hd (σ n)=.slice (some ⟨b,off,none⟩) len cap ∧ i<len ∧ v=.pointer (some ⟨b,off+i * sz+o,none⟩)
 | .ielt k x,v => ∃ b off c,v=.pointer (some ⟨b,off,none⟩) ∧ ¬ O b ∧ k.R O w x c ∧ ∀ j,j<k.sz → w.cell? ⟨b,off+j,none⟩=c[j]?
 | .sub n sz lo len,v => ∃ A l cap A' cap',hd (σ n)=.slice A l cap ∧ v=.slice A' len cap' ∧ len ≤ cap' ∧ lo+len ≤ l ∧ (0<cap' → lo+cap' ≤ cap ∧ ∃ b off,A=some ⟨b,off,none⟩ ∧ A'=some ⟨b,off+lo * sz,none⟩)
 | .clo f caps,v => v=.func (.func f) #[] (caps.map fun n => hd (σ n)).toArray
 | .zc,v => ∃ A,v=.slice A 0 0
 | .slf n t,v => ∃ b,σ n=.tuple [.pointer (some ⟨b,0,none⟩),.iface t .nilIface].toArray ∧ (v=.pointer none ∨ v=.pointer (some ⟨b,0,none⟩))
 | .elm n i,v => v=cmp (σ n) i
def CVs (O:Nat→Prop) (w:World) (σ:Nat→Value):List CV→List Value→Prop
 | [],[] => True
 | s :: l,v :: vs => CVr O w σ s v ∧ CVs O w σ l vs
 | _,_ => False
def PVr (O:Nat→Prop) (w:World) (σ:Nat→Value):Bool×List CV→Value→Prop
 | (true,l),v => ∃ vs,v=.agg vs.toArray ∧ CVs O w σ l vs
 | (false,[x]),v => CVr O w σ x v
 | _,_ => False
def PVs (O:Nat→Prop) (w:World) (σ:Nat→Value):List (Bool×List CV)→List Value→Prop
 | [],[] => True
 | s :: l,v :: vs => PVr O w σ s v ∧ PVs O w σ l vs
 | _,_ => False
def SVr (O:Nat→Prop) (w:World) (σ:Nat→Value):SV→Value→Prop
 | .c x,v => CVr O w σ x v
 | .agg l,v => ∃ vs,v=.agg vs.toArray ∧ CVs O w σ l vs
 | .tup l,v => ∃ vs,v=.tuple vs.toArray ∧ PVs O w σ l vs
def RowR (O:Nat→Prop) (w:World) (k:Kd) (xs:List k.ty) (v:Value):Prop:=
 ∃ A cap,v=.slice A xs.length cap∧
   ((cap=0∧xs=[])∨
    ((0<cap∧cap≤9223372036854775807)∧xs.length≤cap∧∃ b off c e,A=some ⟨b,off,none⟩∧w.heap[b]? = some (.cells c e (0,0))∧off+cap * k.sz≤c.size∧
      ∀ i (h:i<xs.length),∃ cs,k.R O w xs[i] cs∧∀ j,j<k.sz→c[off+i * k.sz+j]? = cs[j]?))
def SetsR (w:World) (σ:Nat→Value) (v:Value) (ls:List (List Int)) (last:Option Nat):Prop:=
 ∃ A cap vs,v=.tuple (.slice A vs.length cap :: vs).toArray∧((.slice A vs.length cap :: vs).filterMap blk).Nodup∧vs.length=ls.length+last.toList.length∧
   (∀ i (h:i<ls.length),∃ b,vs[i]? = some (.map (some b))∧MapR w b ls[i])∧(∀ m,last=some m→vs[ls.length]? = some (.agg #[hd (σ m)])∧(hd (σ m)).oneCell'=true)∧
   ((cap=0∧vs=[])∨((0<cap∧cap≤9223372036854775807)∧vs.length≤cap∧∃ b off c e,A=some ⟨b,off,none⟩∧w.heap[b]? = some (.cells c e (0,0))∧off+cap≤c.size∧
     ∀ i,i<vs.length→c[off+i]? = (vs[i]?).map bare))
def ArR (O:Nat→Prop) (w:World) (v:Value) (m:Nat) (xs:List aK.ty) (q:Option (Nat×List cK.ty)):Prop:=
 ∃ A cap vs,v=.tuple (.slice A xs.length cap :: vs).toArray∧vs.length=m∧m≤xs.length∧((.slice A xs.length cap :: vs).filterMap blk).Nodup∧
   (∀ i (h:i<vs.length),∃ zs,RowR O w cK zs vs[i]∧(∀ x,xs[i]? = some x→q.map Prod.fst≠some i→zs=x.2.2.2.2)∧∀ p,q=some p→p.1=i→zs=p.2)∧
   ((cap=0∧xs=[])∨((0<cap∧cap≤9223372036854775807)∧xs.length≤cap∧∃ b off c e,A=some ⟨b,off,none⟩∧w.heap[b]? = some (.cells c e (0,0))∧off+cap * 5≤c.size∧
     ∀ i (h:i<xs.length),∃ cs,(∀ j,j<5→c[off+i * 5+j]? = cs[j]?)∧
       if i<m then ∃ u,cs=[.string xs[i].1,.int .i64 xs[i].2.1,.int .i64 xs[i].2.2.1,.int .i64 xs[i].2.2.2.1,u]∧u.oneCell'=true∧(q.map Prod.fst≠some i→vs[i]? = some u)
       else aK.R O w xs[i] cs))
def MitR (w:World) (v:Value) (left:List Int) (cur:Option Int):Prop:=
 ∃ b r es clock seen,v=.tuple [.pointer (some ⟨r,0,none⟩),.map (some b)].toArray∧r≠b∧w.heap[b]? = some (.map es clock)∧w.heap[r]? = some (.mapIter (some b) clock seen clock)∧MapKept.Stamped es clock∧
   (∀ x∈es.toList,∃ n,x.key=.int .i64 n∧x.val=.agg #[])∧left.Nodup∧(∀ n,n∈left↔∃ x∈es.toList,x.key=.int .i64 n∧seen.contains x.born=false)∧
   ∀ g,cur=some g→∃ (seen':Array Nat) (x:MapEntry),seen=seen'.push x.born∧x∈es.toList∧x.key=.int .i64 g
def HeadT (w:World) (v:Value) (e:TypeId):Prop:=∀ A len cap,v=.slice A len cap→(cap=0∧A=none)∨(0<cap∧∃ b c,A=some ⟨b,0,none⟩∧w.heap[b]? = some (.cells c e (0,0)))
def BoxAt (v:Value) (b:Nat) (e:TypeId):Prop:=v=.pointer (some ⟨b,0,none⟩)∨v=.tuple [.pointer (some ⟨b,0,none⟩),.iface e .nilIface].toArray
theorem BoxAt.hd {v:Value} {b:Nat} {e:TypeId} (h:BoxAt v b e):Pal.hd v=.pointer (some ⟨b,0,none⟩):=by rcases h with rfl | rfl <;> rfl
theorem BoxAt.bk {v:Value} {b:Nat} {e:TypeId} (h:BoxAt v b e) {q:Nat}:Bk v q↔q=b:=by
 rcases h with rfl | rfl
 ·simp only [Bk,blk,Option.some.injEq]
  exact eq_comm
 ·constructor
  ·rintro ⟨u,hu,hq⟩
   have hu:u=.pointer (some ⟨b,0,none⟩)∨u=.iface e .nilIface:=by simpa using hu
   rcases hu with rfl | rfl
   ·cases hq; rfl
   ·cases hq
  ·rintro rfl
   exact ⟨.pointer (some ⟨q,0,none⟩),by simp,rfl⟩
theorem BoxAt.own {v:Value} {b:Nat} {e:TypeId} (h:BoxAt v b e):Bk v b:=h.bk.2 rfl
def EntR (O:Nat→Prop) (w:World) (σ:Nat→Value) (n:Nat):Ent→Prop
 | .box cs => ∃ b c e,BoxAt (σ n) b e ∧ w.heap[b]? = some (.cells c e (0,0)) ∧ CVs O w σ cs c.toList
 | .row k xs => RowR O w k xs (σ n)
 | .it s pos k => ∃ b,σ n=.pointer (some ⟨b,0,none⟩) ∧ w.heap[b]? = some (.stringIter s pos) ∧ (k=some true → pos<s.size) ∧ (k=some false → s.size ≤ pos)
 | .map l => ∃ b,σ n=.map (some b) ∧ MapR w b l
 | .lit cs => ∃ b c e,σ n=.slice (some ⟨b,0,none⟩) cs.length cs.length ∧ 0<cs.length ∧ w.heap[b]? = some (.cells c e (0,0)) ∧ CVs O w σ cs c.toList
 | .sets ls last => SetsR w σ (σ n) ls last
 | .arow m xs => ArR O w (σ n) m xs none
 | .aown xs => ArR O w (σ n) xs.length xs none
 | .apend i zs xs => ArR O w (σ n) xs.length xs (some (i,zs)) ∧ i<xs.length
 | .brow e xs => RowR O w (.int .u8) xs (σ n) ∧ HeadT w (σ n) e
 | .mit left cur => MitR w (σ n) left cur
 | .abox pre k bs post => bs.length=k ∧ ∃ b c e,BoxAt (σ n) b e ∧ w.heap[b]? = some (.cells c e (0,0)) ∧ CVs O w σ (flatA pre bs post) c.toList
structure FC where
 N:Nat
 G:Nat→Prop
 B:World
 O0:Nat→Prop
 n0:Nat
 σ0:Nat→Value
def Ow (G:Nat→Prop) (H:Heap) (σ:Nat→Value) (b:Nat):Prop:=G b∨∃ p∈H,Bk (σ p.1) b
structure Fr (C:FC) (w:World):Prop where
 os:w.os=C.B.os
 tape:w.tape=C.B.tape
 output:w.output=C.B.output
 size:C.B.heap.size≤w.heap.size
 block:∀ b,b<C.B.heap.size→¬ C.O0 b→w.heap[b]? = C.B.heap[b]?
 gsize:∀ b,C.G b→b<C.B.heap.size
structure SatW (C:FC) (σ:Nat→Value) (H:Heap) (w:World):Prop where
 ent:∀ p∈H,EntR (Ow C.G H σ) w σ p.1 p.2
 nd:(H.map Prod.fst).Nodup
 disj:∀ p∈H,∀ q∈H,p.1≠q.1→∀ b,Bk (σ p.1) b→¬ Bk (σ q.1) b
 mine:∀ p∈H,∀ b,Bk (σ p.1) b→¬ C.G b∧(C.O0 b∨C.B.heap.size≤b)
 fr:Fr C w
def look {α:Type}:List (Nat×α)→Nat→Option α
 | [],_ => none
 | (t,v) :: l,s => if t=s then some v else look l s
def EnvR (C:FC) (σ:Nat→Value) (H:Heap) (w:World) (Γ:Env) (a:Act):Prop:=
 (∀ t sv,look Γ t=some sv→t<C.N∧SVr (Ow C.G H σ) w σ sv (a.tmps.getD t undef))∧a.tmps.size=C.N∧a.defers=[]
def Sat (C:FC) (Γ:Env) (H:Heap) (a:Act) (w:World):Prop:=∃ σ,SatW C σ H w∧EnvR C σ H w Γ a∧∀ n,n<C.n0→σ n=C.σ0 n
theorem CVr_mono {O O':Nat→Prop} {w w':World} {σ:Nat→Value} (hw:SameOff O w w') (ho:∀ b,b<w.heap.size→¬ O b→¬ O' b) :
 ∀ {s:CV} {v:Value},CVr O w σ s v→CVr O' w' σ s v
 | .val _,_,h => h
 | .imm _ _,_,h => R_mono hw ho h
 | .h _,_,h => h
 | .cell _ _,_,h => h
 | .elt _ _ _ _,_,h => h
 | .ielt k _,_,h => by
   obtain ⟨b,off,c,rfl,hb,hR,hc⟩:=h
   exact ⟨b,off,c,rfl,ho b (lt_of_cells (R_len hR) (Kd.sz_pos k) hc) hb,R_mono hw ho hR,hw.cells hb (R_len hR) hc⟩
 | .sub _ _ _ _,_,h => h
 | .clo _ _,_,h => h
 | .zc,_,h => h
 | .slf _ _,_,h => h
 | .elm _ _,_,h => h
theorem CVs_mono {O O':Nat→Prop} {w w':World} {σ:Nat→Value} (hw:SameOff O w w') (ho:∀ b,b<w.heap.size→¬ O b→¬ O' b) :
 ∀ {l:List CV} {vs:List Value},CVs O w σ l vs→CVs O' w' σ l vs
 | [],[],_ => trivial
 | _ :: _,_ :: _,h => ⟨CVr_mono hw ho h.1,CVs_mono hw ho h.2⟩
 | [],_ :: _,h => h.elim
 | _ :: _,[],h => h.elim
theorem PVr_mono {O O':Nat→Prop} {w w':World} {σ:Nat→Value} (hw:SameOff O w w') (ho:∀ b,b<w.heap.size→¬ O b→¬ O' b) :
 ∀ {s:Bool×List CV} {v:Value},PVr O w σ s v→PVr O' w' σ s v
 | (true,_),_,h => by obtain ⟨vs,rfl,h⟩ := h; exact ⟨vs,rfl,CVs_mono hw ho h⟩
 | (false,[_]),_,h => CVr_mono hw ho h
 | (false,[]),_,h => h.elim
 | (false,_ :: _ :: _),_,h => h.elim
theorem PVs_mono {O O':Nat→Prop} {w w':World} {σ:Nat→Value} (hw:SameOff O w w') (ho:∀ b,b<w.heap.size→¬ O b→¬ O' b) :
 ∀ {l:List (Bool×List CV)} {vs:List Value},PVs O w σ l vs→PVs O' w' σ l vs
 | [],[],_ => trivial
 | _ :: _,_ :: _,h => ⟨PVr_mono hw ho h.1,PVs_mono hw ho h.2⟩
 | [],_ :: _,h => h.elim
 | _ :: _,[],h => h.elim
theorem SVr_mono {O O':Nat→Prop} {w w':World} {σ:Nat→Value} (hw:SameOff O w w') (ho:∀ b,b<w.heap.size→¬ O b→¬ O' b) :
 ∀ {s:SV} {v:Value},SVr O w σ s v→SVr O' w' σ s v
 | .c _,_,h => CVr_mono hw ho h
 | .agg _,_,h => by obtain ⟨vs,rfl,h⟩ := h; exact ⟨vs,rfl,CVs_mono hw ho h⟩
 | .tup _,_,h => by obtain ⟨vs,rfl,h⟩ := h; exact ⟨vs,rfl,PVs_mono hw ho h⟩
def CV.has (m:Nat):CV→Bool
 | .h n | .cell n _ | .elt n _ _ _ | .sub n _ _ _ | .slf n _ | .elm n _ => n == m
 | .clo _ caps => caps.any (·== m)
 | .val _ | .imm _ _ | .ielt _ _ | .zc => false
def SV.has (m:Nat):SV→Bool
 | .c x => x.has m
 | .agg l => l.any (CV.has m)
 | .tup l => l.any fun p => p.2.any (CV.has m)
def Ent.has (m:Nat):Ent→Bool
 | .box cs => cs.any (CV.has m)
 | .row _ _ => false
 | .it _ _ _ => false
 | .map _ => false
 | .lit cs => cs.any (CV.has m)
 | .sets _ last => last == some m
 | .arow _ _ => false
 | .aown _ => false
 | .apend _ _ _ => false
 | .brow _ _ => false
 | .mit _ _ => false
 | .abox pre _ _ post => pre.any (CV.has m) || post.any (CV.has m)
def free (m:Nat) (Γ:Env) (H:Heap):Bool:=Γ.all (fun p=>!p.2.has m)&&H.all fun p=>p.1 !=m&&!p.2.has m
theorem CVr_names {O:Nat→Prop} {w:World} {σ σ':Nat→Value}:∀ {s:CV} {v:Value},(∀ n,s.has n=true→σ' n=σ n)→CVr O w σ s v→CVr O w σ' s v
 | .val _,_,_,h => h
 | .imm _ _,_,_,h => h
 | .h n,_,hn,h => by have e := hn n (by simp [CV.has]); simp only [CVr] at h ⊢; rw [e]; exact h
 | .cell n _,_,hn,h => by have e := hn n (by simp [CV.has]); simp only [CVr] at h ⊢; rw [e]; exact h
 | .elt n _ _ _,_,hn,h => by have e := hn n (by simp [CV.has]); simp only [CVr] at h ⊢; rw [e]; exact h
 | .ielt _ _,_,_,h => h
 | .zc,_,_,h => h
 | .slf n _,_,hn,h => by have e := hn n (by simp [CV.has]); simp only [CVr] at h ⊢; rw [e]; exact h
 | .elm n _,_,hn,h => by have e := hn n (by simp [CV.has]); simp only [CVr] at h ⊢; rw [e]; exact h
 | .sub n _ _ _,_,hn,h => by have e := hn n (by simp [CV.has]); simp only [CVr] at h ⊢; rw [e]; exact h
 | .clo _ caps,_,hn,h => by
   simp only [CVr] at h ⊢
   rw [h]
   congr 2
   exact (List.map_congr_left fun n hm=>congrArg hd <| hn n (by simp only [CV.has,List.any_eq_true]; exact ⟨n,hm,by simp⟩)).symm
theorem CVs_names {O:Nat→Prop} {w:World} {σ σ':Nat→Value}:∀ {l:List CV} {vs:List Value},(∀ n,l.any (CV.has n)=true→σ' n=σ n)→CVs O w σ l vs→CVs O w σ' l vs
 | [],[],_,_ => trivial
 | _ :: _,_ :: _,hn,h => ⟨CVr_names (fun n hh => hn n (by simp [hh])) h.1,CVs_names (fun n hh => hn n (by rw [List.any_cons,hh,Bool.or_true])) h.2⟩
 | [],_ :: _,_,h => h.elim
 | _ :: _,[],_,h => h.elim
theorem PVr_names {O:Nat→Prop} {w:World} {σ σ':Nat→Value}:∀ {s:Bool×List CV} {v:Value},(∀ n,s.2.any (CV.has n)=true→σ' n=σ n)→PVr O w σ s v→PVr O w σ' s v
 | (true,_),_,hn,h => by obtain ⟨vs,rfl,h⟩ := h; exact ⟨vs,rfl,CVs_names hn h⟩
 | (false,[_]),_,hn,h => CVr_names (fun n hh => hn n (by simp [hh])) h
 | (false,[]),_,_,h => h.elim
 | (false,_ :: _ :: _),_,_,h => h.elim
theorem PVs_names {O:Nat→Prop} {w:World} {σ σ':Nat→Value}:∀ {l:List (Bool×List CV)} {vs:List Value},(∀ n,(l.any fun p=>p.2.any (CV.has n))=true→σ' n=σ n)→PVs O w σ l vs→PVs O w σ' l vs
 | [],[],_,_ => trivial
 | _ :: _,_ :: _,hn,h => ⟨PVr_names (fun n hh => hn n (by simp only [List.any_cons,hh,Bool.true_or])) h.1,PVs_names (fun n hh => hn n (by rw [List.any_cons,hh,Bool.or_true])) h.2⟩
 | [],_ :: _,_,h => h.elim
 | _ :: _,[],_,h => h.elim
theorem SVr_names {O:Nat→Prop} {w:World} {σ σ':Nat→Value}:∀ {s:SV} {v:Value},(∀ n,s.has n=true→σ' n=σ n)→SVr O w σ s v→SVr O w σ' s v
 | .c _,_,hn,h => CVr_names hn h
 | .agg _,_,hn,h => by obtain ⟨vs,rfl,h⟩ := h; exact ⟨vs,rfl,CVs_names hn h⟩
 | .tup _,_,hn,h => by obtain ⟨vs,rfl,h⟩ := h; exact ⟨vs,rfl,PVs_names hn h⟩
theorem RowR_mono {O O':Nat→Prop} {w w':World} (hw:SameOff O w w') (ho:∀ b,b<w.heap.size→¬ O b→¬ O' b) {k:Kd} {xs:List k.ty} {v:Value}
 (hb:∀ b,Bk v b→w'.heap[b]? = w.heap[b]?) (h:RowR O w k xs v):RowR O' w' k xs v:=by
 obtain ⟨A,cap,rfl,h⟩:=h
 refine ⟨A,cap,rfl,?_⟩
 rcases h with h | ⟨hp,hl,b,off,c,e,rfl,hh,hs,hr⟩
 ·exact .inl h
 ·refine .inr ⟨hp,hl,b,off,c,e,rfl,?_,hs,fun i hi=>?_⟩
  ·rw [hb b (by simp [Bk,blk]; omega)]; exact hh
  ·obtain ⟨cs,hR,hc⟩:=hr i hi
   exact ⟨cs,R_mono hw ho hR,hc⟩
theorem MapR_mono {w w':World} {b:Nat} {l:List Int} (hb:w'.heap[b]? = w.heap[b]?) (h:MapR w b l):MapR w' b l:=by
 obtain ⟨es,clock,h1,h2⟩:=h
 exact ⟨es,clock,hb.trans h1,h2⟩
theorem Bk_tuple {vs:List Value} {v:Value} {b:Nat} (hm:v∈vs) (hb:blk v=some b):Bk (.tuple vs.toArray) b:=⟨v,by simpa using hm,hb⟩
theorem blk_slice {b off len cap:Nat} (h:0<cap):blk (.slice (some ⟨b,off,none⟩) len cap)=some b:=by
 simp only [blk]
 rw [if_neg (by omega)]
theorem Bk_row {k:Kd} {O:Nat→Prop} {w:World} {xs:List k.ty} {v:Value} (h:RowR O w k xs v) {b:Nat}:Bk v b↔blk v=some b:=by
 obtain ⟨A,cap,rfl,_⟩:=h
 exact Iff.rfl
theorem SetsR_mono {w w':World} {σ:Nat→Value} {v:Value} {ls:List (List Int)} {last:Option Nat} (hb:∀ b,Bk v b→w'.heap[b]? = w.heap[b]?) (h:SetsR w σ v ls last):SetsR w' σ v ls last:=by
 obtain ⟨A,cap,vs,rfl,h1,h2,h3,h4,h5⟩:=h
 refine ⟨A,cap,vs,rfl,h1,h2,fun i hi=>?_,h4,?_⟩
 ·obtain ⟨b,hv,hM⟩:=h3 i hi
  exact ⟨b,hv,MapR_mono (hb b (Bk_tuple (List.mem_cons_of_mem _ (List.mem_of_getElem? hv)) rfl)) hM⟩
 ·rcases h5 with h5 | ⟨hp,hl,b,off,c,e,rfl,hh,hs,hr⟩
  ·exact .inl h5
  ·exact .inr ⟨hp,hl,b,off,c,e,rfl,(hb b (Bk_tuple List.mem_cons_self (blk_slice hp.1))).trans hh,hs,hr⟩
theorem SetsR_names {w:World} {σ σ':Nat→Value} {v:Value} {ls:List (List Int)} {last:Option Nat} (hn:∀ m,last=some m→σ' m=σ m) (h:SetsR w σ v ls last):SetsR w σ' v ls last:=by
 obtain ⟨A,cap,vs,rfl,h1,h2,h3,h4,h5⟩:=h
 exact ⟨A,cap,vs,rfl,h1,h2,h3,fun m hm=>by rw [hn m hm]; exact h4 m hm,h5⟩
theorem ArR_mono {O O':Nat→Prop} {w w':World} (hw:SameOff O w w') (ho:∀ b,b<w.heap.size→¬ O b→¬ O' b) {v:Value} {m:Nat} {xs:List aK.ty} {q:Option (Nat×List cK.ty)}
 (hb:∀ b,Bk v b→w'.heap[b]? = w.heap[b]?) (h:ArR O w v m xs q):ArR O' w' v m xs q:=by
 obtain ⟨A,cap,vs,rfl,h1,h2,h3,h4,h5⟩:=h
 refine ⟨A,cap,vs,rfl,h1,h2,h3,fun i hi=>?_,?_⟩
 ·obtain ⟨zs,hR,hz⟩:=h4 i hi
  exact ⟨zs,RowR_mono hw ho (fun b hbb=>hb b (Bk_tuple (List.mem_cons_of_mem _ (List.getElem_mem hi)) ((Bk_row hR).1 hbb))) hR,hz⟩
 ·rcases h5 with h5 | ⟨hp,hl,b,off,c,e,rfl,hh,hs,hr⟩
  ·exact .inl h5
  ·refine .inr ⟨hp,hl,b,off,c,e,rfl,(hb b (Bk_tuple List.mem_cons_self (blk_slice hp.1))).trans hh,hs,fun i hi=>?_⟩
   obtain ⟨cs,hcs,hr⟩:=hr i hi
   refine ⟨cs,hcs,?_⟩
   split at hr
   ·rename_i hlt; rw [if_pos hlt]; exact hr
   ·rename_i hlt; rw [if_neg hlt]; exact R_mono hw ho hr
theorem HeadT_mono {w w':World} {v:Value} {e:TypeId} (hb:∀ b,Bk v b→w'.heap[b]? = w.heap[b]?) (h:HeadT w v e):HeadT w' v e:=fun A len cap hv=>by
 rcases h A len cap hv with h0 | ⟨hc,b,c,rfl,hh⟩
 ·exact .inl h0
 ·exact .inr ⟨hc,b,c,rfl,(hb b (by rw [hv]; exact blk_slice hc)).trans hh⟩
theorem EntR_mono {O O':Nat→Prop} {w w':World} {σ:Nat→Value} (hw:SameOff O w w') (ho:∀ b,b<w.heap.size→¬ O b→¬ O' b) {n:Nat}
 (hb:∀ b,Bk (σ n) b→w'.heap[b]? = w.heap[b]?):∀ {e:Ent},EntR O w σ n e→EntR O' w' σ n e
 | .box _,h => by
   obtain ⟨b,c,e,hs,hh,hc⟩:=h
   exact ⟨b,c,e,hs,by rw [hb b hs.own]; exact hh,CVs_mono hw ho hc⟩
 | .row _ _,h => RowR_mono hw ho hb h
 | .it _ _ _,h => by
   obtain ⟨b,hs,hh,hk⟩:=h
   exact ⟨b,hs,by rw [hb b (by rw [hs]; rfl)]; exact hh,hk⟩
 | .map _,h => by
   obtain ⟨b,hs,hM⟩:=h
   exact ⟨b,hs,MapR_mono (hb b (by rw [hs]; rfl)) hM⟩
 | .lit _,h => by
   obtain ⟨b,c,e,hs,hp,hh,hc⟩:=h
   exact ⟨b,c,e,hs,hp,by rw [hb b (by rw [hs]; exact blk_slice hp)]; exact hh,CVs_mono hw ho hc⟩
 | .sets _ _,h => SetsR_mono hb h
 | .arow _ _,h => ArR_mono hw ho hb h
 | .aown _,h => ArR_mono hw ho hb h
 | .apend _ _ _,h => ⟨ArR_mono hw ho hb h.1,h.2⟩
 | .brow _ _,h => ⟨RowR_mono hw ho hb h.1,HeadT_mono hb h.2⟩
 | .mit _ _,h => by
   obtain ⟨b,r,es,clock,seen,hv,hne,h1,h2,h3⟩:=h
   exact ⟨b,r,es,clock,seen,hv,hne,by rw [hb b (by rw [hv]; exact Bk_tuple (List.mem_cons_of_mem _ List.mem_cons_self) rfl)]; exact h1,by rw [hb r (by rw [hv]; exact Bk_tuple List.mem_cons_self rfl)]; exact h2,h3⟩
 | .abox _ _ _ _,h => by
   obtain ⟨hk,b,c,e,hs,hh,hc⟩:=h
   exact ⟨hk,b,c,e,hs,by rw [hb b hs.own]; exact hh,CVs_mono hw ho hc⟩
theorem any_flatA {pre post:List CV} {bs:List Bool} {m:Nat}:(flatA pre bs post).any (CV.has m)=(pre.any (CV.has m)||post.any (CV.has m)):=by
 have:(bs.map fun b=>CV.val (.bool b)).any (CV.has m)=false:=by induction bs <;> simp_all [CV.has]
 simp only [flatA,List.any_append,this,Bool.false_or]
theorem EntR_names {O:Nat→Prop} {w:World} {σ σ':Nat→Value} {n:Nat} (hs:σ' n=σ n):∀ {e:Ent},(∀ m,e.has m=true→σ' m=σ m)→EntR O w σ n e→EntR O w σ' n e
 | .box _,hn,h => by
   obtain ⟨b,c,e,he,hh,hc⟩:=h
   exact ⟨b,c,e,hs.symm▸he,hh,CVs_names hn hc⟩
 | .row _ _,_,h => by unfold EntR at h ⊢; rw [hs]; exact h
 | .it _ _ _,_,h => by unfold EntR at h ⊢; rw [hs]; exact h
 | .map _,_,h => by unfold EntR at h ⊢; rw [hs]; exact h
 | .lit _,hn,h => by
   obtain ⟨b,c,e,he,hp,hh,hc⟩:=h
   exact ⟨b,c,e,hs.trans he,hp,hh,CVs_names hn hc⟩
 | .sets _ _,hn,h => by unfold EntR at h ⊢; rw [hs]; exact SetsR_names (fun m hm => hn m (by simp [Ent.has,hm])) h
 | .arow _ _,_,h => by unfold EntR at h ⊢; rw [hs]; exact h
 | .aown _,_,h => by unfold EntR at h ⊢; rw [hs]; exact h
 | .apend _ _ _,_,h => by unfold EntR at h ⊢; rw [hs]; exact h
 | .brow _ _,_,h => by unfold EntR at h ⊢; rw [hs]; exact h
 | .mit _ _,_,h => by unfold EntR at h ⊢; rw [hs]; exact h
 | .abox _ _ _ _,hn,h => by
   obtain ⟨hk,b,c,e,he,hh,hc⟩:=h
   exact ⟨hk,b,c,e,hs.symm▸he,hh,CVs_names (fun m hm=>hn m (by rw [any_flatA] at hm; exact hm)) hc⟩
theorem MapR_lt {w:World} {b:Nat} {l:List Int} (h:MapR w b l):b<w.heap.size:=by
 obtain ⟨es,clock,h1,_⟩:=h
 exact (Array.getElem?_eq_some_iff.1 h1).1
theorem RowR_lt {O:Nat→Prop} {w:World} {k:Kd} {xs:List k.ty} {v:Value} (h:RowR O w k xs v) {b:Nat} (hb:blk v=some b):b<w.heap.size:=by
 obtain ⟨A,cap,rfl,h⟩:=h
 rcases h with ⟨rfl,_⟩ | ⟨hp,_,b',off,c,e,rfl,hh,_⟩
 ·cases A <;> simp [blk] at hb
 ·rw [blk_slice hp.1] at hb
  cases hb
  exact (Array.getElem?_eq_some_iff.1 hh).1
theorem SetsR_lt {w:World} {σ:Nat→Value} {v:Value} {ls:List (List Int)} {last:Option Nat} (h:SetsR w σ v ls last) {b:Nat} (hb:Bk v b):b<w.heap.size:=by
 obtain ⟨A,cap,vs,rfl,h1,h2,h3,h4,h5⟩:=h
 obtain ⟨u,hu,hb⟩:=hb
 rcases List.mem_cons.1 (by simpa using hu) with rfl | hu
 ·rcases h5 with ⟨rfl,_⟩ | ⟨hp,hl,b',off,c,e,rfl,hh,_⟩
  ·cases A <;> simp [blk] at hb
  ·rw [blk_slice hp.1] at hb
   cases hb
   exact (Array.getElem?_eq_some_iff.1 hh).1
 ·obtain ⟨i,hi,rfl⟩:=List.getElem_of_mem hu
  rcases Nat.lt_or_ge i ls.length with hlt | hge
  ·obtain ⟨b',hv,hM⟩:=h3 i hlt
   rw [List.getElem?_eq_getElem hi] at hv
   rw [Option.some.inj hv] at hb
   cases hb
   exact MapR_lt hM
  ·cases last with
   | none => simp at h2; omega
   | some m =>
     have:i=ls.length:=by simp at h2; omega
     subst this
     obtain ⟨h6,_⟩:=h4 m rfl
     rw [List.getElem?_eq_getElem hi] at h6
     rw [Option.some.inj h6] at hb
     cases hb
theorem ArR_lt {O:Nat→Prop} {w:World} {v:Value} {m:Nat} {xs:List aK.ty} {q:Option (Nat×List cK.ty)} (h:ArR O w v m xs q) {b:Nat} (hb:Bk v b):b<w.heap.size:=by
 obtain ⟨A,cap,vs,rfl,h1,h2,h3,h4,h5⟩:=h
 obtain ⟨u,hu,hb⟩:=hb
 rcases List.mem_cons.1 (by simpa using hu) with rfl | hu
 ·rcases h5 with ⟨rfl,_⟩ | ⟨hp,hl,b',off,c,e,rfl,hh,_⟩
  ·cases A <;> simp [blk] at hb
  ·rw [blk_slice hp.1] at hb
   cases hb
   exact (Array.getElem?_eq_some_iff.1 hh).1
 ·obtain ⟨i,hi,rfl⟩:=List.getElem_of_mem hu
  obtain ⟨zs,hR,_⟩:=h4 i hi
  exact RowR_lt hR hb
theorem blk_lt {O:Nat→Prop} {w:World} {σ:Nat→Value} {n:Nat}:∀ {e:Ent},EntR O w σ n e→∀ b,Bk (σ n) b→b<w.heap.size
 | .box _,h,b,hb => by
   obtain ⟨b',c,e,hs,hh,_⟩:=h
   obtain rfl:=hs.bk.1 hb
   exact (Array.getElem?_eq_some_iff.1 hh).1
 | .it _ _ _,h,b,hb => by
   obtain ⟨b',hs,hh,_⟩:=h
   rw [hs] at hb
   simp only [Bk,blk,Option.some.injEq] at hb
   subst hb
   exact (Array.getElem?_eq_some_iff.1 hh).1
 | .row _ _,h,b,hb => by
   obtain ⟨A,cap,hs,h⟩:=h
   rw [hs] at hb
   rcases h with ⟨rfl,_⟩ | ⟨hp,_,b',off,c,e,rfl,hh,_⟩
   ·cases A <;> simp [Bk,blk] at hb
   ·have:b'=b:=by
     simp only [Bk,blk] at hb
     rw [if_neg (by omega)] at hb
     simpa using hb
    subst this
    exact (Array.getElem?_eq_some_iff.1 hh).1
 | .map _,h,b,hb => by
   obtain ⟨b',hs,hM⟩:=h
   rw [hs] at hb
   cases hb
   exact MapR_lt hM
 | .lit _,h,b,hb => by
   obtain ⟨b',c,e,hs,hp,hh,_⟩:=h
   rw [hs] at hb
   have hb:some b'=some b:=(blk_slice hp).symm.trans hb
   cases hb
   exact (Array.getElem?_eq_some_iff.1 hh).1
 | .sets _ _,h,b,hb => SetsR_lt h hb
 | .arow _ _,h,b,hb => ArR_lt h hb
 | .aown _,h,b,hb => ArR_lt h hb
 | .apend _ _ _,h,b,hb => ArR_lt h.1 hb
 | .brow _ _,h,b,hb => RowR_lt h.1 ((Bk_row h.1).1 hb)
 | .mit _ _,h,b,hb => by
   obtain ⟨b',r,es,clock,seen,hv,hne,h1,h2,h3⟩:=h
   rw [hv] at hb
   obtain ⟨u,hu,hb⟩:=hb
   have hu:u=.pointer (some ⟨r,0,none⟩)∨u=.map (some b'):=by simpa using hu
   rcases hu with rfl | rfl
   ·cases hb; exact (Array.getElem?_eq_some_iff.1 h2).1
   ·cases hb; exact (Array.getElem?_eq_some_iff.1 h1).1
 | .abox _ _ _ _,h,b,hb => by
   obtain ⟨_,b',c,e,hs,hh,_⟩:=h
   obtain rfl:=hs.bk.1 hb
   exact (Array.getElem?_eq_some_iff.1 hh).1
theorem Ow_lt {C:FC} {σ:Nat→Value} {H:Heap} {w:World} (h:SatW C σ H w) {b:Nat} (hb:Ow C.G H σ b):b<w.heap.size:=by
 rcases hb with hg | ⟨p,hp,hb⟩
 ·exact Nat.lt_of_lt_of_le (h.fr.gsize b hg) h.fr.size
 ·exact blk_lt (h.ent p hp) b hb
theorem SatW.go {C:FC} {σ:Nat→Value} {H:Heap} {w w':World} (h:SatW C σ H w) (hw:∀ b,b<w.heap.size→w'.heap[b]? = w.heap[b]?)
 (hs:w.heap.size≤w'.heap.size) (hos:w'.os=w.os) (ht:w'.tape=w.tape) (hou:w'.output=w.output):SatW C σ H w':=by
 have hso:SameOff (Ow C.G H σ) w w':=fun b hb _=>hw b hb
 refine ⟨fun p hp=>EntR_mono hso (fun _ _ h=>h) (fun b hb=>hw b (blk_lt (h.ent p hp) b hb)) (h.ent p hp),h.nd,h.disj,h.mine,?_⟩
 exact ⟨hos.trans h.fr.os,ht.trans h.fr.tape,hou.trans h.fr.output,Nat.le_trans h.fr.size hs,
  fun b hb ho=>(hw b (Nat.lt_of_lt_of_le hb h.fr.size)).trans (h.fr.block b hb ho),h.fr.gsize⟩
theorem EnvR.go {C:FC} {σ:Nat→Value} {H:Heap} {w w':World} {Γ:Env} {a:Act} (h:EnvR C σ H w Γ a) (hw:∀ b,b<w.heap.size→w'.heap[b]? = w.heap[b]?):EnvR C σ H w' Γ a:=
 ⟨fun t sv hl=>⟨(h.1 t sv hl).1,SVr_mono (fun b hb _=>hw b hb) (fun _ _ h=>h) (h.1 t sv hl).2⟩,h.2⟩
theorem SatW.sub {C:FC} {σ:Nat→Value} {H H':Heap} {w:World} (h:SatW C σ H w) (hsub:∀ p∈H',p∈H) (hnd:(H'.map Prod.fst).Nodup):SatW C σ H' w:=by
 have ho:∀ b,b<w.heap.size→¬ Ow C.G H σ b→¬ Ow C.G H' σ b:=fun b _ hb hb'=>hb (by
  rcases hb' with hg | ⟨p,hp,e⟩
  ·exact .inl hg
  ·exact .inr ⟨p,hsub p hp,e⟩)
 exact ⟨fun p hp=>EntR_mono (fun _ _ _=>rfl) ho (fun _ _=>rfl) (h.ent p (hsub p hp)),hnd,fun p hp q hq=>h.disj p (hsub p hp) q (hsub q hq),fun p hp=>h.mine p (hsub p hp),h.fr⟩
theorem EnvR.sub {C:FC} {σ:Nat→Value} {H H':Heap} {w:World} {Γ:Env} {a:Act} (h:EnvR C σ H w Γ a) (hsub:∀ p∈H',p∈H):EnvR C σ H' w Γ a:=
 ⟨fun t sv hl=>⟨(h.1 t sv hl).1,SVr_mono (fun _ _ _=>rfl) (fun b _ hb hb'=>hb (by
  rcases hb' with hg | ⟨p,hp,e⟩
  ·exact .inl hg
  ·exact .inr ⟨p,hsub p hp,e⟩)) (h.1 t sv hl).2⟩,h.2⟩
theorem EnvR.put {C:FC} {σ:Nat→Value} {H:Heap} {w:World} {Γ:Env} {a:Act} {d:Nat} {sv:SV} {v:Value} (h:EnvR C σ H w Γ a) (hd:d<C.N) (hv:SVr (Ow C.G H σ) w σ sv v) :
 EnvR C σ H w ((d,sv) :: Γ) (a.put (some d) v):=by
 refine ⟨fun t s hl=>?_,by simpa [Act.put] using h.2.1,h.2.2⟩
 simp only [look] at hl
 by_cases e:d=t
 ·subst e
  rw [if_pos rfl] at hl
  cases hl
  refine ⟨hd,?_⟩
  have hlt:d<a.tmps.size:=by rw [h.2.1]; exact hd
  simp only [Act.put,Array.getD_eq_getD_getElem?,Array.getElem?_setIfInBounds,hlt,if_true,Option.getD_some]
  exact hv
 ·rw [if_neg e] at hl
  refine ⟨(h.1 t s hl).1,?_⟩
  have:=(h.1 t s hl).2
  simpa only [Act.put,Array.getD_eq_getD_getElem?,Array.getElem?_setIfInBounds,if_neg e] using this
end Go.Pal
namespace Go.Pal
open Go
def eraseH (H:Heap) (n:Nat):Heap:=H.filter fun p=>p.1 !=n
theorem mem_eraseH {H:Heap} {n:Nat} {p:Nat×Ent}:p∈eraseH H n↔p∈H∧p.1≠n:=by
 simp [eraseH]
theorem nodup_eraseH {H:Heap} {n:Nat} (h:(H.map Prod.fst).Nodup):((eraseH H n).map Prod.fst).Nodup:=
 (List.Sublist.map _ (List.filter_sublist)).nodup h
theorem look_mem {α:Type}:∀ {l:List (Nat×α)} {t:Nat} {v:α},look l t=some v→(t,v)∈l
 | [],_,_,h => by simp [look] at h
 | (s,u) :: l,t,v,h => by
   simp only [look] at h
   by_cases e:s=t
   ·rw [if_pos e] at h; cases h; subst e; exact List.mem_cons_self
   ·rw [if_neg e] at h; exact List.mem_cons_of_mem _ (look_mem h)
theorem mem_look {α:Type}:∀ {l:List (Nat×α)} {t:Nat} {v:α},(l.map Prod.fst).Nodup→(t,v)∈l→look l t=some v
 | (s,u) :: l,t,v,hnd,h => by
   simp only [List.map_cons,List.nodup_cons] at hnd
   simp only [look]
   rcases List.mem_cons.1 h with e | h
   ·cases e; rw [if_pos rfl]
   ·rw [if_neg,mem_look hnd.2 h]
    intro e
    exact hnd.1 (List.mem_map.2 ⟨(t,v),h,e.symm⟩)
def upd (σ:Nat→Value) (n:Nat) (v:Value):Nat→Value:=fun m=>if m=n then v else σ m
theorem upd_same (σ:Nat→Value) (n:Nat) (v:Value):upd σ n v n=v:=by simp [upd]
theorem upd_ne {σ:Nat→Value} {n m:Nat} {v:Value} (h:m≠n):upd σ n v m=σ m:=by simp [upd,h]
theorem upd_self {σ:Nat→Value} {n:Nat}:upd σ n (σ n)=σ:=by funext m; by_cases h:m=n <;> simp [upd,h]
theorem step1 {C:FC} {σ:Nat→Value} {H:Heap} {w w':World} (h:SatW C σ H w) (n n':Nat) (e':Ent) (v':Value)
 (hfree:∀ m,m=n'→v'=σ n'∨∀ p∈eraseH H n,p.2.has n'=false)
 (hnin:∀ p∈eraseH H n,p.1≠n')
 (hw:∀ b,b<w.heap.size→(∀ e,(n,e)∈H→¬ Bk (σ n) b)→w'.heap[b]? = w.heap[b]?)
 (hs:w.heap.size≤w'.heap.size) (hos:w'.os=w.os) (ht:w'.tape=w.tape) (hou:w'.output=w.output)
 (hblk:∀ b,Bk v' b→(Bk (σ n) b∧∃ e,(n,e)∈H)∨w.heap.size≤b)
 (hent:EntR (Ow C.G ((n',e') :: eraseH H n) (upd σ n' v')) w' (upd σ n' v') n' e') :
 SatW C (upd σ n' v') ((n',e') :: eraseH H n) w'∧SameOff (Ow C.G H σ) w w'∧
  ∀ b,b<w.heap.size→¬ Ow C.G H σ b→¬ Ow C.G ((n',e') :: eraseH H n) (upd σ n' v') b:=by
 have hne:∀ p∈eraseH H n,upd σ n' v' p.1=σ p.1:=fun p hp=>upd_ne (hnin p hp)
 have hso:SameOff (Ow C.G H σ) w w':=fun b hb ho=>hw b hb fun e he hb'=>ho (.inr ⟨(n,e),he,hb'⟩)
 have hanti:∀ b,b<w.heap.size→¬ Ow C.G H σ b→¬ Ow C.G ((n',e') :: eraseH H n) (upd σ n' v') b:=by
  intro b hb ho ho'
  rcases ho' with hg | ⟨p,hp,hbp⟩
  ·exact ho (.inl hg)
  ·rcases List.mem_cons.1 hp with rfl | hp
   ·rw [upd_same] at hbp
    rcases hblk b hbp with ⟨hb1,e,he⟩ | hb2
    ·exact ho (.inr ⟨(n,e),he,hb1⟩)
    ·omega
   ·rw [hne p hp] at hbp
    exact ho (.inr ⟨p,(mem_eraseH.1 hp).1,hbp⟩)
 -- a kept entry's block is not n's block
 have hkb:∀ p∈eraseH H n,∀ b,Bk (σ p.1) b→∀ e,(n,e)∈H→¬ Bk (σ n) b:=by
  intro p hp b hb e he
  have hp':=mem_eraseH.1 hp
  exact h.disj p hp'.1 (n,e) he hp'.2 b hb
 have hold:∀ p∈eraseH H n,∀ b,Bk (σ p.1) b→w'.heap[b]? = w.heap[b]?:=fun p hp b hb=>
  hw b (blk_lt (h.ent p (mem_eraseH.1 hp).1) b hb) (hkb p hp b hb)
 have hnames:∀ p∈eraseH H n,∀ m,p.2.has m=true→upd σ n' v' m=σ m:=by
  intro p hp m hm
  by_cases e:m=n'
  ·subst e
   rcases hfree m rfl with hv | hf
   ·rw [upd_same,hv]
   ·rw [hf p hp] at hm; cases hm
  ·exact upd_ne e
 refine ⟨⟨fun p hp=>?_,?_,?_,?_,?_⟩,hso,hanti⟩
 ·rcases List.mem_cons.1 hp with rfl | hp
  ·exact hent
  ·have hp':=(mem_eraseH.1 hp).1
   exact EntR_names (hne p hp) (hnames p hp) (EntR_mono hso hanti (hold p hp) (h.ent p hp'))
 ·simp only [List.map_cons,List.nodup_cons]
  refine ⟨fun hm=>?_,nodup_eraseH h.nd⟩
  obtain ⟨p,hp,e⟩:=List.mem_map.1 hm
  exact hnin p hp e
 ·have key:∀ q∈eraseH H n,∀ b,Bk v' b→¬ Bk (σ q.1) b:=by
   intro q hq b hb hb'
   rcases hblk b hb with ⟨hb1,e,he⟩ | hb2
   ·exact hkb q hq b hb' e he hb1
   ·have:=blk_lt (h.ent q (mem_eraseH.1 hq).1) b hb'
    omega
  intro p hp q hq hpq b hb hb'
  rcases List.mem_cons.1 hp with rfl | hp <;> rcases List.mem_cons.1 hq with rfl | hq
  ·exact hpq rfl
  ·rw [upd_same] at hb; rw [hne q hq] at hb'; exact key q hq b hb hb'
  ·rw [upd_same] at hb'; rw [hne p hp] at hb; exact key p hp b hb' hb
  ·rw [hne p hp] at hb; rw [hne q hq] at hb'; exact h.disj p (mem_eraseH.1 hp).1 q (mem_eraseH.1 hq).1 hpq b hb hb'
 ·intro p hp b hb
  rcases List.mem_cons.1 hp with rfl | hp
  ·rw [upd_same] at hb
   rcases hblk b hb with ⟨hb1,e,he⟩ | hb2
   ·exact h.mine (n,e) he b hb1
   ·refine ⟨fun hg=>?_,.inr (Nat.le_trans h.fr.size hb2)⟩
    have:=h.fr.gsize b hg
    have:=h.fr.size
    omega
  ·rw [hne p hp] at hb
   exact h.mine p (mem_eraseH.1 hp).1 b hb
 ·refine ⟨hos.trans h.fr.os,ht.trans h.fr.tape,hou.trans h.fr.output,Nat.le_trans h.fr.size hs,fun b hb ho=>?_,h.fr.gsize⟩
  rw [hw b (Nat.lt_of_lt_of_le hb h.fr.size) ?_]
  ·exact h.fr.block b hb ho
  ·intro e he hb'
   rcases (h.mine (n,e) he b hb').2 with h1 | h1
   ·exact ho h1
   ·omega
theorem EnvR.step {C:FC} {σ σ':Nat→Value} {H H':Heap} {w w':World} {Γ:Env} {a:Act} (h:EnvR C σ H w Γ a)
 (hso:SameOff (Ow C.G H σ) w w') (hanti:∀ b,b<w.heap.size→¬ Ow C.G H σ b→¬ Ow C.G H' σ' b)
 (hn:∀ t sv,look Γ t=some sv→∀ m,sv.has m=true→σ' m=σ m):EnvR C σ' H' w' Γ a:=
 ⟨fun t sv hl=>⟨(h.1 t sv hl).1,SVr_names (hn t sv hl) (SVr_mono hso hanti (h.1 t sv hl).2)⟩,h.2⟩
structure EnvP (C:FC) (σ σ':Nat→Value) (H H':Heap) (w w':World) (Γ:Env) (a:Act):Prop where
 env:EnvR C σ' H' w' Γ a
 so:SameOff (Ow C.G H σ) w w'
 anti:∀ b,b<w.heap.size→¬ Ow C.G H σ b→¬ Ow C.G H' σ' b
theorem EnvP.refl {C:FC} {σ:Nat→Value} {H:Heap} {w:World} {Γ:Env} {a:Act} (h:EnvR C σ H w Γ a):EnvP C σ σ H H w w Γ a:=⟨h,fun _ _ _=>rfl,fun _ _ h=>h⟩
theorem free_env {n:Nat} {Γ:Env} {H:Heap} {σ:Nat→Value} {v:Value} (hf:free n Γ H=true):∀ t sv,look Γ t=some sv→∀ m,sv.has m=true→upd σ n v m=σ m:=by
 intro t sv hl m hm
 simp only [free,Bool.and_eq_true,List.all_eq_true] at hf
 have:=hf.1 _ (look_mem hl)
 refine upd_ne fun e=>?_
 subst e
 simp only [hm] at this
 cases this
theorem free_heap {n:Nat} {Γ:Env} {H:Heap} (hf:free n Γ H=true):∀ p∈H,p.1≠n∧p.2.has n=false:=by
 intro p hp
 simp only [free,Bool.and_eq_true,List.all_eq_true] at hf
 have:=hf.2 p hp
 simpa using this
theorem eraseH_free {n:Nat} {Γ:Env} {H:Heap} (hf:free n Γ H=true):eraseH H n=H:=by
 unfold eraseH
 rw [List.filter_eq_self]
 intro p hp
 simpa using (free_heap hf p hp).1
def evo (Γ:Env):Operand→Option SV
 | .tmp t => look Γ t
 | .const v => some (.c (.val v))
 | .func f => some (.c (.clo f []))
 | .global _ => none
theorem evo_sound {C:FC} {σ:Nat→Value} {H:Heap} {w:World} {Γ:Env} {a:Act} (hE:EnvR C σ H w Γ a):∀ {x:Operand} {sv:SV},evo Γ x=some sv→SVr (Ow C.G H σ) w σ sv (a.eval x)
 | .tmp t,sv,h => (hE.1 t sv h).2
 | .const v,sv,h => by cases h; rfl
 | .func f,sv,h => by cases h; rfl
def evc (Γ:Env) (x:Operand):Option CV:=
 match evo Γ x with
 | some (.c v) => some v
 | _ => none
theorem evc_sound {C:FC} {σ:Nat→Value} {H:Heap} {w:World} {Γ:Env} {a:Act} (hE:EnvR C σ H w Γ a) {x:Operand} {v:CV} (h:evc Γ x=some v):CVr (Ow C.G H σ) w σ v (a.eval x):=by
 unfold evc at h
 split at h
 ·rename_i v' he
  cases h
  exact evo_sound hE he
 ·cases h
def evi (Γ:Env) (x:Operand):Option (IntKind×Int):=
 match evc Γ x with
 | some (.val (.int k n)) => some (k,n)
 | _ => none
theorem evi_sound {C:FC} {σ:Nat→Value} {H:Heap} {w:World} {Γ:Env} {a:Act} (hE:EnvR C σ H w Γ a) {x:Operand} {k:IntKind} {n:Int} (h:evi Γ x=some (k,n)):a.eval x=.int k n:=by
 unfold evi at h
 split at h
 ·rename_i k' n' he
  cases h
  exact evc_sound hE he
 ·cases h
def SV.cells:SV→Option (List CV)
 | .c x => some [x]
 | .agg l => some l
 | .tup _ => none
theorem CVs_len {O:Nat→Prop} {w:World} {σ:Nat→Value}:∀ {l:List CV} {vs:List Value},CVs O w σ l vs→l.length=vs.length
 | [],[],_ => rfl
 | _ :: _,_ :: _,h => by simp [CVs_len h.2]
 | [],_ :: _,h => h.elim
 | _ :: _,[],h => h.elim
theorem CVs_append {O:Nat→Prop} {w:World} {σ:Nat→Value}:∀ {l m:List CV} {vs us:List Value},CVs O w σ l vs→CVs O w σ m us→CVs O w σ (l++m) (vs++us)
 | [],_,[],_,_,h2 => h2
 | _ :: _,_,_ :: _,_,h1,h2 => ⟨h1.1,CVs_append h1.2 h2⟩
 | [],_,_ :: _,_,h,_ => h.elim
 | _ :: _,_,[],_,h,_ => h.elim
theorem CVs_take {O:Nat→Prop} {w:World} {σ:Nat→Value}:∀ {n:Nat} {l:List CV} {vs:List Value},CVs O w σ l vs→CVs O w σ (l.take n) (vs.take n)
 | 0,_,_,_ => by simp [CVs]
 | _+1,[],[],_ => trivial
 | _+1,_ :: _,_ :: _,h => ⟨h.1,CVs_take h.2⟩
 | _+1,[],_ :: _,h => h.elim
 | _+1,_ :: _,[],h => h.elim
theorem CVs_drop {O:Nat→Prop} {w:World} {σ:Nat→Value}:∀ {n:Nat} {l:List CV} {vs:List Value},CVs O w σ l vs→CVs O w σ (l.drop n) (vs.drop n)
 | 0,_,_,h => h
 | _+1,[],[],_ => trivial
 | n+1,_ :: l,_ :: vs,h => by simpa using CVs_drop (n := n) (l := l) (vs := vs) h.2
 | _+1,[],_ :: _,h => h.elim
 | _+1,_ :: _,[],h => h.elim
theorem SV_cells {O:Nat→Prop} {w:World} {σ:Nat→Value}:∀ {s:SV} {v:Value} {l:List CV},s.cells=some l→SVr O w σ s v→
 (∃ vs,v=.agg vs.toArray∧CVs O w σ l vs)∨∃ x,l=[x]∧CVr O w σ x v
 | .c x,v,l,hc,h => by cases hc; exact .inr ⟨x,rfl,h⟩
 | .agg _,v,l,hc,h => by cases hc; exact .inl h
 | .tup _,_,_,hc,_ => by cases hc
def Kd.svs:(k:Kd)→k.ty→List CV
 | .int ik,n => [.val (.int ik n)]
 | .bool,b => [.val (.bool b)]
 | .str,s => [.val (.string s)]
 | .slice e,xs => [.imm (.slice e) xs]
 | .opt e,x => [.imm (.opt e) x]
 | .pair a b,x => a.svs x.1 ++ b.svs x.2
 | .node,t => [.imm (.slice (.opt .node)) t.kids,.imm (.slice .str) t.items,.val (.int .i64 t.n),.val (.int .i64 t.d),.val (.int .i64 t.s1),.val (.int .i64 t.s2),.val (.int .i64 t.s3),.val (.int .i64 t.s4)]
theorem node_parts {O:Nat→Prop} {w:World} {f:Nat} {kids:List (Option Tree)} {items:List ByteArray} {n d s1 s2 s3 s4:Int} {cs:List Value} (h:NodeR O w f (.mk kids items n d s1 s2 s3 s4) cs) :
 ∃ u v,cs=[u,v,.int .i64 n,.int .i64 d,.int .i64 s1,.int .i64 s2,.int .i64 s3,.int .i64 s4]∧(Kd.slice (.opt .node)).R O w kids [u]∧(Kd.slice .str).R O w items [v]:=by
 cases f with
 | zero => exact h.elim
 | succ f =>
   obtain ⟨A,ca,B,cb,rfl,h1,h2,h3,h4⟩:=h
   refine ⟨_,_,rfl,⟨A,ca,rfl,h1,fun i hi=>?_⟩,⟨B,cb,rfl,h2,fun i hi=>?_⟩⟩
   ·obtain ⟨b,off,v,hA,hb,hc,hk⟩:=h3 i hi
    refine ⟨b,off,[v],hA,hb,?_,fun j hj=>?_⟩
    ·split at hk
     ·rename_i e; simp only [Kd.R,e]; rw [hk]
     ·rename_i t e
      obtain ⟨b',off',c,hv,hb',hR,hc'⟩:=hk
      simp only [Kd.R,e]
      exact ⟨b',off',c,by rw [hv],hb',⟨f,hR⟩,hc'⟩
    ·obtain rfl:j=0:=by simp only [Kd.sz] at hj; omega
     simpa [Kd.sz] using hc
   ·obtain ⟨b,off,hB,hb,hc⟩:=h4 i hi
    refine ⟨b,off,[.string items[i]],hB,hb,rfl,fun j hj=>?_⟩
    obtain rfl:j=0:=by simp only [Kd.sz] at hj; omega
    simpa [Kd.sz] using hc
theorem NodeR_succ {O:Nat→Prop} {w:World}:∀ {f:Nat} {t:Tree} {cs:List Value},NodeR O w f t cs→NodeR O w (f+1) t cs
 | 0,_,_,h => h.elim
 | f+1,.mk kids items n d s1 s2 s3 s4,_,h => by
   obtain ⟨A,ca,B,cb,rfl,h1,h2,h3,h4⟩:=h
   refine ⟨A,ca,B,cb,rfl,h1,h2,fun i hi=>?_,h4⟩
   obtain ⟨b,off,v,hA,hb,hc,hk⟩:=h3 i hi
   refine ⟨b,off,v,hA,hb,hc,?_⟩
   split at hk
   ·exact hk
   ·obtain ⟨b',off',c,hv,hb',hR,hc'⟩:=hk
    exact ⟨b',off',c,hv,hb',NodeR_succ hR,hc'⟩
theorem NodeR_le {O:Nat→Prop} {w:World} {t:Tree} {cs:List Value} {f g:Nat} (h:NodeR O w f t cs) (hl:f≤g):NodeR O w g t cs:=by
 induction hl with
 | refl => exact h
 | step _ ih => exact NodeR_succ ih
theorem node_mk {O:Nat→Prop} {w:World} {kids:List (Option Tree)} {items:List ByteArray} {n d s1 s2 s3 s4:Int} {u v:Value} (h1:(Kd.slice (.opt .node)).R O w kids [u]) (h2:(Kd.slice .str).R O w items [v]) :
 ∃ f,NodeR O w f (.mk kids items n d s1 s2 s3 s4) [u,v,.int .i64 n,.int .i64 d,.int .i64 s1,.int .i64 s2,.int .i64 s3,.int .i64 s4]:=by
 obtain ⟨A,ca,hu,hla,hA⟩:=h1
 obtain ⟨B,cb,hv,hlb,hB⟩:=h2
 cases hu
 cases hv
 have key:∀ k,k≤kids.length→∃ f,∀ i (h:i<kids.length),i<k→∃ b off v,A=some ⟨b,off,none⟩∧¬ O b∧w.cell? ⟨b,off+i,none⟩=some v∧
  match kids[i] with
  | none => v=.pointer none
  | some t => ∃ b' off' c,v=.pointer (some ⟨b',off',none⟩) ∧ ¬ O b' ∧ NodeR O w f t c ∧ ∀ j,j<8 → w.cell? ⟨b',off'+j,none⟩=c[j]? := by
  intro k
  induction k with
  | zero => intro _; exact ⟨0,fun i _ h => by omega⟩
  | succ k ih =>
    intro hk
    obtain ⟨f,hf⟩:=ih (by omega)
    obtain ⟨b,off,c,hAb,hb,hR,hc⟩:=hA k (by omega)
    have hc0:=hc 0 (by simp [Kd.sz])
    simp only [Kd.sz,Nat.mul_one,Nat.add_zero] at hc0
    have hnew:∃ g,∃ b off v,A=some ⟨b,off,none⟩∧¬ O b∧w.cell? ⟨b,off+k,none⟩=some v∧
     match kids[k] with
     | none => v=.pointer none
     | some t => ∃ b' off' c,v=.pointer (some ⟨b',off',none⟩) ∧ ¬ O b' ∧ NodeR O w g t c ∧ ∀ j,j<8 → w.cell? ⟨b',off'+j,none⟩=c[j]? := by
     cases e:kids[k] with
     | none =>
       rw [e] at hR
       simp only [Kd.R] at hR
       subst hR
       exact ⟨0,b,off,_,hAb,hb,hc0,rfl⟩
     | some t =>
       rw [e] at hR
       simp only [Kd.R] at hR
       obtain ⟨b',off',c',rfl,hb',⟨g,hg⟩,hc'⟩:=hR
       exact ⟨g,b,off,_,hAb,hb,hc0,b',off',c',rfl,hb',hg,hc'⟩
    obtain ⟨g,hg⟩:=hnew
    refine ⟨max f g,fun i hi hik=>?_⟩
    have lift:∀ (g':Nat),g'≤max f g→(∃ b off v,A=some ⟨b,off,none⟩∧¬ O b∧w.cell? ⟨b,off+i,none⟩=some v∧
     match kids[i] with
     | none => v=.pointer none
     | some t => ∃ b' off' c,v=.pointer (some ⟨b',off',none⟩) ∧ ¬ O b' ∧ NodeR O w g' t c ∧ ∀ j,j<8 → w.cell? ⟨b',off'+j,none⟩=c[j]?) → ∃ b off v,A=some ⟨b,off,none⟩ ∧ ¬ O b ∧ w.cell? ⟨b,off+i,none⟩=some v ∧
     match kids[i] with
     | none => v=.pointer none
     | some t => ∃ b' off' c,v=.pointer (some ⟨b',off',none⟩) ∧ ¬ O b' ∧ NodeR O w (max f g) t c ∧ ∀ j,j<8 → w.cell? ⟨b',off'+j,none⟩=c[j]? := by
     rintro g' hle ⟨b,off,v,e1,e2,e3,hk⟩
     refine ⟨b,off,v,e1,e2,e3,?_⟩
     split at hk
     ·exact hk
     ·obtain ⟨b',off',c,hv,hb',hR,hc'⟩:=hk
      exact ⟨b',off',c,hv,hb',NodeR_le hR hle,hc'⟩
    by_cases hik':i<k
    ·exact lift f (Nat.le_max_left _ _) (hf i hi hik')
    ·obtain rfl:i=k:=by omega
     exact lift g (Nat.le_max_right _ _) hg
 obtain ⟨f,hf⟩:=key kids.length (Nat.le_refl _)
 refine ⟨f+1,A,ca,B,cb,rfl,hla,hlb,fun i hi=>hf i hi hi,fun i hi=>?_⟩
 obtain ⟨b,off,c,hBb,hb,hR,hc⟩:=hB i hi
 have hc0:=hc 0 (by simp [Kd.sz])
 simp only [Kd.R] at hR
 subst hR
 exact ⟨b,off,hBb,hb,by simpa [Kd.sz] using hc0⟩
theorem svs_sound {O:Nat→Prop} {w:World} {σ:Nat→Value}:∀ {k:Kd} {x:k.ty} {cs:List Value},k.R O w x cs→CVs O w σ (k.svs x) cs
 | .int _,_,_,h => by subst h; exact ⟨rfl,trivial⟩
 | .bool,_,_,h => by subst h; exact ⟨rfl,trivial⟩
 | .str,_,_,h => by subst h; exact ⟨rfl,trivial⟩
 | .slice e,xs,cs,h => by
   have h':=h
   obtain ⟨A,cap,rfl,_⟩:=h'
   exact ⟨h,trivial⟩
 | .opt e,none,cs,h => by
   have h':=h
   simp only [Kd.R] at h'
   subst h'
   exact ⟨h,trivial⟩
 | .opt e,some y,cs,h => by
   have h':=h
   simp only [Kd.R] at h'
   obtain ⟨b,off,c,rfl,_⟩:=h'
   exact ⟨h,trivial⟩
 | .pair a b,x,cs,h => by
   obtain ⟨c1,c2,rfl,h1,h2⟩:=h
   exact CVs_append (svs_sound h1) (svs_sound h2)
 | .node,.mk ..,cs,h => by
   obtain ⟨f,h⟩:=h
   obtain ⟨u,v,rfl,h1,h2⟩:=node_parts h
   exact ⟨h1,h2,rfl,rfl,rfl,rfl,rfl,rfl,trivial⟩
def castK (k k':Kd) (x:k.ty):Option k'.ty:=if h:k=k' then some (h▸x) else none
theorem castK_eq {k k':Kd} {x:k.ty} {y:k'.ty} (h:castK k k' x=some y):∃ e:k=k',e▸x=y:=by
 unfold castK at h
 split at h
 ·rename_i e
  exact ⟨e,by simpa using h⟩
 ·cases h
def rdInt (ik:IntKind):List CV→Option (Int×List CV)
 | .val (.int ik' n) :: r => if ik=ik' then some (n,r) else none
 | _ => none
def rdBool:List CV→Option (Bool×List CV)
 | .val (.bool b) :: r => some (b,r)
 | _ => none
def rdStr:List CV→Option (ByteArray×List CV)
 | .val (.string s) :: r => some (s,r)
 | _ => none
def rdSlice (e:Kd):List CV→Option (List e.ty×List CV)
 | .val (.slice none 0 0) :: r => some ([],r)
 | .zc :: r => some ([],r)
 | .imm k x :: r => (castK k (.slice e) x).map fun y => (y,r)
 | _ => none
def rdOpt (e:Kd):List CV→Option (Option e.ty×List CV)
 | .val (.pointer none) :: r => some (none,r)
 | .imm k x :: r => (castK k (.opt e) x).map fun y => (y,r)
 | .ielt k x :: r => (castK k e x).map fun y => (some y,r)
 | _ => none
def rdNode (l:List CV):Option (Tree×List CV):=
 match rdSlice (.opt .node) l with
 | some (kids,r) => match rdSlice .str r with
  | some (items,.val (.int .i64 n) :: .val (.int .i64 d) :: .val (.int .i64 s1) :: .val (.int .i64 s2) :: .val (.int .i64 s3) :: .val (.int .i64 s4) :: r') => some (.mk kids items n d s1 s2 s3 s4,r')
  | _ => none
 | none => none
def Kd.rdl:(k:Kd)→List CV→Option (k.ty×List CV)
 | .int ik,l => rdInt ik l
 | .bool,l => rdBool l
 | .str,l => rdStr l
 | .slice e,l => rdSlice e l
 | .opt e,l => rdOpt e l
 | .node,l => rdNode l
 | .pair a b,l => match a.rdl l with
  | some (x,r) => match b.rdl r with
   | some (y,r') => some ((x,y),r')
   | none => none
  | none => none
theorem CVs_cons_inv {O:Nat→Prop} {w:World} {σ:Nat→Value} {s:CV} {l:List CV} {vs:List Value} (h:CVs O w σ (s :: l) vs):∃ v us,vs=v :: us∧CVr O w σ s v∧CVs O w σ l us:=by
 cases vs with
 | nil => exact h.elim
 | cons v us => exact ⟨v,us,rfl,h.1,h.2⟩
theorem rdSlice_sound {O:Nat→Prop} {w:World} {σ:Nat→Value} {e:Kd} {l:List CV} {x:List e.ty} {r:List CV} {vs:List Value} (h:rdSlice e l=some (x,r)) (hc:CVs O w σ l vs) :
 ∃ v us,vs=v :: us∧(Kd.slice e).R O w x [v]∧CVs O w σ r us:=by
 unfold rdSlice at h
 split at h
 ·cases h
  obtain ⟨v,us,rfl,hv,hu⟩:=CVs_cons_inv hc
  exact ⟨v,us,rfl,by rw [hv]; exact ⟨none,0,rfl,Nat.le_refl _,fun i hi=>absurd hi (by simp)⟩,hu⟩
 ·cases h
  obtain ⟨v,us,rfl,⟨A,hv⟩,hu⟩:=CVs_cons_inv hc
  exact ⟨v,us,rfl,by rw [hv]; exact ⟨A,0,rfl,Nat.le_refl _,fun i hi=>absurd hi (by simp)⟩,hu⟩
 ·simp only [Option.map_eq_some_iff] at h
  obtain ⟨y,hy,e⟩:=h
  cases e
  obtain ⟨rfl,rfl⟩:=castK_eq hy
  obtain ⟨v,us,rfl,hv,hu⟩:=CVs_cons_inv hc
  exact ⟨v,us,rfl,hv,hu⟩
 ·cases h
theorem rdl_sound {O:Nat→Prop} {w:World} {σ:Nat→Value}:∀ {k:Kd} {l:List CV} {x:k.ty} {r:List CV} {vs:List Value},k.rdl l=some (x,r)→CVs O w σ l vs→
 ∃ c1 c2,vs=c1++c2∧k.R O w x c1∧CVs O w σ r c2
 | .int ik,l,x,r,vs,h,hc => by
   simp only [Kd.rdl] at h
   unfold rdInt at h
   split at h
   ·split at h
    ·rename_i e
     cases h
     subst e
     obtain ⟨v,us,rfl,hv,hu⟩:=CVs_cons_inv hc
     exact ⟨[v],us,rfl,by rw [hv]; rfl,hu⟩
    ·cases h
   ·cases h
 | .bool,l,x,r,vs,h,hc => by
   simp only [Kd.rdl] at h
   unfold rdBool at h
   split at h
   ·cases h
    obtain ⟨v,us,rfl,hv,hu⟩:=CVs_cons_inv hc
    exact ⟨[v],us,rfl,by rw [hv]; rfl,hu⟩
   ·cases h
 | .str,l,x,r,vs,h,hc => by
   simp only [Kd.rdl] at h
   unfold rdStr at h
   split at h
   ·cases h
    obtain ⟨v,us,rfl,hv,hu⟩:=CVs_cons_inv hc
    exact ⟨[v],us,rfl,by rw [hv]; rfl,hu⟩
   ·cases h
 | .slice e,l,x,r,vs,h,hc => by
   obtain ⟨v,us,rfl,h1,h2⟩:=rdSlice_sound h hc
   exact ⟨[v],us,rfl,h1,h2⟩
 | .node,l,x,r,vs,h,hc => by
   simp only [Kd.rdl] at h
   unfold rdNode at h
   split at h
   ·rename_i kids r1 h1
    split at h
    ·rename_i items n d s1 s2 s3 s4 r2 h2
     cases h
     obtain ⟨u,us,rfl,hR1,hc1⟩:=rdSlice_sound h1 hc
     obtain ⟨v,us',rfl,hR2,hc2⟩:=rdSlice_sound h2 hc1
     obtain ⟨x1,us1,rfl,rfl,hc3⟩:=CVs_cons_inv hc2
     obtain ⟨x2,us2,rfl,rfl,hc4⟩:=CVs_cons_inv hc3
     obtain ⟨x3,us3,rfl,rfl,hc5⟩:=CVs_cons_inv hc4
     obtain ⟨x4,us4,rfl,rfl,hc6⟩:=CVs_cons_inv hc5
     obtain ⟨x5,us5,rfl,rfl,hc7⟩:=CVs_cons_inv hc6
     obtain ⟨x6,us6,rfl,rfl,hc8⟩:=CVs_cons_inv hc7
     exact ⟨[_,_,_,_,_,_,_,_],us6,rfl,node_mk hR1 hR2,hc8⟩
    ·cases h
   ·cases h
 | .opt e,l,x,r,vs,h,hc => by
   simp only [Kd.rdl] at h
   unfold rdOpt at h
   split at h
   ·cases h
    obtain ⟨v,us,rfl,hv,hu⟩:=CVs_cons_inv hc
    exact ⟨[v],us,rfl,by rw [hv]; rfl,hu⟩
   ·simp only [Option.map_eq_some_iff] at h
    obtain ⟨y,hy,e⟩:=h
    cases e
    obtain ⟨rfl,rfl⟩:=castK_eq hy
    obtain ⟨v,us,rfl,hv,hu⟩:=CVs_cons_inv hc
    exact ⟨[v],us,rfl,hv,hu⟩
   ·simp only [Option.map_eq_some_iff] at h
    obtain ⟨y,hy,e⟩:=h
    cases e
    obtain ⟨rfl,rfl⟩:=castK_eq hy
    obtain ⟨v,us,rfl,hv,hu⟩:=CVs_cons_inv hc
    obtain ⟨b,off,c,rfl,hb,hR,hcell⟩:=hv
    exact ⟨[_],us,rfl,⟨b,off,c,rfl,hb,hR,hcell⟩,hu⟩
   ·cases h
 | .pair a b,l,x,r,vs,h,hc => by
   simp only [Kd.rdl] at h
   split at h
   ·rename_i x1 r1 h1
    split at h
    ·rename_i x2 r2 h2
     cases h
     obtain ⟨c1,c2,rfl,hR1,hc2⟩:=rdl_sound h1 hc
     obtain ⟨c3,c4,rfl,hR2,hc4⟩:=rdl_sound h2 hc2
     exact ⟨c1++c3,c4,by simp,⟨c1,c3,rfl,hR1,hR2⟩,hc4⟩
    ·cases h
   ·cases h
def Kd.rd (k:Kd) (l:List CV):Option k.ty:=
 match k.rdl l with
 | some (x,[]) => some x
 | _ => none
theorem rd_sound {O:Nat→Prop} {w:World} {σ:Nat→Value} {k:Kd} {l:List CV} {x:k.ty} {vs:List Value} (h:k.rd l=some x) (hc:CVs O w σ l vs):k.R O w x vs:=by
 unfold Kd.rd at h
 split at h
 ·rename_i y hr
  cases h
  obtain ⟨c1,c2,rfl,hR,h2⟩:=rdl_sound hr hc
  cases c2 with
  | nil => simpa using hR
  | cons _ _ => exact h2.elim
 ·cases h
def CV.one:CV→Bool
 | .val v => v.oneCell'
 | _ => true
theorem R_one {O:Nat→Prop} {w:World}:∀ {k:Kd} {x:k.ty} {cs:List Value},k.R O w x cs→∀ v∈cs,v.oneCell'=true
 | .int _,_,_,h => by subst h; simp [Value.oneCell']
 | .bool,_,_,h => by subst h; simp [Value.oneCell']
 | .str,_,_,h => by subst h; simp [Value.oneCell']
 | .slice _,_,_,h => by obtain ⟨_,_,rfl,_⟩ := h; simp [Value.oneCell']
 | .opt _,none,_,h => by simp only [Kd.R] at h; subst h; simp [Value.oneCell']
 | .opt _,some _,_,h => by simp only [Kd.R] at h; obtain ⟨_,_,_,rfl,_⟩ := h; simp [Value.oneCell']
 | .pair _ _,_,_,h => by
   obtain ⟨c1,c2,rfl,h1,h2⟩:=h
   intro v hv
   rcases List.mem_append.1 hv with hv | hv
   ·exact R_one h1 v hv
   ·exact R_one h2 v hv
 | .node,.mk ..,_,h => by
   obtain ⟨f,h⟩:=h
   cases f with
   | zero => exact h.elim
   | succ f => obtain ⟨_,_,_,_,rfl,_⟩ := h; simp [Value.oneCell']
theorem ent_one {O:Nat→Prop} {w:World} {σ:Nat→Value} {n:Nat}:∀ {e:Ent},EntR O w σ n e→(hd (σ n)).oneCell'=true
 | .box _,h => by obtain ⟨_,_,_,hs,_⟩ := h; rw [hs.hd]; rfl
 | .row _ _,h => by obtain ⟨_,_,hs,_⟩ := h; rw [hs]; rfl
 | .it _ _ _,h => by obtain ⟨_,hs,_⟩ := h; rw [hs]; rfl
 | .map _,h => by obtain ⟨_,hs,_⟩ := h; rw [hs]; rfl
 | .lit _,h => by obtain ⟨_,_,_,hs,_⟩ := h; rw [hs]; rfl
 | .sets _ _,h => by obtain ⟨_,_,_,hs,_⟩ := h; rw [hs]; rfl
 | .arow _ _,h => by obtain ⟨_,_,_,hs,_⟩ := h; rw [hs]; rfl
 | .aown _,h => by obtain ⟨_,_,_,hs,_⟩ := h; rw [hs]; rfl
 | .apend _ _ _,h => by obtain ⟨⟨_,_,_,hs,_⟩,_⟩ := h; rw [hs]; rfl
 | .brow _ _,h => by obtain ⟨⟨_,_,hs,_⟩,_⟩ := h; rw [hs]; rfl
 | .mit _ _,h => by obtain ⟨_,_,_,_,_,hs,_⟩ := h; rw [hs]; rfl
 | .abox _ _ _ _,h => by obtain ⟨_,_,_,_,hs,_⟩ := h; rw [hs.hd]; rfl
end Go.Pal
namespace Go.Pal
open Go
section
variable {P:Program}
theorem hd_ptr {v:Value} {p:Option Addr} (h:v=.pointer p):hd v=.pointer p:=by rw [h]; rfl
theorem hd_sl {v:Value} {A:Option Addr} {l c:Nat} (h:v=.slice A l c):hd v=.slice A l c:=by rw [h]; rfl
theorem hd_row {O:Nat→Prop} {w:World} {k:Kd} {xs:List k.ty} {v:Value} (h:RowR O w k xs v):hd v=v:=by obtain ⟨_,_,rfl,_⟩:=h; rfl
theorem row_h {O:Nat→Prop} {w:World} {k:Kd} {xs:List k.ty} {v:Value} (h:RowR O w k xs v):RowR O w k xs (hd v):=by rw [hd_row h]; exact h
theorem CVr_sl {O:Nat→Prop} {w:World} {σ:Nat→Value} {n:Nat} {A:Option Addr} {l c:Nat}:CVr O w (upd σ n (.slice A l c)) (.h n) (.slice A l c):=by simp [CVr,upd_same,hd]
theorem CVr_pt {O:Nat→Prop} {w:World} {σ:Nat→Value} {n:Nat} {p:Option Addr}:CVr O w (upd σ n (.pointer p)) (.h n) (.pointer p):=by simp [CVr,upd_same,hd]
def aggB (P:Program) (t:TypeId):Option Bool:=
 match P.underlying t with
 | some (.struct _) | some (.array _ _) => some true
 | some _ => some false
 | none => none
def szof (P:Program) (t:TypeId):Option Nat:=(P.info? t).map (·.size)
theorem run_aggB {t:TypeId} {b:Bool} (h:aggB P t=some b) (w:World):(isAgg t).run P w=.ok b w:=by
 unfold aggB at h
 unfold isAgg
 split at h
 ·rename_i fs hu; cases h; simp [run_underlying hu]
 ·rename_i n e hu; cases h; simp [run_underlying hu]
 ·rename_i d h1 h2 hu
  cases h
  rw [Sem.run_bind,run_underlying hu w]
  cases d <;> first
   | rfl
   | (exact (h1 _ rfl).elim)
   | (exact (h2 _ _ rfl).elim)
 ·cases h
theorem run_szof {t:TypeId} {n:Nat} (h:szof P t=some n) (w:World):(sizeOf t).run P w=.ok n w:=by
 unfold szof at h
 cases hq:P.info? t with
 | none => simp [hq] at h
 | some i => simp [hq] at h; simp [sizeOf,typeInfo,hq,h]
def cellsAt (H:Heap) (p:CV) (n:Nat):Option (List CV):=
 match p with
 | .h m => match look H m with
  | some (.box cs) => if n ≤ cs.length then some (cs.take n) else none
  | _ => none
 | .cell m o => match look H m with
  | some (.box cs) => if o+n ≤ cs.length then some ((cs.drop o).take n) else none
  | _ => none
 | .elt m sz i o => match look H m with
  | some (.row k xs) => if sz=k.sz ∧ o+n ≤ k.sz then some (((k.svs (xs.getD i k.dflt)).drop o).take n) else none
  | _ => none
 | .ielt k x => if n ≤ k.sz then some ((k.svs x).take n) else none
 | _ => none
theorem box_cells {O:Nat→Prop} {w:World} {σ:Nat→Value} {m:Nat} {cs:List CV} (h:EntR O w σ m (.box cs)) {o n:Nat} (hn:o+n≤cs.length) :
 ∃ b vs,hd (σ m)=.pointer (some ⟨b,0,none⟩)∧CVs O w σ ((cs.drop o).take n) vs∧vs.length=n∧∀ j,j<n→w.cell? ⟨b,o+j,none⟩=vs[j]?:=by
 obtain ⟨b,c,e,hs,hh,hc⟩:=h
 refine ⟨b,(c.toList.drop o).take n,hs.hd,CVs_take (CVs_drop hc),?_,fun j hj=>?_⟩
 ·have:=CVs_len hc
  simp only [List.length_take,List.length_drop]
  omega
 ·rw [cell_of_row w b (o+j) c e (0,0) hh,List.getElem?_take,if_pos hj,List.getElem?_drop]
  simp
theorem row_elt {O:Nat→Prop} {w:World} {k:Kd} {xs:List k.ty} {v:Value} (h:RowR O w k xs v) {b off len cap:Nat} (hv:v=.slice (some ⟨b,off,none⟩) len cap) {i:Nat} (hi:i<len) :
 ∃ c e cs,∃ hx:i<xs.length,w.heap[b]? = some (.cells c e (0,0))∧off+cap * k.sz≤c.size∧xs.length≤cap∧len=xs.length∧k.R O w (xs[i]'hx) cs∧∀ j,j<k.sz→c[off+i * k.sz+j]? = cs[j]?:=by
 obtain ⟨A,cap',e',h⟩:=h
 rw [hv] at e'
 injection e' with e1 e2 e3
 rcases h with ⟨rfl,rfl⟩ | ⟨hp,hl,b',off',c,e,rfl,hh,hs,hr⟩
 ·simp at e2; omega
 ·injection e1 with e1
  injection e1 with e4 e5 _
  subst e4 e5 e3
  obtain ⟨cs,hR,hc⟩:=hr i (by omega)
  exact ⟨c,e,cs,by omega,hh,hs,hl,e2,hR,hc⟩
theorem cellsAt_sound {C:FC} {σ:Nat→Value} {H:Heap} {w:World} (h:SatW C σ H w) {p:CV} {v:Value} {n:Nat} {l:List CV} (hp:CVr (Ow C.G H σ) w σ p v) (hc:cellsAt H p n=some l) :
 ∃ b off vs,v=.pointer (some ⟨b,off,none⟩)∧CVs (Ow C.G H σ) w σ l vs∧vs.length=n∧∀ j,j<n→w.cell? ⟨b,off+j,none⟩=vs[j]?:=by
 unfold cellsAt at hc
 split at hc
 ·rename_i m
  split at hc
  ·rename_i cs hl
   split at hc
   ·rename_i hn
    cases hc
    obtain ⟨b,vs,hs,hcv,hlen,hcell⟩:=box_cells (h.ent _ (look_mem hl)) (o:=0) (n:=n) (by omega)
    simp only [CVr] at hp
    exact ⟨b,0,vs,hp.trans hs,by simpa using hcv,hlen,by simpa using hcell⟩
   ·cases hc
  ·cases hc
 ·rename_i m o
  split at hc
  ·rename_i cs hl
   split at hc
   ·rename_i hn
    cases hc
    obtain ⟨b,vs,hs,hcv,hlen,hcell⟩:=box_cells (h.ent _ (look_mem hl)) (o:=o) (n:=n) (by omega)
    simp only [CVr] at hp
    obtain ⟨b',hs',rfl⟩:=hp
    have hs2:hd (σ m)=.pointer (some ⟨b,0,none⟩):=hs
    rw [hs2] at hs'
    injection hs' with hs'
    injection hs' with hs'
    injection hs' with hs' _ _
    subst hs'
    exact ⟨b,o,vs,rfl,hcv,hlen,hcell⟩
   ·cases hc
  ·cases hc
 ·rename_i m sz i o
  split at hc
  ·rename_i k xs hl
   split at hc
   ·rename_i hn
    obtain ⟨rfl,hn⟩:=hn
    cases hc
    simp only [CVr] at hp
    obtain ⟨b,off,len,cap,hs,hi,rfl⟩:=hp
    obtain ⟨c,e,cs,hx,hh,_,_,_,hR,hcell⟩:=row_elt (h.ent _ (look_mem hl)) ((hd_row (h.ent _ (look_mem hl))).symm.trans hs) hi
    refine ⟨b,off+i * k.sz+o,(cs.drop o).take n,rfl,?_,?_,fun j hj=>?_⟩
    ·have e1:xs.getD i k.dflt=xs[i]:=by simp [List.getD,List.getElem?_eq_getElem hx]
     rw [e1]
     exact CVs_take (CVs_drop (svs_sound hR))
    ·have:=R_len hR
     simp only [List.length_take,List.length_drop]
     omega
    ·rw [cell_of_row w b _ c e (0,0) hh,List.getElem?_take,if_pos hj,List.getElem?_drop,← hcell (o+j) (by omega)]
     congr 1
     omega
   ·cases hc
  ·cases hc
 ·rename_i k x
  split at hc
  ·rename_i hn
   cases hc
   simp only [CVr] at hp
   obtain ⟨b,off,c,rfl,hb,hR,hcell⟩:=hp
   refine ⟨b,off,c.take n,rfl,CVs_take (svs_sound hR),?_,fun j hj=>?_⟩
   ·have:=R_len hR
    simp only [List.length_take]
    omega
   ·rw [hcell j (by omega),List.getElem?_take,if_pos hj]
  ·cases hc
 ·cases hc
def stLoad (P:Program) (H:Heap) (t:TypeId) (p:CV):Option SV:=
 match aggB P t,szof P t with
 | some true,some n => (cellsAt H p n).map SV.agg
 | some false,_ => match cellsAt H p 1 with
  | some [x] => some (.c x)
  | _ => none
 | _,_ => none
theorem run_loadVar {C:FC} {σ:Nat→Value} {H:Heap} {w:World} (h:SatW C σ H w) {t:TypeId} {p:CV} {v:Value} {sv:SV} (hp:CVr (Ow C.G H σ) w σ p v) (hs:stLoad P H t p=some sv) :
 ∃ b off u,v=.pointer (some ⟨b,off,none⟩)∧(loadVar t ⟨b,off,none⟩).run P w=.ok u w∧SVr (Ow C.G H σ) w σ sv u:=by
 unfold stLoad at hs
 split at hs
 ·rename_i n ha hz
  simp only [Option.map_eq_some_iff] at hs
  obtain ⟨l,hl,rfl⟩:=hs
  obtain ⟨b,off,vs,rfl,hcv,hlen,hcell⟩:=cellsAt_sound h hp hl
  refine ⟨b,off,.agg vs.toArray,rfl,?_,⟨vs,rfl,hcv⟩⟩
  have hload:=run_loadCells_list (P:=P) w ⟨b,off,none⟩ vs (fun j u hu=>by
   have hj:j<vs.length:=by
    rcases Nat.lt_or_ge j vs.length with h' | h'
    ·exact h'
    ·rw [List.getElem?_eq_none h'] at hu; cases hu
   rw [Addr.add_lit,hcell j (by omega),hu])
  rw [hlen] at hload
  simp [loadVar,run_aggB ha,run_szof hz,hload]
 ·rename_i ha
  split at hs
  ·rename_i x hl
   cases hs
   obtain ⟨b,off,vs,rfl,hcv,hlen,hcell⟩:=cellsAt_sound h hp hl
   obtain ⟨u,us,rfl,hu,hus⟩:=CVs_cons_inv hcv
   refine ⟨b,off,u,rfl,?_,hu⟩
   have h0:=hcell 0 (by omega)
   simp at h0
   simp [loadVar,run_aggB ha,h0]
  ·cases hs
 ·cases hs
def CV.oneIn (H:Heap):CV→Bool
 | .val v => v.oneCell'
 | .h n => (look H n).isSome
 | .elm _ _ => false
 | _ => true
theorem oneIn_sound {C:FC} {σ:Nat→Value} {H:Heap} {w:World} (h:SatW C σ H w):∀ {s:CV} {v:Value},s.oneIn H=true→CVr (Ow C.G H σ) w σ s v→v.oneCell'=true
 | .val _,_,ho,hv => by cases hv; exact ho
 | .imm _ _,_,_,hv => R_one hv _ (by simp)
 | .h n,_,ho,hv => by
   simp only [CV.oneIn] at ho
   cases hl:look H n with
   | none => rw [hl] at ho; cases ho
   | some e => cases hv; exact ent_one (h.ent _ (look_mem hl))
 | .cell _ _,_,_,hv => by obtain ⟨_,_,rfl⟩ := hv; rfl
 | .elt _ _ _ _,_,_,hv => by obtain ⟨_,_,_,_,_,_,rfl⟩ := hv; rfl
 | .ielt _ _,_,_,hv => by obtain ⟨_,_,_,rfl,_⟩ := hv; rfl
 | .sub _ _ _ _,_,_,hv => by obtain ⟨_,_,_,_,_,_,rfl,_⟩ := hv; rfl
 | .clo _ _,_,_,hv => by cases hv; rfl
 | .zc,_,_,hv => by obtain ⟨_,rfl⟩ := hv; rfl
 | .slf _ _,_,_,hv => by obtain ⟨_,_,rfl | rfl⟩ := hv <;> rfl
 | .elm _ _,_,ho,_ => by cases ho
theorem CVs_one {C:FC} {σ:Nat→Value} {H:Heap} {w:World} (h:SatW C σ H w):∀ {l:List CV} {vs:List Value},l.all (CV.oneIn H)=true→CVs (Ow C.G H σ) w σ l vs→∀ v∈vs,v.oneCell'=true
 | [],[],_,_ => by simp
 | s :: l,u :: us,ho,hv => by
   simp only [List.all_cons,Bool.and_eq_true] at ho
   intro v hm
   rcases List.mem_cons.1 hm with rfl | hm
   ·exact oneIn_sound h ho.1 hv.1
   ·exact CVs_one h ho.2 hv.2 v hm
 | [],_ :: _,_,h => h.elim
 | _ :: _,[],_,h => h.elim
def putCells (H:Heap) (p:CV) (l:List CV):Option Heap:=
 match p with
 | .h m => match look H m with
  | some (.box cs) => if l.length ≤ cs.length then some ((m,.box (l ++ cs.drop l.length)) :: eraseH H m) else none
  | _ => none
 | .cell m o => match look H m with
  | some (.box cs) => if o+l.length ≤ cs.length then some ((m,.box (cs.take o ++ (l ++ cs.drop (o+l.length)))) :: eraseH H m) else none
  | _ => none
 | .elt m sz i o => match look H m with
  | some (.row k xs) => if sz=k.sz ∧ o+l.length ≤ k.sz then
   match k.rd ((k.svs (xs.getD i k.dflt)).take o++(l++(k.svs (xs.getD i k.dflt)).drop (o+l.length))) with
   | some y => some ((m,.row k (xs.set i y)) :: eraseH H m)
   | none => none
   else none
  | _ => none
 | _ => none
theorem step_write {C:FC} {σ:Nat→Value} {H:Heap} {w:World} {Γ:Env} {a:Act} (h:SatW C σ H w) (hE:EnvR C σ H w Γ a) {m b:Nat} {e e':Ent} (hm:look H m=some e) (hb:Bk (σ m) b)
 {c':Array Value} (hent:EntR (Ow C.G H σ) (w.setRow b c') σ m e') :
 SatW C σ ((m,e') :: eraseH H m) (w.setRow b c')∧EnvP C σ σ H ((m,e') :: eraseH H m) w (w.setRow b c') Γ a∧
 (∀ q,Ow C.G ((m,e') :: eraseH H m) σ q↔Ow C.G H σ q):=by
 have hin:=look_mem hm
 have hmem:∀ e2,(m,e2)∈H→e2=e:=fun e2 h2=>by
  have:=mem_look h.nd h2
  rw [hm] at this
  cases this
  rfl
 have how:∀ q,Ow C.G ((m,e') :: eraseH H m) σ q↔Ow C.G H σ q:=by
  intro q
  constructor
  ·rintro (hg | ⟨p,hp,hq⟩)
   ·exact .inl hg
   ·rcases List.mem_cons.1 hp with rfl | hp
    ·exact .inr ⟨(m,e),hin,hq⟩
    ·exact .inr ⟨p,(mem_eraseH.1 hp).1,hq⟩
  ·rintro (hg | ⟨p,hp,hq⟩)
   ·exact .inl hg
   ·by_cases hpm:p.1=m
    ·exact .inr ⟨(m,e'),List.mem_cons_self,by simpa [hpm] using hq⟩
    ·exact .inr ⟨p,List.mem_cons_of_mem _ (mem_eraseH.2 ⟨hp,hpm⟩),hq⟩
 have hent':EntR (Ow C.G ((m,e') :: eraseH H m) (upd σ m (σ m))) (w.setRow b c') (upd σ m (σ m)) m e':=by
  rw [upd_self,show Ow C.G ((m,e') :: eraseH H m) σ=Ow C.G H σ from funext fun q=>propext (how q)]
  exact hent
 have hs:(w.setRow b c').heap.size=w.heap.size:=by simp [World.setRow]
 have hst:=step1 (w':=w.setRow b c') h m m e' (σ m) (fun _ _=>.inl rfl) (fun p hp=>(mem_eraseH.1 hp).2)
  (fun q _ hq=>setRow_other w b q c' (fun e1=>hq e hin (by rw [e1]; exact hb))) (by omega) rfl rfl rfl (fun q hq=>.inl ⟨hq,e,hin⟩) hent'
 rw [upd_self] at hst
 exact ⟨hst.1,⟨hE.step hst.2.1 hst.2.2 (fun _ _ _ _ _=>rfl),hst.2.1,hst.2.2⟩,how⟩
theorem same_setRow {O:Nat→Prop} {w:World} {b:Nat} {c':Array Value} (hb:O b):SameOff O w (w.setRow b c'):=fun q _ hq=>setRow_other w b q c' (fun e=>hq (e▸hb))
theorem splice_get {α:Type} (l v:List α) (o j:Nat) (ho:o≤l.length) :
 (l.take o++(v++l.drop (o+v.length)))[j]? = if j<o then l[j]? else if j<o+v.length then v[j - o]? else l[j]?:=by
 by_cases h1:j<o
 ·rw [if_pos h1,List.getElem?_append_left (by simp; omega),List.getElem?_take,if_pos h1]
 ·rw [if_neg h1,List.getElem?_append_right (by simp; omega)]
  simp only [List.length_take,Nat.min_eq_left ho]
  by_cases h2:j<o+v.length
  ·rw [if_pos h2,List.getElem?_append_left (by omega)]
  ·rw [if_neg h2,List.getElem?_append_right (by omega),List.getElem?_drop]
   congr 1
   omega
theorem box_write {C:FC} {σ:Nat→Value} {H:Heap} {w:World} {Γ:Env} {a:Act} (h:SatW C σ H w) (hE:EnvR C σ H w Γ a) {m o:Nat} {cs l:List CV} (hm:look H m=some (.box cs))
 (hn:o+l.length≤cs.length) {vs:List Value} (hl:CVs (Ow C.G H σ) w σ l vs) (h1:∀ v∈vs,v.oneCell'=true) :
 ∃ b w',hd (σ m)=.pointer (some ⟨b,0,none⟩)∧(storeCells ⟨b,o,none⟩ vs).run P w=.ok () w'∧
   SatW C σ ((m,.box (cs.take o++(l++cs.drop (o+l.length)))) :: eraseH H m) w'∧EnvP C σ σ H ((m,.box (cs.take o++(l++cs.drop (o+l.length)))) :: eraseH H m) w w' Γ a:=by
 obtain ⟨b,c,e,hs,hh,hc⟩:=h.ent _ (look_mem hm)
 have hlc:=CVs_len hc
 have hll:=CVs_len hl
 have hst:=run_storeCells_at P b o e vs 0 c w hh (by simp at hlc; omega) h1
 simp only [Nat.add_zero] at hst
 have hs':BoxAt (σ m) b e:=hs
 have hO:Ow C.G H σ b:=.inr ⟨_,look_mem hm,hs'.own⟩
 have:=step_write h hE hm (b:=b) hs'.own (e':=.box (cs.take o++(l++cs.drop (o+l.length)))) (c':=(c.toList.take o++vs++c.toList.drop (o+vs.length)).toArray)
  ⟨b,_,e,hs',setRow_heap w b c _ e _ hh,by
   simp only [List.append_assoc]
   refine CVs_mono (same_setRow hO) (fun _ _ h=>h) (CVs_append (CVs_take hc) (CVs_append hl ?_))
   rw [hll]
   exact CVs_drop hc⟩
 exact ⟨b,_,hs'.hd,hst,this.1,this.2.1⟩
theorem row_write {C:FC} {σ:Nat→Value} {H:Heap} {w:World} {Γ:Env} {a:Act} (h:SatW C σ H w) (hE:EnvR C σ H w Γ a) {m i o:Nat} {k:Kd} {xs:List k.ty} {l:List CV} (hm:look H m=some (.row k xs))
 (hn:o+l.length≤k.sz) {y:k.ty} (hy:k.rd ((k.svs (xs.getD i k.dflt)).take o++(l++(k.svs (xs.getD i k.dflt)).drop (o+l.length)))=some y)
 {b off len cap:Nat} (hv:σ m=.slice (some ⟨b,off,none⟩) len cap) (hi:i<len) {vs:List Value} (hl:CVs (Ow C.G H σ) w σ l vs) (h1:∀ v∈vs,v.oneCell'=true) :
 ∃ w',(storeCells ⟨b,off+i * k.sz+o,none⟩ vs).run P w=.ok () w'∧
   SatW C σ ((m,.row k (xs.set i y)) :: eraseH H m) w'∧EnvP C σ σ H ((m,.row k (xs.set i y)) :: eraseH H m) w w' Γ a:=by
 have hent:RowR (Ow C.G H σ) w k xs (σ m):=h.ent _ (look_mem hm)
 obtain ⟨c,e,cs,hx,hh,hsz,hcapl,hlen,hR,hcell⟩:=row_elt hent hv hi
 have hll:=CVs_len hl
 have hRl:=R_len hR
 have hmul:(i+1) * k.sz≤cap * k.sz:=Nat.mul_le_mul_right _ (by omega)
 rw [Nat.add_mul,Nat.one_mul] at hmul
 have hst:=run_storeCells_at P b (off+i * k.sz+o) e vs 0 c w hh (by omega) h1
 simp only [Nat.add_zero] at hst
 have hblk:Bk (σ m) b:=by rw [hv]; simp only [Bk,blk]; rw [if_neg (by omega)]
 have hO:Ow C.G H σ b:=.inr ⟨_,look_mem hm,hblk⟩
 have e1:xs.getD i k.dflt=xs[i]:=by simp [List.getD,List.getElem?_eq_getElem hx]
 rw [e1] at hy
 have hsv:=svs_sound (σ:=σ) hR
 have hRy:k.R (Ow C.G H σ) w y (cs.take o++(vs++cs.drop (o+l.length))):=rd_sound hy (CVs_append (CVs_take hsv) (CVs_append hl (CVs_drop hsv)))
 refine ⟨_,hst,?_⟩
 have hsto:=same_setRow (w:=w) (c':=(c.toList.take (off+i * k.sz+o)++vs++c.toList.drop (off+i * k.sz+o+vs.length)).toArray) hO
 have hnew:EntR (Ow C.G H σ) (w.setRow b (c.toList.take (off+i * k.sz+o)++vs++c.toList.drop (off+i * k.sz+o+vs.length)).toArray) σ m (.row k (xs.set i y)):=by
  obtain ⟨A,cap',hv',hr⟩:=hent
  rw [hv] at hv'
  injection hv' with hA hle hcp
  subst hcp
  rcases hr with ⟨rfl,rfl⟩ | ⟨hp,hl',b',off',c',e',rfl,hh',hs',hr⟩
  ·simp at hle; omega
  ·injection hA with hA
   injection hA with e4 e5 _
   subst e4 e5
   rw [hh] at hh'
   injection hh' with hh'
   injection hh' with hc' he' _
   subst hc' he'
   refine ⟨_,cap,by rw [hv,hle]; simp,.inr ⟨hp,by simpa using hl',b,off,_,e,rfl,setRow_heap w b c _ e _ hh,?_,?_⟩⟩
   ·simp only [List.size_toArray,List.length_append,List.length_take,List.length_drop,Array.length_toList]
    omega
   ·intro i2 hi2
    simp only [List.length_set] at hi2
    by_cases he:i2=i
    ·subst he
     refine ⟨_,R_mono hsto (fun _ _ h=>h) (by simpa using hRy),fun j hj=>?_⟩
     have hcj:=hcell j hj
     rw [List.getElem?_toArray,List.append_assoc,splice_get _ _ _ _ (by simp; omega)]
     rw [hll,splice_get _ _ _ _ (by omega)]
     by_cases hj1:j<o
     ·rw [if_pos (by omega),if_pos hj1,← hcj]
      simp
     ·rw [if_neg (by omega),if_neg hj1]
      by_cases hj2:j<o+vs.length
      ·rw [if_pos (by omega),if_pos hj2]
       congr 1
       omega
      ·rw [if_neg (by omega),if_neg hj2,← hcj]
       simp
    ·obtain ⟨cs2,hR2,hcell2⟩:=hr i2 hi2
     refine ⟨cs2,R_mono hsto (fun _ _ h=>h) (by simpa [Ne.symm he] using hR2),fun j hj=>?_⟩
     rw [← hcell2 j hj]
     rw [List.getElem?_toArray,List.append_assoc,splice_get _ _ _ _ (by simp; omega)]
     rcases Nat.lt_or_gt_of_ne he with hlt | hgt
     ·have hm2:(i2+1) * k.sz≤i * k.sz:=Nat.mul_le_mul_right _ (by omega)
      rw [Nat.add_mul,Nat.one_mul] at hm2
      rw [if_pos (by omega)]
      simp
     ·have hm2:(i+1) * k.sz≤i2 * k.sz:=Nat.mul_le_mul_right _ (by omega)
      rw [Nat.add_mul,Nat.one_mul] at hm2
      rw [if_neg (by omega),if_neg (by omega)]
      simp
 have:=step_write h hE hm hblk hnew
 exact ⟨this.1,this.2.1⟩
theorem run_putCells {C:FC} {σ:Nat→Value} {H H':Heap} {w:World} {Γ:Env} {a:Act} (h:SatW C σ H w) (hE:EnvR C σ H w Γ a) {p:CV} {v:Value} {l:List CV} {vs:List Value}
 (hp:CVr (Ow C.G H σ) w σ p v) (hl:CVs (Ow C.G H σ) w σ l vs) (h1:∀ v∈vs,v.oneCell'=true) (hput:putCells H p l=some H') :
 ∃ b off w',v=.pointer (some ⟨b,off,none⟩)∧(storeCells ⟨b,off,none⟩ vs).run P w=.ok () w'∧SatW C σ H' w'∧EnvP C σ σ H H' w w' Γ a:=by
 unfold putCells at hput
 split at hput
 ·rename_i m
  split at hput
  ·rename_i cs hm
   split at hput
   ·rename_i hn
    cases hput
    obtain ⟨b,w',hs,hst,h1',h2'⟩:=box_write (P:=P) h hE hm (o:=0) (by omega) hl h1
    simp only [CVr] at hp
    refine ⟨b,0,w',hp.trans (hs),hst,?_,?_⟩
    ·simpa using h1'
    ·simpa using h2'
   ·cases hput
  ·cases hput
 ·rename_i m o
  split at hput
  ·rename_i cs hm
   split at hput
   ·rename_i hn
    cases hput
    obtain ⟨b,w',hs,hst,h1',h2'⟩:=box_write (P:=P) h hE hm (o:=o) hn hl h1
    simp only [CVr] at hp
    obtain ⟨b',hs',rfl⟩:=hp
    rw [hs] at hs'
    injection hs' with hs'
    injection hs' with hs'
    injection hs' with hs' _ _
    subst hs'
    exact ⟨b,o,w',rfl,hst,h1',h2'⟩
   ·cases hput
  ·cases hput
 ·rename_i m sz i o
  split at hput
  ·rename_i k xs hm
   split at hput
   ·rename_i hn
    obtain ⟨rfl,hn⟩:=hn
    split at hput
    ·rename_i y hy
     cases hput
     simp only [CVr] at hp
     obtain ⟨b,off,len,cap,hs,hi,rfl⟩:=hp
     obtain ⟨w',hst,h1',h2'⟩:=row_write (P:=P) h hE hm hn hy ((hd_row (h.ent _ (look_mem hm))).symm.trans hs) hi hl h1
     exact ⟨b,_,w',rfl,hst,h1',h2'⟩
    ·cases hput
   ·cases hput
  ·cases hput
 ·cases hput
def stStore (P:Program) (H:Heap) (t:TypeId) (p:CV) (x:SV):Option Heap:=
 match x.cells,szof P t with
 | some l,some n => if l.length=n ∧ l.all (CV.oneIn H) then putCells H p l else none
 | _,_ => none
theorem one_cells {v:Value} (h:v.oneCell'=true):v.cells = #[v]:=by
 cases v <;> first | rfl | (simp [Value.oneCell'] at h)
theorem run_storeVar {C:FC} {σ:Nat→Value} {H H':Heap} {w:World} {Γ:Env} {a:Act} (h:SatW C σ H w) (hE:EnvR C σ H w Γ a) {t:TypeId} {p:CV} {v u:Value} {x:SV}
 (hp:CVr (Ow C.G H σ) w σ p v) (hx:SVr (Ow C.G H σ) w σ x u) (hst:stStore P H t p x=some H') :
 ∃ b off w',v=.pointer (some ⟨b,off,none⟩)∧(storeVar t ⟨b,off,none⟩ u).run P w=.ok () w'∧SatW C σ H' w'∧EnvP C σ σ H H' w w' Γ a:=by
 unfold stStore at hst
 split at hst
 ·rename_i l n hl hz
  split at hst
  ·rename_i hn
   obtain ⟨hn,ho⟩:=hn
   have key:∃ vs,u.cells=vs.toArray∧CVs (Ow C.G H σ) w σ l vs:=by
    rcases SV_cells hl hx with ⟨vs,rfl,hvs⟩ | ⟨y,rfl,hy⟩
    ·exact ⟨vs,rfl,hvs⟩
    ·refine ⟨[u],?_,hy,trivial⟩
     simp only [List.all_cons,List.all_nil,Bool.and_true] at ho
     exact one_cells (oneIn_sound h ho hy)
   obtain ⟨vs,hc,hvs⟩:=key
   obtain ⟨b,off,w',rfl,hrun,h1,h2⟩:=run_putCells (P:=P) h hE hp hvs (CVs_one h ho hvs) hst
   refine ⟨b,off,w',rfl,?_,h1,h2⟩
   have:=CVs_len hvs
   simp [storeVar,hc,run_szof hz,hrun,← hn,this]
  ·cases hst
 ·cases hst
theorem alloc_box {C:FC} {σ:Nat→Value} {H:Heap} {w:World} {Γ:Env} {a:Act} (h:SatW C σ H w) (hE:EnvR C σ H w Γ a) {m:Nat} (hf:free m Γ H=true) {l:List CV} {vs:List Value}
 (hl:CVs (Ow C.G H σ) w σ l vs) (hlf:l.any (CV.has m)=false) (t:TypeId) :
 SatW C (upd σ m (.pointer (some ⟨w.heap.size,0,none⟩))) ((m,.box l) :: H) (w.alloc (.cells vs.toArray t))∧
 EnvP C σ (upd σ m (.pointer (some ⟨w.heap.size,0,none⟩))) H ((m,.box l) :: H) w (w.alloc (.cells vs.toArray t)) Γ a:=by
 have hw:∀ b,b<w.heap.size→(w.alloc (.cells vs.toArray t)).heap[b]? = w.heap[b]?:=fun b hb=>alc_old w _ b hb
 have hnames:∀ n,l.any (CV.has n)=true→upd σ m (.pointer (some ⟨w.heap.size,0,none⟩)) n=σ n:=fun n hn=>upd_ne (fun e=>by subst e; rw [hlf] at hn; cases hn)
 have hanti:∀ b,b<w.heap.size→¬ Ow C.G H σ b→¬ Ow C.G ((m,.box l) :: H) (upd σ m (.pointer (some ⟨w.heap.size,0,none⟩))) b:=by
  intro b hb ho ho'
  rcases ho' with hg | ⟨p,hp,hbp⟩
  ·exact ho (.inl hg)
  ·rcases List.mem_cons.1 hp with rfl | hp
   ·rw [upd_same] at hbp; simp [Bk,blk] at hbp; omega
   ·rw [upd_ne (free_heap hf p hp).1] at hbp
    exact ho (.inr ⟨p,hp,hbp⟩)
 have hst:=step1 (w':=w.alloc (.cells vs.toArray t)) h m m (.box l) (.pointer (some ⟨w.heap.size,0,none⟩)) (fun _ _=>.inr (fun p hp=>(free_heap hf p (mem_eraseH.1 hp).1).2)) (fun p hp=>(mem_eraseH.1 hp).2)
  (fun b hb _=>hw b hb) (by simp) rfl rfl rfl (fun b hb=>.inr (by simp [Bk,blk] at hb; omega)) (by
   rw [eraseH_free hf]
   exact ⟨w.heap.size,vs.toArray,t,.inl (upd_same _ _ _),heap_alloc_new w _,CVs_names hnames (CVs_mono (fun b hb _=>hw b hb) hanti hl)⟩)
 rw [eraseH_free hf] at hst
 exact ⟨hst.1,⟨hE.step hst.2.1 hst.2.2 (free_env hf),hst.2.1,hst.2.2⟩⟩
theorem alloc_row {C:FC} {σ:Nat→Value} {H:Heap} {w w':World} {Γ:Env} {a:Act} (h:SatW C σ H w) (hE:EnvR C σ H w Γ a) {m:Nat} (hf:free m Γ H=true) (k:Kd) (xs:List k.ty) (v:Value)
 (hw:∀ b,b<w.heap.size→w'.heap[b]? = w.heap[b]?) (hs:w.heap.size≤w'.heap.size) (hos:w'.os=w.os) (ht:w'.tape=w.tape) (hou:w'.output=w.output)
 (hblk:∀ b,Bk v b→w.heap.size≤b) (hrow:∀ O',(∀ b,b<w.heap.size→¬ Ow C.G H σ b→¬ O' b)→RowR O' w' k xs v) :
 SatW C (upd σ m v) ((m,.row k xs) :: H) w'∧EnvP C σ (upd σ m v) H ((m,.row k xs) :: H) w w' Γ a:=by
 have hanti:∀ b,b<w.heap.size→¬ Ow C.G H σ b→¬ Ow C.G ((m,.row k xs) :: H) (upd σ m v) b:=by
  intro b hb ho ho'
  rcases ho' with hg | ⟨p,hp,hbp⟩
  ·exact ho (.inl hg)
  ·rcases List.mem_cons.1 hp with rfl | hp
   ·rw [upd_same] at hbp; have:=hblk b hbp; omega
   ·rw [upd_ne (free_heap hf p hp).1] at hbp
    exact ho (.inr ⟨p,hp,hbp⟩)
 have hst:=step1 (w':=w') h m m (.row k xs) v (fun _ _=>.inr (fun p hp=>(free_heap hf p (mem_eraseH.1 hp).1).2)) (fun p hp=>(mem_eraseH.1 hp).2)
  (fun b hb _=>hw b hb) hs hos ht hou (fun b hb=>.inr (hblk b hb)) (by
   rw [eraseH_free hf]
   unfold EntR
   rw [upd_same]
   exact hrow _ hanti)
 rw [eraseH_free hf] at hst
 exact ⟨hst.1,⟨hE.step hst.2.1 hst.2.2 (free_env hf),hst.2.1,hst.2.2⟩⟩
theorem alloc_it {C:FC} {σ:Nat→Value} {H:Heap} {w:World} {Γ:Env} {a:Act} (h:SatW C σ H w) (hE:EnvR C σ H w Γ a) {m:Nat} (hf:free m Γ H=true) (s:ByteArray) (pos:Nat) :
 SatW C (upd σ m (.pointer (some ⟨w.heap.size,0,none⟩))) ((m,.it s pos none) :: H) (w.alloc (.stringIter s pos))∧
 EnvP C σ (upd σ m (.pointer (some ⟨w.heap.size,0,none⟩))) H ((m,.it s pos none) :: H) w (w.alloc (.stringIter s pos)) Γ a:=by
 have hst:=step1 (w':=w.alloc (.stringIter s pos)) h m m (.it s pos none) (.pointer (some ⟨w.heap.size,0,none⟩)) (fun _ _=>.inr (fun p hp=>(free_heap hf p (mem_eraseH.1 hp).1).2)) (fun p hp=>(mem_eraseH.1 hp).2)
  (fun b hb _=>alc_old w _ b hb) (by show w.heap.size≤(w.heap.push _).size; simp) rfl rfl rfl (fun b hb=>.inr (by simp [Bk,blk] at hb; omega)) (by
   rw [eraseH_free hf]
   exact ⟨w.heap.size,upd_same _ _ _,heap_alloc_new w _,fun h=>(by cases h),fun h=>(by cases h)⟩)
 rw [eraseH_free hf] at hst
 exact ⟨hst.1,⟨hE.step hst.2.1 hst.2.2 (free_env hf),hst.2.1,hst.2.2⟩⟩
theorem step_it {C:FC} {σ:Nat→Value} {H:Heap} {w w':World} {Γ:Env} {a:Act} (h:SatW C σ H w) (hE:EnvR C σ H w Γ a) {m b:Nat} {e e':Ent} (hm:look H m=some e) (hb:Bk (σ m) b)
 (hw:∀ q,q≠b→w'.heap[q]? = w.heap[q]?) (hs:w'.heap.size=w.heap.size) (hos:w'.os=w.os) (ht:w'.tape=w.tape) (hou:w'.output=w.output) (hent:∀ O,EntR O w' σ m e') :
 SatW C σ ((m,e') :: eraseH H m) w'∧EnvP C σ σ H ((m,e') :: eraseH H m) w w' Γ a:=by
 have hin:=look_mem hm
 have hst:=step1 (w':=w') h m m e' (σ m) (fun _ _=>.inl rfl) (fun p hp=>(mem_eraseH.1 hp).2)
  (fun q _ hq=>hw q (fun e1=>hq e hin (by rw [e1]; exact hb))) (by omega) hos ht hou (fun q hq=>.inl ⟨hq,e,hin⟩) (by rw [upd_self]; exact hent _)
 rw [upd_self] at hst
 exact ⟨hst.1,⟨hE.step hst.2.1 hst.2.2 (fun _ _ _ _ _=>rfl),hst.2.1,hst.2.2⟩⟩
end
end Go.Pal
namespace Go.Pal
open Go
def allP:List Prop→Prop
 | [] => True
 | [p] => p
 | p :: q :: ps => p ∧ allP (q :: ps)
theorem allP_cons {p:Prop}:∀ {ps:List Prop},allP (p :: ps)↔p∧allP ps
 | [] => by simp [allP]
 | _ :: _ => Iff.rfl
theorem allP_append:∀ {ps qs:List Prop},allP (ps++qs)↔allP ps∧allP qs
 | [],qs => by simp [allP]
 | p :: ps,qs => by rw [List.cons_append,allP_cons,allP_cons,allP_append,and_assoc]
abbrev Ans:=SV×List Prop
def vInt (k:IntKind) (n:Int):SV:=.c (.val (.int k n))
def vBool (b:Bool):SV:=.c (.val (.bool b))
def bitsOf (op:BinOp) (k:IntKind) (x y:Int):Option Int:=
 match op with
 | .and => some (k.wrap (BitVec.ofInt k.bits x &&& BitVec.ofInt k.bits y).toNat)
 | .or => some (k.wrap (BitVec.ofInt k.bits x ||| BitVec.ofInt k.bits y).toNat)
 | .xor => some (k.wrap (BitVec.ofInt k.bits x ^^^ BitVec.ofInt k.bits y).toNat)
 | .andNot => some (k.wrap (BitVec.ofInt k.bits x &&& ~~~BitVec.ofInt k.bits y).toNat)
 | _ => none
def intOp (op:BinOp) (k k':IntKind) (x y:Int):Option Ans:=
 match op with
 | .shl => some (vInt k (k.wrap (x * 2 ^ min y.toNat k.bits)),[0 ≤ y])
 | .shr => some (vInt k (x.fdiv (2 ^ min y.toNat k.bits)),[0 ≤ y])
 | _ => if k ≠ k' then none else
   match op with
   | .add => some (vInt k (k.wrap (x+y)),[])
   | .sub => some (vInt k (k.wrap (x - y)),[])
   | .mul => some (vInt k (k.wrap (x * y)),[])
   | .quo => some (vInt k (k.wrap (x.tdiv y)),[y ≠ 0])
   | .rem => some (vInt k (x.tmod y),[y ≠ 0])
   | .eql => some (vBool (x == y),[])
   | .neq => some (vBool (x !=y),[])
   | .lss => some (vBool (decide (x<y)),[])
   | .leq => some (vBool (decide (x ≤ y)),[])
   | .gtr => some (vBool (decide (x > y)),[])
   | .geq => some (vBool (decide (x ≥ y)),[])
   | op => (bitsOf op k x y).map fun n => (vInt k n,[])
section
variable {P:Program}
theorem intOp_sound {op:BinOp} {k k':IntKind} {x y:Int} {v:SV} {cs:List Prop} (h:intOp op k k' x y=some (v,cs)) (hc:allP cs) (t:TypeId) (w:World) :
 ∃ u,v=.c (.val u)∧(binOp op t (.int k x) (.int k' y)).run P w=.ok u w:=by
 unfold intOp at h
 split at h
 ·cases h
  simp only [allP] at hc
  refine ⟨_,rfl,?_⟩
  simp only [binOp,Op.shift]
  rw [if_neg (by omega)]
  rfl
 ·cases h
  simp only [allP] at hc
  refine ⟨_,rfl,?_⟩
  simp only [binOp,Op.shift]
  rw [if_neg (by omega)]
  rfl
 ·split at h
  ·cases h
  ·rename_i hk
   have hk:k=k':=by simpa using hk
   subst hk
   split at h
   ·cases h; exact ⟨_,rfl,by simp [binOp,Op.intArith]⟩
   ·cases h; exact ⟨_,rfl,by simp [binOp,Op.intArith]⟩
   ·cases h; exact ⟨_,rfl,by simp [binOp,Op.intArith]⟩
   ·cases h
    simp only [allP] at hc
    exact ⟨_,rfl,by simp [binOp,Op.intDiv,hc]⟩
   ·cases h
    simp only [allP] at hc
    exact ⟨_,rfl,by simp [binOp,Op.intDiv,hc]⟩
   ·cases h; exact ⟨_,rfl,by simp [binOp,Op.intCmp]⟩
   ·cases h; exact ⟨_,rfl,by simp [binOp,Op.intCmp]⟩
   ·cases h; exact ⟨_,rfl,by simp [binOp,Op.intCmp]⟩
   ·cases h; exact ⟨_,rfl,by simp [binOp,Op.intCmp]⟩
   ·cases h; exact ⟨_,rfl,by simp [binOp,Op.intCmp]⟩
   ·cases h; exact ⟨_,rfl,by simp [binOp,Op.intCmp]⟩
   ·simp only [Option.map_eq_some_iff] at h
    obtain ⟨n,hn,e⟩:=h
    cases e
    unfold bitsOf at hn
    split at hn <;> first
     | (cases hn; exact ⟨_,rfl,by simp [binOp,Op.intBits]⟩)
     | cases hn
theorem run_eqGuard_int (op:BinOp) (t:TypeId) (x y:Operand) (k k':IntKind) (a b:Int) (w:World):(eqGuard op t x y (.int k a) (.int k' b)).run P w=.ok () w:=by
 cases op <;> simp [eqGuard]
def strOp (op:BinOp) (x y:ByteArray):Option Ans:=
 match op with
 | .add => some (.c (.val (.string (x ++ y))),[x.size+y.size ≤ 9223372036854775807])
 | .eql => some (vBool (x.toList == y.toList),[])
 | .neq => some (vBool (!(x.toList == y.toList)),[])
 | .lss => some (vBool (Op.bytesLess x.toList y.toList),[])
 | .leq => some (vBool (Op.bytesLess x.toList y.toList || x.toList == y.toList),[])
 | .gtr => some (vBool (!(Op.bytesLess x.toList y.toList || x.toList == y.toList)),[])
 | .geq => some (vBool (!Op.bytesLess x.toList y.toList),[])
 | _ => none
theorem i64_max:IntKind.i64.max=9223372036854775807:=by simp [IntKind.max,IntKind.signed,IntKind.bits]
theorem strOp_sound {op:BinOp} {x y:ByteArray} {v:SV} {cs:List Prop} (h:strOp op x y=some (v,cs)) (hc:allP cs) (t:TypeId) (w:World) :
 ∃ u,v=.c (.val u)∧(binOp op t (.string x) (.string y)).run P w=.ok u w:=by
 unfold strOp at h
 split at h
 ·cases h
  simp only [allP] at hc
  refine ⟨_,rfl,?_⟩
  have:¬ (((x.size+y.size:Nat):Int) > IntKind.i64.max):=by rw [i64_max]; omega
  simp only [binOp,Op.stringOp]
  rw [if_neg this]
  rfl
 all_goals first
  | (cases h; exact ⟨_,rfl,by simp [binOp,Op.stringOp]⟩)
  | cases h
theorem run_eqGuard_str (op:BinOp) (t:TypeId) (x y:Operand) (a b:ByteArray) (w:World):(eqGuard op t x y (.string a) (.string b)).run P w=.ok () w:=by
 cases op <;> simp [eqGuard]
def boolOp (P:Program) (op:BinOp) (t:TypeId) (a b:Bool):Option Ans:=
 match op,P.underlying t with
 | .eql,some .bool => some (vBool (a == b),[])
 | .neq,some .bool => some (vBool (!(a == b)),[])
 | _,_ => none
theorem boolOp_sound {op:BinOp} {t:TypeId} {a b:Bool} {v:SV} {cs:List Prop} (h:boolOp P op t a b=some (v,cs)) (x y:Operand) (w:World) :
 ∃ u,v=.c (.val u)∧(eqGuard op t x y (.bool a) (.bool b)).run P w=.ok () w∧(binOp op t (.bool a) (.bool b)).run P w=.ok u w:=by
 unfold boolOp at h
 split at h
 ·rename_i hu
  cases h
  exact ⟨_,rfl,by simp [eqGuard],by simp [binOp,Op.equal,Op.maxDepth,run_equalIn_bool' w 9999 t a b hu]⟩
 ·rename_i hu
  cases h
  exact ⟨_,rfl,by simp [eqGuard],by simp [binOp,Op.equal,Op.maxDepth,run_equalIn_bool' w 9999 t a b hu]⟩
 ·cases h
def nilVal:Value→Option Bool
 | .pointer none => some true
 | _ => none
def isNilP (H:Heap):CV→Option Bool
 | .val v => nilVal v
 | .imm (.opt _) x => some x.isNone
 | .h m => match look H m with
  | some (.box _) => some false
  | _ => none
 | .cell _ _ | .elt _ _ _ _ | .ielt _ _ => some false
 | _ => none
theorem isNilP_sound {C:FC} {σ:Nat→Value} {H:Heap} {w:World} (h:SatW C σ H w):∀ {s:CV} {v:Value} {b:Bool},isNilP H s=some b→CVr (Ow C.G H σ) w σ s v→
 ∃ A,v=.pointer A∧A.isNone=b
 | .val v,_,_,hb,hv => by
   cases hv
   simp only [isNilP] at hb
   unfold nilVal at hb
   split at hb
   ·cases hb; exact ⟨none,rfl,rfl⟩
   ·cases hb
 | .imm (.opt _) none,_,_,hb,hv => by cases hb; simp only [CVr,Kd.R] at hv; cases hv; exact ⟨none,rfl,rfl⟩
 | .imm (.opt _) (some _),_,_,hb,hv => by cases hb; simp only [CVr,Kd.R] at hv; obtain ⟨_,_,_,hv,_⟩ := hv; cases hv; exact ⟨_,rfl,rfl⟩
 | .h m,_,_,hb,hv => by
   simp only [isNilP] at hb
   split at hb
   ·rename_i cs hm
    cases hb
    obtain ⟨b,c,e,hs,_⟩:=h.ent _ (look_mem hm)
    exact ⟨_,hv.trans (hs.hd),rfl⟩
   ·cases hb
 | .cell _ _,_,_,hb,hv => by cases hb; obtain ⟨_,_,rfl⟩ := hv; exact ⟨_,rfl,rfl⟩
 | .elt _ _ _ _,_,_,hb,hv => by cases hb; obtain ⟨_,_,_,_,_,_,rfl⟩ := hv; exact ⟨_,rfl,rfl⟩
 | .ielt _ _,_,_,hb,hv => by cases hb; obtain ⟨_,_,_,rfl,_⟩ := hv; exact ⟨_,rfl,rfl⟩
end
end Go.Pal
namespace Go.Pal
open Go
def kindsWith (g:TypeId→Option Kd):List TypeId→Option Kd
 | [] => none
 | [t] => g t
 | t :: u :: ts => match g t,kindsWith g (u :: ts) with
     | some a,some b => some (.pair a b)
     | _,_ => none
def isNode (P:Program) (t:TypeId):Bool:=
 match P.underlying t with
 | some (.struct fs) => match fs[0]? with
  | some fd => match P.underlying fd.type with
   | some (.slice e) => match P.underlying e with
    | some (.pointer t') => t' == t
    | _ => false
   | _ => false
  | none => false
 | _ => false
def kindOf (P:Program):Nat→TypeId→Option Kd
 | 0,_ => none
 | f+1,t =>
   if isNode P t=true then some .node else
   match P.underlying t with
   | some (.int k) => some (.int k)
   | some .bool => some .bool
   | some .string => some .str
   | some (.slice e) => (kindOf P f e).map Kd.slice
   | some (.pointer e) => (kindOf P f e).map Kd.opt
   | some (.struct fs) => kindsWith (kindOf P f) (fs.toList.map (·.type))
   | some (.array n e) => kindsWith (kindOf P f) (List.replicate n e)
   | _ => none
def rdN (k:Kd):Nat→List CV→Option (List k.ty)
 | 0,[] => some []
 | 0,_ :: _ => none
 | n+1,l => match k.rdl l with
    | some (x,r) => (rdN k n r).map (x :: ·)
    | none => none
theorem rdN_sound {O:Nat→Prop} {w:World} {σ:Nat→Value} {k:Kd}:∀ {n:Nat} {l:List CV} {xs:List k.ty} {vs:List Value},rdN k n l=some xs→CVs O w σ l vs→
 xs.length=n∧vs.length=n * k.sz∧∀ i (h:i<xs.length),∃ cs,k.R O w xs[i] cs∧∀ j,j<k.sz→vs[i * k.sz+j]? = cs[j]?
 | 0,[],xs,vs,h,hc => by
   cases h
   cases vs with
   | nil => exact ⟨rfl,by simp,fun i hi => absurd hi (by simp)⟩
   | cons _ _ => exact hc.elim
 | 0,_ :: _,xs,vs,h,_ => by cases h
 | n+1,l,xs,vs,h,hc => by
   simp only [rdN] at h
   split at h
   ·rename_i x r hr
    obtain ⟨ys,hys,rfl⟩:=Option.map_eq_some_iff.1 h
    obtain ⟨c1,c2,rfl,hR,hc2⟩:=rdl_sound hr hc
    obtain ⟨h1,h2,h3⟩:=rdN_sound hys hc2
    have hl:=R_len hR
    refine ⟨by simp [h1],by rw [List.length_append,hl,h2,Nat.add_mul]; omega,fun i hi=>?_⟩
    cases i with
    | zero =>
      refine ⟨c1,hR,fun j hj=>?_⟩
      rw [Nat.zero_mul,Nat.zero_add,List.getElem?_append_left (by omega)]
    | succ i =>
      obtain ⟨cs,hRi,hci⟩:=h3 i (by simp at hi; omega)
      refine ⟨cs,by simpa using hRi,fun j hj=>?_⟩
      rw [← hci j hj,List.getElem?_append_right (by rw [Nat.add_mul]; omega)]
      congr 1
      rw [Nat.add_mul]
      omega
   ·cases h
section
variable {P:Program}
def Reads (O:Nat→Prop) (w:World) (k:Kd) (A:Option Addr) (xs:List k.ty):Prop:=
 ∀ i (h:i<xs.length),∃ b off c,A=some ⟨b,off,none⟩∧k.R O w xs[i] c∧∀ j,j<k.sz→w.cell? ⟨b,off+i * k.sz+j,none⟩=c[j]?
theorem Reads_nil {O:Nat→Prop} {w:World} {k:Kd} {A:Option Addr}:Reads O w k A []:=fun i hi=>absurd hi (by simp)
theorem RowR_reads {O:Nat→Prop} {w:World} {k:Kd} {xs:List k.ty} {v:Value} (h:RowR O w k xs v):∃ A cap,v=.slice A xs.length cap∧xs.length≤cap∧Reads O w k A xs:=by
 obtain ⟨A,cap,rfl,h⟩:=h
 rcases h with ⟨rfl,rfl⟩ | ⟨hp,hl,b,off,c,e,rfl,hh,hs,hr⟩
 ·exact ⟨A,0,rfl,Nat.le_refl _,Reads_nil⟩
 ·refine ⟨_,cap,rfl,hl,fun i hi=>?_⟩
  obtain ⟨cs,hR,hc⟩:=hr i hi
  exact ⟨b,off,cs,rfl,hR,fun j hj=>by rw [cell_of_row w b _ c e (0,0) hh,hc j hj]⟩
theorem Reads_part {O:Nat→Prop} {w:World} {k:Kd} {A:Option Addr} {xs:List k.ty} (h:Reads O w k A xs) (lo len:Nat) (hl:lo+len≤xs.length) {A':Option Addr}
 (hA:∀ b off,A=some ⟨b,off,none⟩→0<len→A'=some ⟨b,off+lo * k.sz,none⟩):Reads O w k A' ((xs.drop lo).take len):=by
 intro i hi
 simp only [List.length_take,List.length_drop] at hi
 obtain ⟨b,off,c,e,hR,hc⟩:=h (lo+i) (by omega)
 refine ⟨b,off+lo * k.sz,c,hA b off e (by omega),by simpa using hR,fun j hj=>?_⟩
 rw [← hc j hj]
 congr 2
 rw [Nat.add_mul]
 omega
def content (H:Heap) (k:Kd):CV→Option (List k.ty)
 | .h m => match look H m with
  | some (.row k' xs) => castK (.slice k') (.slice k) xs
  | _ => none
 | .imm k' x => castK k' (.slice k) x
 | .sub m sz lo len => match look H m with
  | some (.row k' xs) => if sz=k'.sz then castK (.slice k') (.slice k) ((xs.drop lo).take len) else none
  | _ => none
 | .val (.slice none 0 0) => some []
 | .zc => some []
 | _ => none
theorem content_sound {C:FC} {σ:Nat→Value} {H:Heap} {w:World} (h:SatW C σ H w) {k:Kd} {s:CV} {v:Value} {xs:List k.ty} (hc:content H k s=some xs) (hv:CVr (Ow C.G H σ) w σ s v) :
 ∃ A cap,v=.slice A xs.length cap∧xs.length≤cap∧Reads (Ow C.G H σ) w k A xs:=by
 unfold content at hc
 split at hc
 ·rename_i m
  split at hc
  ·rename_i k' ys hm
   obtain ⟨e,rfl⟩:=castK_eq hc
   cases e
   cases hv
   exact RowR_reads (row_h (h.ent _ (look_mem hm)))
  ·cases hc
 ·rename_i k' x
  obtain ⟨e,rfl⟩:=castK_eq hc
  cases e
  simp only [CVr,Kd.R] at hv
  obtain ⟨A,cap,hv,hl,hr⟩:=hv
  simp only [List.cons.injEq,and_true] at hv
  refine ⟨A,cap,hv,hl,fun i hi=>?_⟩
  obtain ⟨b,off,c,e,_,hR,hcell⟩:=hr i hi
  exact ⟨b,off,c,e,hR,hcell⟩
 ·rename_i m sz lo len
  split at hc
  ·rename_i k' ys hm
   split at hc
   ·rename_i hsz
    subst hsz
    obtain ⟨e,rfl⟩:=castK_eq hc
    cases e
    simp only [CVr] at hv
    obtain ⟨A,l,cap,A',cap',hs,rfl,hlen,hlo,hcap⟩:=hv
    obtain ⟨A2,cap2,e2,hl2,hr2⟩:=RowR_reads (row_h (h.ent _ (look_mem hm)))
    rw [hs] at e2
    injection e2 with e3 e4 e5
    subst e3 e4 e5
    have hlen':((ys.drop lo).take len).length=len:=by simp; omega
    refine ⟨A',cap',by rw [hlen'],by rw [hlen']; exact hlen,?_⟩
    refine Reads_part hr2 lo len hlo fun b off e hp=>?_
    obtain ⟨_,b',off',e1,e2⟩:=hcap (by omega)
    rw [e] at e1
    injection e1 with e1
    injection e1 with e3 e4 _
    subst e3 e4
    exact e2
   ·cases hc
  ·cases hc
 ·cases hc
  cases hv
  exact ⟨none,0,rfl,Nat.le_refl _,Reads_nil⟩
 ·cases hc
  obtain ⟨A,rfl⟩:=hv
  exact ⟨A,0,rfl,Nat.le_refl _,Reads_nil⟩
 ·cases hc
def slenOf (H:Heap):CV→Option Nat
 | .h m => match look H m with
  | some (.row _ xs) => some xs.length
  | some (.sets ls none) => some ls.length
  | some (.sets ls (some _)) => some (ls.length+1)
  | some (.arow _ xs) => some xs.length
  | some (.aown xs) => some xs.length
  | some (.brow _ xs) => some xs.length
  | _ => none
 | .imm k x => match k,x with
  | .slice _,xs => some xs.length
  | _,_ => none
 | .sub _ _ _ len => some len
 | .val (.slice none 0 0) => some 0
 | .zc => some 0
 | _ => none
theorem slenOf_sound {C:FC} {σ:Nat→Value} {H:Heap} {w:World} (h:SatW C σ H w) {s:CV} {v:Value} {n:Nat} (hc:slenOf H s=some n) (hv:CVr (Ow C.G H σ) w σ s v) :
 ∃ A cap,v=.slice A n cap∧n≤cap:=by
 unfold slenOf at hc
 split at hc
 ·split at hc
  ·rename_i hm
   cases hc
   cases hv
   obtain ⟨A,cap,e,hl,_⟩:=RowR_reads (row_h (h.ent _ (look_mem hm)))
   exact ⟨A,cap,e,hl⟩
  ·rename_i ls hm
   cases hc
   obtain ⟨A,cap,vs,hs,_,hl,_,_,hr⟩:=h.ent _ (look_mem hm)
   have hl:vs.length=ls.length:=by simpa using hl
   refine ⟨A,cap,hv.trans (by rw [hs,← hl]; rfl),?_⟩
   rcases hr with ⟨_,rfl⟩ | ⟨_,hle,_⟩
   ·simp at hl; omega
   ·omega
  ·rename_i ls m' hm
   cases hc
   obtain ⟨A,cap,vs,hs,_,hl,_,_,hr⟩:=h.ent _ (look_mem hm)
   have hl:vs.length=ls.length+1:=by simpa using hl
   refine ⟨A,cap,hv.trans (by rw [hs,← hl]; rfl),?_⟩
   rcases hr with ⟨_,rfl⟩ | ⟨_,hle,_⟩
   ·simp at hl
   ·omega
  ·rename_i hm
   cases hc
   obtain ⟨A,cap,vs,hs,_,_,_,_,hr⟩:=h.ent _ (look_mem hm)
   refine ⟨A,cap,hv.trans (by rw [hs]; rfl),?_⟩
   rcases hr with ⟨_,rfl⟩ | ⟨_,hle,_⟩
   ·simp
   ·exact hle
  ·rename_i hm
   cases hc
   obtain ⟨A,cap,vs,hs,_,_,_,_,hr⟩:=h.ent _ (look_mem hm)
   refine ⟨A,cap,hv.trans (by rw [hs]; rfl),?_⟩
   rcases hr with ⟨_,rfl⟩ | ⟨_,hle,_⟩
   ·simp
   ·exact hle
  ·rename_i hm
   cases hc
   obtain ⟨⟨A,cap,hs,hr⟩,_⟩:=h.ent _ (look_mem hm)
   refine ⟨A,cap,hv.trans (by rw [hs]; rfl),?_⟩
   rcases hr with ⟨_,hr⟩ | ⟨_,hle,_⟩
   ·rw [hr]; exact Nat.zero_le _
   ·exact hle
  ·cases hc
 ·split at hc
  ·cases hc
   simp only [CVr,Kd.R] at hv
   obtain ⟨A,cap,hv,hl,_⟩:=hv
   simp only [List.cons.injEq,and_true] at hv
   exact ⟨A,cap,hv,hl⟩
  ·cases hc
 ·cases hc
  obtain ⟨A,l,cap,A',cap',hs,rfl,hlen,_⟩:=hv
  exact ⟨A',cap',rfl,hlen⟩
 ·cases hc
  cases hv
  exact ⟨none,0,rfl,Nat.le_refl _⟩
 ·cases hc
  obtain ⟨A,rfl⟩:=hv
  exact ⟨A,0,rfl,Nat.le_refl _⟩
 ·cases hc
def fieldOf (P:Program) (s:TypeId) (f:Nat):Option Field:=
 match P.underlying s with
 | some (.struct fs) => fs[f]?
 | _ => none
def nFields (P:Program) (s:TypeId):Nat:=
 match P.underlying s with
 | some (.struct fs) => fs.size
 | _ => 0
theorem fieldOf_some {s:TypeId} {f:Nat} {fd:Field} (h:fieldOf P s f=some fd):∃ fs,P.underlying s=some (.struct fs)∧fs[f]? = some fd:=by
 unfold fieldOf at h
 split at h
 ·rename_i fs hu; exact ⟨fs,hu,h⟩
 ·cases h
def partS (P:Program) (t:TypeId) (l:List CV) (off:Nat):Option SV:=
 match aggB P t,szof P t with
 | some true,some n => some (.agg ((l.drop off).take n))
 | some false,_ => (l[off]?).map SV.c
 | _,_ => none
theorem CVs_get {O:Nat→Prop} {w:World} {σ:Nat→Value}:∀ {l:List CV} {vs:List Value} {n:Nat} {x:CV},CVs O w σ l vs→l[n]? = some x→∃ u,vs[n]? = some u∧CVr O w σ x u
 | [],_,_,_,_,h => by simp at h
 | s :: l,v :: vs,0,x,hc,h => by simp only [List.getElem?_cons_zero,Option.some.injEq] at h; subst h; exact ⟨v,rfl,hc.1⟩
 | s :: l,v :: vs,n+1,x,hc,h => by simpa using CVs_get (n := n) hc.2 (by simpa using h)
 | _ :: _,[],_,_,hc,_ => hc.elim
theorem partS_sound {O:Nat→Prop} {w:World} {σ:Nat→Value} {t:TypeId} {l:List CV} {vs:List Value} {off:Nat} {sv:SV} (h:partS P t l off=some sv) (hc:CVs O w σ l vs) :
 ∃ u,(part t vs.toArray off).run P w=.ok u w∧SVr O w σ sv u:=by
 unfold partS at h
 split at h
 ·rename_i n ha hz
  cases h
  refine ⟨.agg ((vs.drop off).take n).toArray,?_,⟨_,rfl,CVs_take (CVs_drop hc)⟩⟩
  simp [part,run_aggB ha,run_szof hz,List.extract,Nat.add_sub_cancel_left]
 ·rename_i ha
  simp only [Option.map_eq_some_iff] at h
  obtain ⟨x,hx,rfl⟩:=h
  obtain ⟨u,hu,hr⟩:=CVs_get hc hx
  refine ⟨u,?_,hr⟩
  simp [part,run_aggB ha,hu]
 ·cases h
def fld:(n:Nat)→(k:Kd)→(f:Nat)→k.ty→Option (Σ k':Kd,k'.ty)
 | 0,_,_,_ => none
 | 1,k,0,x => some ⟨k,x⟩
 | 1,_,_+1,_ => none
 | _+2,.pair a _,0,x => some ⟨a,x.1⟩
 | n+2,.pair _ b,f+1,x => fld (n+1) b f x.2
 | _+2,.node,0,t => some ⟨.slice (.opt .node),t.kids⟩
 | _+2,.node,1,t => some ⟨.slice .str,t.items⟩
 | _+2,.node,2,t => some ⟨.int .i64,t.n⟩
 | _+2,.node,3,t => some ⟨.int .i64,t.d⟩
 | _+2,.node,4,t => some ⟨.pair (.int .i64) (.pair (.int .i64) (.pair (.int .i64) (.int .i64))),(t.s1,t.s2,t.s3,t.s4)⟩
 | _+2,_,_,_ => none
def foff:(n:Nat)→(k:Kd)→(f:Nat)→Nat
 | n+2,.pair a b,f+1 => a.sz+foff (n+1) b f
 | _+2,.node,f => f
 | _,_,_ => 0
theorem fld_sound {O:Nat→Prop} {w:World}:∀ {n:Nat} {k:Kd} {f:Nat} {x:k.ty} {k':Kd} {y:k'.ty} {cs:List Value},fld n k f x=some ⟨k',y⟩→k.R O w x cs→
 ∃ c,k'.R O w y c∧foff n k f+k'.sz≤k.sz∧∀ j,j<k'.sz→cs[foff n k f+j]? = c[j]?
 | 0,_,_,_,_,_,_,h,_ => by simp [fld] at h
 | 1,k,0,x,k',y,cs,h,hR => by
   simp only [fld,Option.some.injEq] at h
   cases h
   have e:foff 1 k 0=0:=by simp [foff]
   exact ⟨cs,hR,by omega,fun j _=>by rw [e,Nat.zero_add]⟩
 | 1,_,_+1,_,_,_,_,h,_ => by simp [fld] at h
 | n+2,.pair a b,0,x,k',y,cs,h,hR => by
   obtain ⟨c1,c2,rfl,h1,h2⟩:=hR
   have hl1:=R_len h1
   simp only [fld,Option.some.injEq] at h
   cases h
   refine ⟨c1,h1,by simp [foff,Kd.sz],fun j hj=>?_⟩
   simp only [foff,Nat.zero_add]
   rw [List.getElem?_append_left (by omega)]
 | n+2,.pair a b,f+1,x,k',y,cs,h,hR => by
   obtain ⟨c1,c2,rfl,h1,h2⟩:=hR
   have hl1:=R_len h1
   simp only [fld] at h
   obtain ⟨c,hR',hsz,hc⟩:=fld_sound h h2
   refine ⟨c,hR',by simp only [foff,Kd.sz]; omega,fun j hj=>?_⟩
   simp only [foff]
   rw [List.getElem?_append_right (by omega),← hc j hj]
   congr 1
   omega
 | _+2,.int _,_,_,_,_,_,h,_ => by simp [fld] at h
 | _+2,.bool,_,_,_,_,_,h,_ => by simp [fld] at h
 | _+2,.str,_,_,_,_,_,h,_ => by simp [fld] at h
 | _+2,.slice _,_,_,_,_,_,h,_ => by simp [fld] at h
 | _+2,.opt _,_,_,_,_,_,h,_ => by simp [fld] at h
 | _+2,.node,0,.mk ..,_,_,_,h,hR => by
   obtain ⟨f,hR⟩:=hR
   obtain ⟨u,v,rfl,h1,h2⟩:=node_parts hR
   simp only [fld,Option.some.injEq] at h
   cases h
   exact ⟨[u],h1,by simp [foff,Kd.sz],fun j hj=>by simp only [Kd.sz] at hj; obtain rfl:j=0:=(by omega); rfl⟩
 | _+2,.node,1,.mk ..,_,_,_,h,hR => by
   obtain ⟨f,hR⟩:=hR
   obtain ⟨u,v,rfl,h1,h2⟩:=node_parts hR
   simp only [fld,Option.some.injEq] at h
   cases h
   exact ⟨[v],h2,by simp [foff,Kd.sz],fun j hj=>by simp only [Kd.sz] at hj; obtain rfl:j=0:=(by omega); rfl⟩
 | _+2,.node,2,.mk _ _ n _ _ _ _ _,_,_,_,h,hR => by
   obtain ⟨f,hR⟩:=hR
   obtain ⟨u,v,rfl,h1,h2⟩:=node_parts hR
   simp only [fld,Option.some.injEq] at h
   cases h
   exact ⟨[.int .i64 n],rfl,by simp [foff,Kd.sz],fun j hj=>by simp only [Kd.sz] at hj; obtain rfl:j=0:=(by omega); rfl⟩
 | _+2,.node,3,.mk _ _ _ d _ _ _ _,_,_,_,h,hR => by
   obtain ⟨f,hR⟩:=hR
   obtain ⟨u,v,rfl,h1,h2⟩:=node_parts hR
   simp only [fld,Option.some.injEq] at h
   cases h
   exact ⟨[.int .i64 d],rfl,by simp [foff,Kd.sz],fun j hj=>by simp only [Kd.sz] at hj; obtain rfl:j=0:=(by omega); rfl⟩
 | _+2,.node,4,.mk _ _ _ _ s1 s2 s3 s4,_,_,_,h,hR => by
   obtain ⟨f,hR⟩:=hR
   obtain ⟨u,v,rfl,h1,h2⟩:=node_parts hR
   simp only [fld,Option.some.injEq] at h
   cases h
   exact ⟨[.int .i64 s1,.int .i64 s2,.int .i64 s3,.int .i64 s4],⟨[_],_,rfl,rfl,[_],_,rfl,rfl,[_],_,rfl,rfl,rfl⟩,by simp [foff,Kd.sz],fun j _=>by simp only [foff]; rw [Nat.add_comm]; rfl⟩
 | _+2,.node,_+5,_,_,_,_,h,_ => by simp [fld] at h
def stFieldAddr (P:Program) (s:TypeId) (f:Nat) (p:CV):Option CV:=
 match fieldOf P s f with
 | some fd => if szof P fd.type=some 0 ∨ szof P fd.type=none then none else
  match p with
  | .h m => some (.cell m fd.offset)
  | .cell m o => some (.cell m (o+fd.offset))
  | .elt m sz i o => some (.elt m sz i (o+fd.offset))
  | .ielt k x => match fld (nFields P s) k f x with
   | some ⟨k',y⟩ => if foff (nFields P s) k f=fd.offset then some (.ielt k' y) else none
   | none => none
  | _ => none
 | none => none
theorem run_fieldAt {s:TypeId} {f:Nat} {fd:Field} (h:fieldOf P s f=some fd) (h0:szof P fd.type≠some 0) (h1:szof P fd.type≠none) (b off:Nat) (w:World) :
 (Instr.fieldAt s (.pointer (some ⟨b,off,none⟩)) f).run P w=.ok (.pointer (some ⟨b,off+fd.offset,none⟩)) w:=by
 obtain ⟨fs,hu,hf⟩:=fieldOf_some h
 cases hz:szof P fd.type with
 | none => exact (h1 hz).elim
 | some n =>
   have hn:n≠0:=fun e=>h0 (by rw [hz,e])
   simp [Instr.fieldAt,run_underlying hu,hf,Instr.sureAddr,fieldPlace,run_szof hz,hn,Addr.add_lit]
theorem stFieldAddr_sound {C:FC} {σ:Nat→Value} {H:Heap} {w:World} {s:TypeId} {f:Nat} {p q:CV} {v:Value} (hst:stFieldAddr P s f p=some q) (hbox:∀ m,p=.h m→∃ b,hd (σ m)=.pointer (some ⟨b,0,none⟩)) (hp:CVr (Ow C.G H σ) w σ p v) :
 ∃ u,(Instr.fieldAt s v f).run P w=.ok u w∧CVr (Ow C.G H σ) w σ q u:=by
 unfold stFieldAddr at hst
 split at hst
 ·rename_i fd hf
  split at hst
  ·cases hst
  ·rename_i hz
   rw [not_or] at hz
   split at hst
   ·rename_i m
    cases hst
    cases hp
    obtain ⟨b,hb⟩:=hbox m rfl
    rw [hb]
    exact ⟨_,run_fieldAt hf hz.1 hz.2 b 0 w,b,hb,by simp⟩
   ·cases hst
    obtain ⟨b,hb,rfl⟩:=hp
    exact ⟨_,run_fieldAt hf hz.1 hz.2 b _ w,b,hb,rfl⟩
   ·cases hst
    obtain ⟨b,off,len,cap,hb,hi,rfl⟩:=hp
    exact ⟨_,run_fieldAt hf hz.1 hz.2 b _ w,b,off,len,cap,hb,hi,by rw [Nat.add_assoc _ _ fd.offset]⟩
   ·rename_i k x
    split at hst
    ·rename_i k' y hy
     split at hst
     ·rename_i ho
      cases hst
      obtain ⟨b,off,c,rfl,hb,hR,hcell⟩:=hp
      obtain ⟨c',hR',hsz,hc'⟩:=fld_sound hy hR
      refine ⟨_,run_fieldAt hf hz.1 hz.2 b off w,b,_,c',rfl,hb,hR',fun j hj=>?_⟩
      rw [← hc' j hj,← hcell _ (by omega),ho,Nat.add_assoc]
     ·cases hst
    ·cases hst
   ·cases hst
 ·cases hst
def bt (s:ByteArray) (i:Int):Int:=((s[i.toNat]?).getD 0).toNat
def allInts (k:IntKind):List CV→Option (List Int)
 | [] => some []
 | .val (.int k' n) :: l => if k'=k then (allInts k l).map (n :: ·) else none
 | _ => none
def intKd (P:Program) (t:TypeId):Option IntKind:=
 match P.underlying t with
 | some (.int k) => some k
 | _ => none
theorem allInts_sound {O:Nat→Prop} {w:World} {σ:Nat→Value} {k:IntKind}:∀ {l:List CV} {ns:List Int} {vs:List Value},allInts k l=some ns→CVs O w σ l vs→vs=ns.map (Value.int k)
 | [],ns,vs,h,hc => by cases h; cases vs with | nil => rfl | cons _ _ => exact hc.elim
 | s :: l,ns,vs,h,hc => by
   unfold allInts at h
   split at h
   ·rename_i e; cases e
   ·rename_i k' n l' e
    cases e
    split at h
    ·rename_i ek
     subst ek
     simp only [Option.map_eq_some_iff] at h
     obtain ⟨ms,hms,rfl⟩:=h
     obtain ⟨v,us,rfl,hv,hu⟩:=CVs_cons_inv hc
     rw [allInts_sound hms hu,hv]
     rfl
    ·cases h
   ·cases h
def stArrayAt (P:Program) (elem:TypeId) (len:Nat) (l:List CV) (i:Int) (n:Nat):Option SV:=
 match intKd P elem,n with
 | some k,1 => match allInts k l with
  | some ns => some (.c (.val (.int k (ns.getD i.toNat 0))))
  | none => none
 | _,_ => match aggB P elem,kindOf P 12 elem with
  | some true,some k => match decide (n=k.sz),rdN k len l with
   | true,some xs => some (.agg (k.svs (xs.getD i.toNat k.dflt)))
   | _,_ => partS P elem l (i.toNat * n)
  | some false,some .bool => match decide (n=1),rdN .bool len l with
   | true,some bs => some (vBool (bs.getD i.toNat false))
   | _,_ => partS P elem l (i.toNat * n)
  | _,_ => partS P elem l (i.toNat * n)
def stIndex (P:Program) (t:TypeId) (x:SV) (i:Int):Option Ans:=
 match P.underlying t,x with
 | some .string,.c (.val (.string s)) => some (vInt .u8 (bt s i),[0 ≤ i,i<s.size])
 | some (.array len elem),.agg l =>
  match szof P elem with
  | some n => if l.length=len * n then (stArrayAt P elem len l i n).map fun v => (v,[0 ≤ i,i<len]) else none
  | none => none
 | _,_ => none
theorem stIndex_sound {C:FC} {σ:Nat→Value} {H:Heap} {w:World} {t:TypeId} {x:SV} {xv:Value} {k:IntKind} {i:Int} {v:SV} {cs:List Prop} (hst:stIndex P t x i=some (v,cs)) (hc:allP cs) (hx:SVr (Ow C.G H σ) w σ x xv) :
 ∃ u,(Instr.index t xv (.int k i)).run P w=.ok u w∧SVr (Ow C.G H σ) w σ v u:=by
 unfold stIndex at hst
 split at hst
 ·rename_i s hu
  cases hst
  simp only [allP] at hc
  cases hx
  refine ⟨_,?_,rfl⟩
  have hlt:i.toNat<s.size:=by omega
  simp [Instr.index,asIntOf,run_underlying hu,hc.1,bt,hlt]
 ·rename_i len elem l hu
  split at hst
  ·rename_i n hz
   split at hst
   ·rename_i hl
    simp only [Option.map_eq_some_iff] at hst
    obtain ⟨v',hv',e⟩:=hst
    cases e
    simp only [allP] at hc
    obtain ⟨vs,rfl,hvs⟩:=hx
    have key:∃ u,(part elem vs.toArray (i.toNat * n)).run P w=.ok u w∧SVr (Ow C.G H σ) w σ v u:=by
     unfold stArrayAt at hv'
     split at hv'
     ·rename_i k' hk
      split at hv'
      ·rename_i ns hns
       cases hv'
       have hvs':=allInts_sound hns hvs
       have hag:aggB P elem=some false:=by
        unfold intKd at hk
        unfold aggB
        split at hk
        ·rename_i hu'; rw [hu']
        ·cases hk
       refine ⟨.int k' (ns.getD i.toNat 0),?_,rfl⟩
       have hlen:ns.length=vs.length:=by rw [hvs']; simp
       have:=CVs_len hvs
       have hlt:i.toNat<ns.length:=by omega
       subst hvs'
       simp [part,run_aggB hag,List.getD,hlt]
      ·cases hv'
     ·split at hv'
      ·rename_i k' hag hk
       split at hv'
       ·rename_i xs hn hxs
        cases hv'
        obtain rfl:=of_decide_eq_true hn
        obtain ⟨h1,h2,h3⟩:=rdN_sound hxs hvs
        have hi:i.toNat<xs.length:=by omega
        obtain ⟨c,hR,hc'⟩:=h3 _ hi
        have hcl:=R_len hR
        refine ⟨.agg ((vs.drop (i.toNat * k'.sz)).take k'.sz).toArray,?_,(vs.drop (i.toNat * k'.sz)).take k'.sz,rfl,?_⟩
        ·simp [part,run_aggB hag,run_szof hz,List.extract,Nat.add_sub_cancel_left]
        ·have he:(vs.drop (i.toNat * k'.sz)).take k'.sz=c:=by
          apply List.ext_getElem?
          intro j
          rcases Nat.lt_or_ge j k'.sz with hj | hj
          ·rw [List.getElem?_take,if_pos hj,List.getElem?_drop]
           exact hc' j (by omega)
          ·rw [List.getElem?_take,if_neg (by omega),List.getElem?_eq_none (by omega)]
         rw [he]
         have hx:xs.getD i.toNat k'.dflt=xs[i.toNat]:=by simp [List.getD,hi]
         rw [hx]
         exact svs_sound hR
       ·exact partS_sound hv' hvs
      ·rename_i hag hk
       split at hv'
       ·rename_i bs hn hbs
        cases hv'
        obtain rfl:=of_decide_eq_true hn
        obtain ⟨h1,h2,h3⟩:=rdN_sound hbs hvs
        have hi:i.toNat<bs.length:=by omega
        obtain ⟨c,hR,hc'⟩:=h3 _ hi
        simp only [Kd.R] at hR
        subst hR
        have h0:=hc' 0 (by simp [Kd.sz])
        simp only [Kd.sz,Nat.mul_one,Nat.add_zero,List.getElem?_cons_zero] at h0
        have hx:bs.getD i.toNat false=bs[i.toNat]:=by simp [List.getD,hi]
        refine ⟨.bool bs[i.toNat],?_,by rw [hx]; rfl⟩
        simp [part,run_aggB hag,h0]
       ·exact partS_sound hv' hvs
      ·exact partS_sound hv' hvs
    obtain ⟨u,hu',hr⟩:=key
    refine ⟨u,?_,hr⟩
    simp [Instr.index,asIntOf,run_underlying hu,hc.1,hc.2,run_szof hz,hu']
   ·cases hst
  ·cases hst
 ·cases hst
end
end Go.Pal
namespace Go.Pal
open Go
section
variable {P:Program}
def stIndexAddr (P:Program) (H:Heap) (t:TypeId) (x:CV) (i:Int):Option (CV×List Prop):=
 match P.underlying t with
 | some (.slice elem) => match szof P elem,x with
  | some n,.h m => match look H m with
   | some (.row k xs) => if n=k.sz then some (.elt m k.sz i.toNat 0,[0 ≤ i,i<(xs.length:Int)]) else none
   | some (.sets ls none) => if n=1 then some (.elt m 1 i.toNat 0,[0 ≤ i,i<(ls.length:Int)]) else none
   | some (.sets ls (some _)) => if n=1 then some (.elt m 1 i.toNat 0,[0 ≤ i,i<((ls.length+1:Nat):Int)]) else none
   | some (.arow _ xs) => if n=5 then some (.elt m 5 i.toNat 0,[0 ≤ i,i<(xs.length:Int)]) else none
   | some (.aown xs) => if n=5 then some (.elt m 5 i.toNat 0,[0 ≤ i,i<(xs.length:Int)]) else none
   | some (.apend _ _ xs) => if n=5 then some (.elt m 5 i.toNat 0,[0 ≤ i,i<(xs.length:Int)]) else none
   | _ => none
  | some n,.sub m sz lo len => if n=sz then some (.elt m sz (lo+i.toNat) 0,[0 ≤ i,i<(len:Int)]) else none
  | some n,.imm (.slice k) xs => if n=k.sz then some (.ielt k ((xs:List k.ty).getD i.toNat k.dflt),[0 ≤ i,i<((xs:List k.ty).length:Int)]) else none
  | some _,.val (.slice none 0 0) => (kindOf P 12 elem).map fun k => (.ielt k (([]:List k.ty).getD i.toNat k.dflt),[0 ≤ i,i<((0:Nat):Int)])
  | some _,.zc => (kindOf P 12 elem).map fun k => (.ielt k (([]:List k.ty).getD i.toNat k.dflt),[0 ≤ i,i<((0:Nat):Int)])
  | _,_ => none
 | some (.array len elem) => match szof P elem,x with
  | some n,.h m => match look H m with
   | some (.box _) => some (.cell m (i.toNat * n),[0 ≤ i,i<(len:Int)])
   | _ => none
  | some n,.cell m o => some (.cell m (o+i.toNat * n),[0 ≤ i,i<(len:Int)])
  | some n,.elt m sz 0 0 => match look H m with
   | some (.row k xs) => if n=sz ∧ sz=k.sz then some (.elt m sz i.toNat 0,[0 ≤ i,i<(len:Int),i<(xs.length:Int)]) else none
   | _ => none
  | _,_ => none
 | _ => none
theorem run_indexAt_slice {t elem:TypeId} {n:Nat} (hu:P.underlying t=some (.slice elem)) (hz:szof P elem=some n) {b off len cap:Nat} {k:IntKind} {i:Int} (h0:0≤i) (h1:i<(len:Int)) (w:World) :
 (Instr.indexAt t (.slice (some ⟨b,off,none⟩) len cap) (.int k i)).run P w=.ok (.pointer (some ⟨b,off+i.toNat * n,none⟩)) w:=by
 simp [Instr.indexAt,asIntOf,run_underlying hu,h0,h1,run_szof hz,Addr.add_lit]
theorem run_indexAt_array {t elem:TypeId} {n:Nat} {len:Nat} (hu:P.underlying t=some (.array len elem)) (hz:szof P elem=some n) {b off:Nat} {k:IntKind} {i:Int} (h0:0≤i) (h1:i<(len:Int)) (w:World) :
 (Instr.indexAt t (.pointer (some ⟨b,off,none⟩)) (.int k i)).run P w=.ok (.pointer (some ⟨b,off+i.toNat * n,none⟩)) w:=by
 simp [Instr.indexAt,asIntOf,run_underlying hu,h0,h1,run_szof hz,Addr.add_lit,Instr.sureAddr]
theorem Ar_hd {O:Nat→Prop} {w:World} {v:Value} {m:Nat} {xs:List aK.ty} {q:Option (Nat×List cK.ty)} (h:ArR O w v m xs q) {i:Int} (h1:0≤i) (h2:i<(xs.length:Int)) :
 ∃ b off cap,hd v=.slice (some ⟨b,off,none⟩) xs.length cap∧xs.length≤cap:=by
 obtain ⟨A,cap,vs,rfl,_,_,_,_,hr⟩:=h
 rcases hr with ⟨_,rfl⟩ | ⟨_,hl,b,off,_,_,rfl,_⟩
 ·simp at h2; omega
 ·exact ⟨b,off,cap,rfl,hl⟩
theorem Sets_hd {w:World} {σ:Nat→Value} {v:Value} {ls:List (List Int)} {last:Option Nat} (h:SetsR w σ v ls last) {i:Int} (h1:0≤i) (h2:i<((ls.length+last.toList.length:Nat):Int)) :
 ∃ b off cap,hd v=.slice (some ⟨b,off,none⟩) (ls.length+last.toList.length) cap∧ls.length+last.toList.length≤cap:=by
 obtain ⟨A,cap,vs,rfl,_,hl0,_,_,hr⟩:=h
 rw [← hl0] at h2 ⊢
 rcases hr with ⟨_,rfl⟩ | ⟨_,hl,b,off,_,_,rfl,_⟩
 ·simp at h2; omega
 ·exact ⟨b,off,cap,rfl,hl⟩
theorem stIndexAddr_sound {C:FC} {σ:Nat→Value} {H:Heap} {w:World} (h:SatW C σ H w) {t:TypeId} {x q:CV} {v:Value} {k:IntKind} {i:Int} {cs:List Prop} (hst:stIndexAddr P H t x i=some (q,cs)) (hc:allP cs)
 (hx:CVr (Ow C.G H σ) w σ x v):∃ u,(Instr.indexAt t v (.int k i)).run P w=.ok u w∧CVr (Ow C.G H σ) w σ q u:=by
 unfold stIndexAddr at hst
 split at hst
 ·rename_i elem hu
  split at hst
  ·rename_i n m hz
   split at hst
   ·rename_i k' xs hm
    split at hst
    ·rename_i hn
     cases hst
     simp only [allP] at hc
     cases hx
     obtain ⟨A,cap,hs,hl,hr⟩:=RowR_reads (h.ent _ (look_mem hm))
     have hi:i.toNat<xs.length:=by omega
     obtain ⟨b,off,c,rfl,hR,hcell⟩:=hr _ hi
     rw [hd_sl hs]
     exact ⟨_,run_indexAt_slice hu hz hc.1 hc.2 w,b,off,_,cap,hd_sl hs,hi,by rw [hn,Nat.add_zero]⟩
    ·cases hst
   ·rename_i ls hm
    split at hst
    ·rename_i hn
     cases hst
     simp only [allP] at hc
     cases hx
     obtain ⟨b,off,cap,hs,hl⟩:=Sets_hd (h.ent _ (look_mem hm)) hc.1 (by simpa using hc.2)
     simp only [Option.toList_none,List.length_nil,Nat.add_zero] at hs
     rw [show hd (σ m)=_ from hs]
     exact ⟨_,run_indexAt_slice hu hz hc.1 hc.2 w,b,off,_,cap,hs,by omega,by rw [hn,Nat.add_zero]⟩
    ·cases hst
   ·rename_i ls m' hm
    split at hst
    ·rename_i hn
     cases hst
     simp only [allP] at hc
     cases hx
     obtain ⟨b,off,cap,hs,hl⟩:=Sets_hd (h.ent _ (look_mem hm)) hc.1 (by simpa using hc.2)
     rw [show hd (σ m)=_ from hs]
     exact ⟨_,run_indexAt_slice hu hz hc.1 hc.2 w,b,off,_,cap,hs,by simp; omega,by rw [hn,Nat.add_zero]⟩
    ·cases hst
   ·rename_i m' xs hm
    split at hst
    ·rename_i hn
     cases hst
     simp only [allP] at hc
     cases hx
     obtain ⟨b,off,cap,hs,hl⟩:=Ar_hd (h.ent _ (look_mem hm)) hc.1 hc.2
     rw [show hd (σ m)=_ from hs]
     exact ⟨_,run_indexAt_slice hu hz hc.1 hc.2 w,b,off,_,cap,hs,by omega,by rw [hn,Nat.add_zero]⟩
    ·cases hst
   ·rename_i xs hm
    split at hst
    ·rename_i hn
     cases hst
     simp only [allP] at hc
     cases hx
     obtain ⟨b,off,cap,hs,hl⟩:=Ar_hd (h.ent _ (look_mem hm)) hc.1 hc.2
     rw [show hd (σ m)=_ from hs]
     exact ⟨_,run_indexAt_slice hu hz hc.1 hc.2 w,b,off,_,cap,hs,by omega,by rw [hn,Nat.add_zero]⟩
    ·cases hst
   ·rename_i i' zs xs hm
    split at hst
    ·rename_i hn
     cases hst
     simp only [allP] at hc
     cases hx
     obtain ⟨b,off,cap,hs,hl⟩:=Ar_hd (And.left (h.ent _ (look_mem hm))) hc.1 hc.2
     rw [show hd (σ m)=_ from hs]
     exact ⟨_,run_indexAt_slice hu hz hc.1 hc.2 w,b,off,_,cap,hs,by omega,by rw [hn,Nat.add_zero]⟩
    ·cases hst
   ·cases hst
  ·rename_i n m sz lo len hz
   split at hst
   ·rename_i hn
    cases hst
    simp only [allP] at hc
    obtain ⟨A,l,cap,A',cap',hs,rfl,hlen,hlo,hcap⟩:=hx
    obtain ⟨_,b,off,rfl,rfl⟩:=hcap (by omega)
    refine ⟨_,run_indexAt_slice hu hz hc.1 hc.2 w,b,off,_,cap,hs,by omega,?_⟩
    rw [hn,Nat.add_mul,Nat.add_zero,Nat.add_assoc]
   ·cases hst
  ·rename_i n k' xs hz
   split at hst
   ·rename_i hn
    cases hst
    simp only [allP] at hc
    simp only [CVr,Kd.R] at hx
    obtain ⟨A,cap,hv,hl,hr⟩:=hx
    simp only [List.cons.injEq,and_true] at hv
    subst hv
    have hi:i.toNat<(xs:List k'.ty).length:=by omega
    obtain ⟨b,off,c,rfl,hb,hR,hcell⟩:=hr _ hi
    refine ⟨_,run_indexAt_slice hu hz hc.1 hc.2 w,b,_,c,rfl,hb,?_,?_⟩
    ·simpa [List.getD,List.getElem?_eq_getElem hi] using hR
    ·rw [hn]; exact hcell
   ·cases hst
  ·obtain ⟨_,_,e⟩:=Option.map_eq_some_iff.1 hst
   cases e
   simp only [allP] at hc
   omega
  ·obtain ⟨_,_,e⟩:=Option.map_eq_some_iff.1 hst
   cases e
   simp only [allP] at hc
   omega
  ·cases hst
 ·rename_i len elem hu
  split at hst
  ·rename_i n m hz
   split at hst
   ·rename_i cs' hm
    cases hst
    simp only [allP] at hc
    cases hx
    obtain ⟨b,c,e,hs,_⟩:=h.ent _ (look_mem hm)
    rw [hs.hd]
    exact ⟨_,run_indexAt_array hu hz hc.1 hc.2 w,b,hs.hd,by simp⟩
   ·cases hst
  ·rename_i n m o hz
   cases hst
   simp only [allP] at hc
   obtain ⟨b,hs,rfl⟩:=hx
   exact ⟨_,run_indexAt_array hu hz hc.1 hc.2 w,b,hs,rfl⟩
  ·rename_i n m sz hz
   split at hst
   ·rename_i k' xs hm
    split at hst
    ·rename_i hn
     obtain ⟨rfl,hn⟩:=hn
     cases hst
     simp only [allP] at hc
     obtain ⟨b,off,l,cap,hs,hl,rfl⟩:=hx
     obtain ⟨A,cap2,hs2,_⟩:=h.ent _ (look_mem hm)
     have hs3:hd (σ m)=.slice A xs.length cap2:=hd_sl hs2
     rw [hs] at hs3
     injection hs3 with h1 h2 h3
     refine ⟨_,run_indexAt_array hu hz hc.1 hc.2.1 w,b,off,l,cap,hs,by omega,by simp⟩
    ·cases hst
   ·cases hst
  ·cases hst
 ·cases hst
def cut2 (n:Nat) (lo hi:Option Int):Nat×Nat×List Prop:=
 match lo,hi with
 | none,none => (0,n,[])
 | some l,none => (l.toNat,n,[0 ≤ l,l ≤ n])
 | none,some h => (0,h.toNat,[0 ≤ h,h ≤ n])
 | some l,some h => (l.toNat,h.toNat,[0 ≤ l,l ≤ h,h ≤ n])
theorem cut2_le {n:Nat} {lo hi:Option Int} (h:allP (cut2 n lo hi).2.2):(cut2 n lo hi).1≤(cut2 n lo hi).2.1∧(cut2 n lo hi).2.1≤n:=by
 cases lo <;> cases hi <;> simp only [cut2,allP] at h ⊢ <;> omega
theorem run_sliceBounds {n cap:Nat} (hcap:n≤cap) {lo hi:Option Int} {kl kh:IntKind} (h:allP (cut2 n lo hi).2.2) (isSlice:Bool) (w:World) :
 (Instr.sliceBounds isSlice n cap (lo.map (Value.int kl)) (hi.map (Value.int kh)) none).run P w=.ok ((cut2 n lo hi).1,(cut2 n lo hi).2.1,cap) w:=by
 have key:∀ (k:IntKind) (i:Int) (y:Nat) (code:BoundsCode),0≤i→i≤(y:Int)→(Instr.sliceBound (.int k i) y code).run P w=.ok i.toNat w:=by
  intro k i y code h0 h1
  simp [Instr.sliceBound,asIntOf,h0,h1]
 cases lo <;> cases hi <;> simp only [cut2,allP] at h ⊢
 ·simp [Instr.sliceBounds]
 ·rename_i hh
  simp [Instr.sliceBounds,key kh hh cap _ h.1 (by omega)]
 ·rename_i l
  simp [Instr.sliceBounds,key kl l n _ h.1 h.2]
 ·rename_i l hh
  simp [Instr.sliceBounds,key kh hh cap _ (by omega) (by omega),key kl l hh.toNat _ h.1 (by omega)]
def takeDrop {α:Type} (xs:List α) (lo hi:Option Int):List α:=
 match lo,hi with
 | none,none => xs
 | some l,none => xs.drop l.toNat
 | none,some h => xs.take h.toNat
 | some l,some h => (xs.take h.toNat).drop l.toNat
theorem takeDrop_eq {α:Type} {xs:List α} {lo hi:Option Int} (h:allP (cut2 xs.length lo hi).2.2) :
 takeDrop xs lo hi=(xs.drop (cut2 xs.length lo hi).1).take ((cut2 xs.length lo hi).2.1 - (cut2 xs.length lo hi).1):=by
 cases lo <;> cases hi <;> simp only [cut2,allP,takeDrop] at h ⊢
 ·simp
 ·simp
 ·rename_i l
  rw [List.take_of_length_le (by simp)]
 ·rw [List.drop_take]
def stSlice (P:Program) (H:Heap) (t:TypeId) (x:CV) (lo hi:Option Int):Option (CV×List Prop):=
 match P.underlying t,x with
 | some .string,.val (.string s) => some (.val (.string (s.extract (cut2 s.size lo hi).1 (cut2 s.size lo hi).2.1)),(cut2 s.size lo hi).2.2)
 | some (.slice elem),.h m => match look H m with
  | some (.row k xs) => if szof P elem=some k.sz then some (.sub m k.sz (cut2 xs.length lo hi).1 ((cut2 xs.length lo hi).2.1 - (cut2 xs.length lo hi).1),(cut2 xs.length lo hi).2.2) else none
  | _ => none
 | some (.slice elem),.sub m sz l len => if szof P elem=some sz then some (.sub m sz (l+(cut2 len lo hi).1) ((cut2 len lo hi).2.1 - (cut2 len lo hi).1),(cut2 len lo hi).2.2) else none
 | some (.slice elem),.imm (.slice k) xs => if szof P elem=some k.sz then some (.imm (.slice k) (takeDrop (α := k.ty) xs lo hi),(cut2 (xs:List k.ty).length lo hi).2.2) else none
 | some (.slice elem),.val (.slice none 0 0) => if (szof P elem).isSome then some (.zc,(cut2 0 lo hi).2.2) else none
 | some (.slice elem),.zc => if (szof P elem).isSome then some (.zc,(cut2 0 lo hi).2.2) else none
 | some (.array len elem),.elt m sz 0 0 => match look H m,lo,hi with
  | some (.row _ xs),none,none => if szof P elem=some sz ∧ 0<len then some (.sub m sz 0 len,[(len:Int) ≤ (xs.length:Int)]) else none
  | _,_,_ => none
 | _,_ => none
theorem run_slice_array {t elem:TypeId} {sz n:Nat} (hu:P.underlying t=some (.array n elem)) (hz:szof P elem=some sz) (hn:0<n) {b off:Nat} (w:World) :
 (Instr.sliceAt t (.pointer (some ⟨b,off,none⟩)) none none none).run P w=.ok (.slice (some ⟨b,off,none⟩) n n) w:=by
 have h0:¬ n=0:=by omega
 simp [Instr.sliceAt,run_underlying hu,Instr.sureAddr,Instr.sliceBounds,run_szof hz,h0,Addr.add_lit]
theorem run_slice_slice {t elem:TypeId} {sz:Nat} (hu:P.underlying t=some (.slice elem)) (hz:szof P elem=some sz) {A:Option Addr} {n cap:Nat} (hcap:n≤cap) {lo hi:Option Int} {kl kh:IntKind}
 (h:allP (cut2 n lo hi).2.2) (w:World):(Instr.sliceAt t (.slice A n cap) (lo.map (Value.int kl)) (hi.map (Value.int kh)) none).run P w =
  .ok (.slice (if cap=(cut2 n lo hi).1 then A else A.map (·.add ((cut2 n lo hi).1 * sz))) ((cut2 n lo hi).2.1 - (cut2 n lo hi).1) (cap - (cut2 n lo hi).1)) w:=by
 simp [Instr.sliceAt,run_underlying hu,Instr.slice,run_sliceBounds hcap h,run_szof hz]
theorem run_slice_string {t:TypeId} (hu:P.underlying t=some .string) {s:ByteArray} {lo hi:Option Int} {kl kh:IntKind} (h:allP (cut2 s.size lo hi).2.2) (w:World) :
 (Instr.sliceAt t (.string s) (lo.map (Value.int kl)) (hi.map (Value.int kh)) none).run P w=.ok (.string (s.extract (cut2 s.size lo hi).1 (cut2 s.size lo hi).2.1)) w:=by
 simp [Instr.sliceAt,run_underlying hu,Instr.slice,run_sliceBounds (Nat.le_refl _) h]
theorem stSlice_sound {C:FC} {σ:Nat→Value} {H:Heap} {w:World} (h:SatW C σ H w) {t:TypeId} {x q:CV} {v:Value} {kl kh:IntKind} {lo hi:Option Int} {cs:List Prop} (hst:stSlice P H t x lo hi=some (q,cs)) (hc:allP cs)
 (hx:CVr (Ow C.G H σ) w σ x v):∃ u,(Instr.sliceAt t v (lo.map (Value.int kl)) (hi.map (Value.int kh)) none).run P w=.ok u w∧CVr (Ow C.G H σ) w σ q u:=by
 unfold stSlice at hst
 split at hst
 ·rename_i s hu
  cases hst
  cases hx
  exact ⟨_,run_slice_string hu hc w,rfl⟩
 ·rename_i elem m hu
  split at hst
  ·rename_i k xs hm
   split at hst
   ·rename_i hz
    cases hst
    cases hx
    obtain ⟨A,cap,hs,hrr⟩:=h.ent _ (look_mem hm)
    have hl:xs.length≤cap:=by
     rcases hrr with ⟨rfl,rfl⟩ | ⟨_,hl,_⟩
     ·exact Nat.le_refl _
     ·exact hl
    have hcut:=cut2_le hc
    rw [hd_sl hs]
    refine ⟨_,run_slice_slice hu hz hl hc w,A,_,cap,_,_,hd_sl hs,rfl,by omega,by omega,fun hp=>⟨by omega,?_⟩⟩
    rcases hrr with ⟨rfl,rfl⟩ | ⟨_,_,b,off,c,e,rfl,_⟩
    ·omega
    ·refine ⟨b,off,rfl,?_⟩
     rw [if_neg (by omega)]
     simp [Addr.add_lit]
   ·cases hst
  ·cases hst
 ·rename_i elem m sz l len hu
  split at hst
  ·rename_i hz
   cases hst
   obtain ⟨A,n,cap,A',cap',hs,rfl,hlen,hlo,hcap⟩:=hx
   have hcut:=cut2_le hc
   refine ⟨_,run_slice_slice hu hz hlen hc w,A,n,cap,_,_,hs,rfl,by omega,by omega,fun hp=>?_⟩
   obtain ⟨h1,b,off,rfl,rfl⟩:=hcap (by omega)
   refine ⟨by omega,b,off,rfl,?_⟩
   rw [if_neg (by omega)]
   simp [Addr.add_lit,Nat.add_mul,Nat.add_assoc]
  ·cases hst
 ·rename_i elem k xs hu
  split at hst
  ·rename_i hz
   cases hst
   simp only [CVr,Kd.R] at hx
   obtain ⟨A,cap,hv,hl,hr⟩:=hx
   simp only [List.cons.injEq,and_true] at hv
   subst hv
   have hcut:=cut2_le hc
   refine ⟨_,run_slice_slice hu hz hl hc w,?_⟩
   simp only [CVr,Kd.R]
   rw [takeDrop_eq hc]
   have hlen:(((xs:List k.ty).drop (cut2 (xs:List k.ty).length lo hi).1).take ((cut2 (xs:List k.ty).length lo hi).2.1 - (cut2 (xs:List k.ty).length lo hi).1)).length=(cut2 (xs:List k.ty).length lo hi).2.1 - (cut2 (xs:List k.ty).length lo hi).1:=by
    simp; omega
   refine ⟨_,_,by rw [hlen],by rw [hlen]; omega,fun i hi'=>?_⟩
   rw [hlen] at hi'
   obtain ⟨b,off,c,rfl,hb,hR,hcell⟩:=hr ((cut2 (xs:List k.ty).length lo hi).1+i) (by omega)
   refine ⟨b,off+(cut2 (xs:List k.ty).length lo hi).1 * k.sz,c,?_,hb,?_,fun j hj=>?_⟩
   ·rw [if_neg (by omega)]
    simp [Addr.add_lit]
   ·simpa using hR
   ·rw [← hcell j hj]
    congr 2
    rw [Nat.add_mul]
    omega
  ·cases hst
 ·rename_i elem hu
  split at hst
  ·rename_i hz
   obtain ⟨sz,hz⟩:=Option.isSome_iff_exists.1 hz
   cases hst
   cases hx
   have hcut:=cut2_le hc
   have:=run_slice_slice (P:=P) (kl:=kl) (kh:=kh) hu hz (A:=none) (Nat.le_refl 0) hc w
   rw [show (cut2 0 lo hi).2.1 - (cut2 0 lo hi).1=0 by omega,show 0 - (cut2 0 lo hi).1=0 by omega] at this
   exact ⟨_,this,_,rfl⟩
  ·cases hst
 ·rename_i elem hu
  split at hst
  ·rename_i hz
   obtain ⟨sz,hz⟩:=Option.isSome_iff_exists.1 hz
   cases hst
   obtain ⟨A,rfl⟩:=hx
   have hcut:=cut2_le hc
   have:=run_slice_slice (P:=P) (kl:=kl) (kh:=kh) hu hz (A:=A) (Nat.le_refl 0) hc w
   rw [show (cut2 0 lo hi).2.1 - (cut2 0 lo hi).1=0 by omega,show 0 - (cut2 0 lo hi).1=0 by omega] at this
   exact ⟨_,this,_,rfl⟩
  ·cases hst
 ·rename_i len elem m sz hu
  split at hst
  ·rename_i k' xs hm
   split at hst
   ·rename_i hz
    obtain ⟨hz,hn⟩:=hz
    cases hst
    simp only [allP] at hc
    obtain ⟨b,off,l,cap,hs,hl,rfl⟩:=hx
    obtain ⟨A,cap2,hs2,hr⟩:=h.ent _ (look_mem hm)
    have hs3:hd (σ m)=.slice A xs.length cap2:=hd_sl hs2
    have hcap:xs.length≤cap2:=by
     rcases hr with ⟨rfl,rfl⟩ | ⟨_,hle,_⟩
     ·exact Nat.le_refl _
     ·exact hle
    rw [hs] at hs3
    injection hs3 with h1 h2 h3
    refine ⟨_,run_slice_array hu hz hn w,some ⟨b,off,none⟩,l,cap,some ⟨b,off+0 * sz+0,none⟩,len,hs,rfl,Nat.le_refl _,by omega,fun _=>⟨by omega,b,off,rfl,by simp⟩⟩
   ·cases hst
  ·cases hst
 ·cases hst
theorem run_slice_zero {t elem:TypeId} {sz:Nat} (hu:P.underlying t=some (.slice elem)) (hz:szof P elem=some sz) {A:Option Addr} {n cap:Nat} {kh km:IntKind} (w:World) :
 (Instr.sliceAt t (.slice A n cap) none (some (.int kh 0)) (some (.int km 0))).run P w=.ok (.slice A 0 0) w:=by
 simp [Instr.sliceAt,run_underlying hu,Instr.slice,Instr.sliceBounds,Instr.sliceBound,asIntOf,run_szof hz]
def ofBytes (xs:List Int):ByteArray:=⟨(xs.map fun n=>UInt8.ofNat n.toNat).toArray⟩
theorem foldl_bytes (xs:List Int) (s:ByteArray):xs.foldl (fun r n=>r.push (UInt8.ofNat n.toNat)) s=⟨s.data++(xs.map fun n=>UInt8.ofNat n.toNat).toArray⟩:=by
 induction xs generalizing s with
 | nil => simp
 | cons n xs ih =>
   rw [List.foldl_cons,ih]
   congr 1
   show s.data.push _++_=_
   apply Array.ext'
   simp
theorem run_bytes_string {O:Nat→Prop} {w:World} {ik:IntKind} (hik:ik=.u8) {A:Option Addr} {cap:Nat} {xs:List Int} (h:Reads O w (.int ik) A xs) :
 (Conv.bytesToString (.slice A xs.length cap)).run P w=.ok (.string (ofBytes xs)) w:=by
 subst hik
 cases xs with
 | nil =>
   cases A with
   | none => simp [Conv.bytesToString,ofBytes]; rfl
   | some a =>
     have hl:(loadCells a 0).run P w=.ok #[] w:=by simp [loadCells,loadCellsFrom]
     have:=run_bytesToString (P:=P) w a 0 cap [] (by simpa using hl)
     exact this
 | cons x xs =>
   obtain ⟨b,off,c,rfl,_,_⟩:=h 0 (by simp)
   have hl:=run_loadCells_list (P:=P) w ⟨b,off,none⟩ ((x :: xs).map (Value.int .u8)) (fun j v hv=>by
    rw [List.getElem?_map] at hv
    obtain ⟨n,hn,rfl⟩:=Option.map_eq_some_iff.1 hv
    obtain ⟨hj,hn⟩:=List.getElem?_eq_some_iff.1 hn
    obtain ⟨b',off',c',e,hR,hcell⟩:=h j hj
    injection e with e
    injection e with e1 e2 _
    subst e1 e2
    have h0:=hcell 0 (by simp [Kd.sz])
    simp only [Kd.R] at hR
    subst hR
    rw [Addr.add_lit]
    simp only [Kd.sz,Nat.mul_one,Nat.add_zero,List.getElem?_cons_zero] at h0
    rw [h0]
    simp [← hn])
   rw [List.length_map] at hl
   rw [run_bytesToString w ⟨b,off,none⟩ _ cap (x :: xs) hl,foldl_bytes]
   simp [ofBytes,ByteArray.empty,ByteArray.emptyWithCapacity]
   rfl
end
end Go.Pal
namespace Go.Pal
open Go
section
variable {P:Program}
def eqOne (d:Option TypeDesc):CV→CV→Option Bool
 | .val (.int k a),.val (.int k' b) => match d with
  | some (.int _) => if k=k' then some (a == b) else none
  | _ => none
 | .val (.string a),.val (.string b) => match d with
  | some .string => some (a.toList == b.toList)
  | _ => none
 | .val (.bool a),.val (.bool b) => match d with
  | some .bool => some (a == b)
  | _ => none
 | _,_ => none
theorem eqOne_sound {O:Nat→Prop} {w:World} {σ:Nat→Value} {t:TypeId} {x y:CV} {b:Bool} {u v:Value} (h:eqOne (P.underlying t) x y=some b) (hx:CVr O w σ x u) (hy:CVr O w σ y v) (d:Nat) :
 (Op.equalIn (d+1) t u v).run P w=.ok b w:=by
 unfold eqOne at h
 split at h
 ·split at h
  ·rename_i k' hu
   split at h
   ·rename_i e
    subst e
    cases h; cases hx; cases hy
    exact run_equalIn_int w d t _ _ _ _ hu
   ·cases h
  ·cases h
 ·split at h
  ·rename_i hu
   cases h; cases hx; cases hy
   exact run_equalIn_string w d t _ _ hu
  ·cases h
 ·split at h
  ·rename_i hu
   cases h; cases hx; cases hy
   exact run_equalIn_bool' w d t _ _ hu
  ·cases h
 ·cases h
def eqField (P:Program) (xs ys:List CV) (f:Field):Option Bool:=
 if f.name = "_" then none else
 match aggB P f.type,xs[f.offset]?,ys[f.offset]? with
 | some false,some x,some y => eqOne (P.underlying f.type) x y
 | _,_,_ => none
def eqFieldsS (P:Program) (xs ys:List CV):List Field→Option Bool
 | [] => some true
 | [f] => eqField P xs ys f
 | f :: g :: fs => match eqField P xs ys f,eqFieldsS P xs ys (g :: fs) with
     | some a,some b => some (a && b)
     | _,_ => none
theorem eqField_run {O:Nat→Prop} {w:World} {σ:Nat→Value} {xs ys:List CV} {us vs:List Value} {f:Field} {b:Bool} (h:eqField P xs ys f=some b) (hx:CVs O w σ xs us) (hy:CVs O w σ ys vs) (d:Nat) (fs:List Field) :
 (Op.eqFields (d+1) us.toArray vs.toArray (f :: fs)).run P w=if b then (Op.eqFields (d+1) us.toArray vs.toArray fs).run P w else .ok false w:=by
 unfold eqField at h
 split at h
 ·cases h
 ·rename_i hn
  split at h
  ·rename_i x y ha hxo hyo
   obtain ⟨u,hu,hru⟩:=CVs_get hx hxo
   obtain ⟨v,hv,hrv⟩:=CVs_get hy hyo
   have he:=eqOne_sound (P:=P) h hru hrv d
   have hpu:(part f.type us.toArray f.offset).run P w=.ok u w:=by simp [part,run_aggB ha,hu]
   have hpv:(part f.type vs.toArray f.offset).run P w=.ok v w:=by simp [part,run_aggB ha,hv]
   simp only [Op.eqFields]
   rw [if_pos (by simpa using hn)]
   simp only [Sem.run_bind,hpu,hpv,Result.andThen_ok,he]
   cases b <;> simp
  ·cases h
theorem eqFieldsS_sound {O:Nat→Prop} {w:World} {σ:Nat→Value} {xs ys:List CV} {us vs:List Value} (hx:CVs O w σ xs us) (hy:CVs O w σ ys vs) (d:Nat):∀ {fs:List Field} {b:Bool},eqFieldsS P xs ys fs=some b→
 (Op.eqFields (d+1) us.toArray vs.toArray fs).run P w=.ok b w
 | [],b,h => by cases h; simp [Op.eqFields]
 | [f],b,h => by
   rw [eqField_run h hx hy d []]
   cases b <;> simp [Op.eqFields]
 | f :: g :: fs,b,h => by
   simp only [eqFieldsS] at h
   split at h
   ·rename_i a b' h1 h2
    cases h
    rw [eqField_run h1 hx hy d,eqFieldsS_sound hx hy d h2]
    cases a <;> simp
   ·cases h
def eqStruct (P:Program) (t:TypeId) (xs ys:List CV):Option Bool:=
 if P.eqGuardType P.depth t=false∧P.stoodInHeld t=false then
  match P.underlying t with
  | some (.struct fs) => eqFieldsS P xs ys fs.toList
  | _ => none
 else none
theorem eqStruct_sound {O:Nat→Prop} {w:World} {σ:Nat→Value} {t:TypeId} {xs ys:List CV} {us vs:List Value} {b:Bool} (h:eqStruct P t xs ys=some b) (hx:CVs O w σ xs us) (hy:CVs O w σ ys vs) :
 (Op.equalIn 10000 t (.agg us.toArray) (.agg vs.toArray)).run P w=.ok b w∧P.eqGuardType P.depth t=false:=by
 unfold eqStruct at h
 split at h
 ·rename_i hg
  split at h
  ·rename_i fs hu
   have e:P.fieldsOf t=fs:=by simp [Program.fieldsOf,hu]
   refine ⟨?_,hg.1⟩
   rw [run_equalIn_struct w 9999 t us.toArray vs.toArray (by rw [e]; exact hu) hg.2,e]
   exact eqFieldsS_sound hx hy 9998 h
  ·cases h
 ·cases h
theorem run_ptr_nil {t e:TypeId} (hu:P.underlying t=some (.pointer e)) (A:Option Addr) (d:Nat) (w:World) :
 (Op.equalIn (d+1) t (.pointer A) (.pointer none)).run P w=.ok A.isNone w∧(Op.equalIn (d+1) t (.pointer none) (.pointer A)).run P w=.ok A.isNone w:=by
 cases A <;> simp [Op.equalIn,run_underlying hu]
theorem run_eqGuard_ptr (op:BinOp) (t:TypeId) (x y:Operand) (A B:Option Addr) (w:World):(eqGuard op t x y (.pointer A) (.pointer B)).run P w=.ok () w:=by
 cases op <;> simp [eqGuard]
theorem run_binOp_ptr (t:TypeId) (A B:Option Addr) (b:Bool) (w:World) (h:(Op.equalIn 10000 t (.pointer A) (.pointer B)).run P w=.ok b w) :
 (binOp .eql t (.pointer A) (.pointer B)).run P w=.ok (.bool b) w∧(binOp .neq t (.pointer A) (.pointer B)).run P w=.ok (.bool (!b)) w:=by
 constructor <;> simp [binOp,Op.equal,Op.maxDepth,h]
def ptrTy (P:Program) (t:TypeId):Bool:=
 match P.underlying t with
 | some (.pointer _) => true
 | _ => false
def ptrOp (P:Program) (H:Heap) (op:BinOp) (t:TypeId) (x y:CV):Option Ans:=
 if ptrTy P t then
  match isNilP H x,isNilP H y,op with
  | some a,some true,.eql => some (vBool a,[])
  | some a,some true,.neq => some (vBool (!a),[])
  | some true,some b,.eql => some (vBool b,[])
  | some true,some b,.neq => some (vBool (!b),[])
  | _,_,_ => none
 else none
theorem ptrOp_sound {C:FC} {σ:Nat→Value} {H:Heap} {w:World} (h:SatW C σ H w) {op:BinOp} {t:TypeId} {x y:CV} {u v:Value} {s:SV} {cs:List Prop} (ho:ptrOp P H op t x y=some (s,cs))
 (hx:CVr (Ow C.G H σ) w σ x u) (hy:CVr (Ow C.G H σ) w σ y v) (ox oy:Operand) :
 ∃ r,s=.c (.val r)∧(eqGuard op t ox oy u v).run P w=.ok () w∧(binOp op t u v).run P w=.ok r w:=by
 unfold ptrOp at ho
 split at ho
 ·rename_i ht
  obtain ⟨e,hu⟩:∃ e,P.underlying t=some (.pointer e):=by
   unfold ptrTy at ht
   split at ht
   ·exact ⟨_,by assumption⟩
   ·cases ht
  split at ho <;> first
   | (cases ho; done)
   | (rename_i h1 h2
      obtain ⟨A,rfl,hA⟩:=isNilP_sound h h1 hx
      obtain ⟨B,rfl,hB⟩:=isNilP_sound h h2 hy
      cases ho
      first
       | (have e:B=none := by simpa using hB
          subst e
          have:=run_binOp_ptr t A none _ w (run_ptr_nil hu A 9999 w).1
          exact ⟨_,rfl,run_eqGuard_ptr _ t ox oy A none w,by first | (rw [← hA]; exact this.1) | (rw [← hA]; exact this.2)⟩)
       | (have e:A=none := by simpa using hA
          subst e
          have:=run_binOp_ptr t none B _ w (run_ptr_nil hu B 9999 w).2
          exact ⟨_,rfl,run_eqGuard_ptr _ t ox oy none B w,by first | (rw [← hB]; exact this.1) | (rw [← hB]; exact this.2)⟩))
 ·cases ho
def nilsOp (P:Program) (op:BinOp) (t:TypeId):Option Ans:=
 match P.underlying t,op with
 | some (.slice _),.eql => some (vBool true,[])
 | some (.slice _),.neq => some (vBool false,[])
 | _,_ => none
theorem run_nils {w:World} {n:Nat} {t e:TypeId} (hu:P.underlying t=some (.slice e)):(Op.equalIn (n+1) t (.slice none 0 0) (.slice none 0 0)).run P w=.ok true w:=by
 simp [Op.equalIn,run_underlying hu]
theorem run_binOp_nils (t:TypeId) (b:Bool) (w:World) (h:(Op.equalIn 10000 t (.slice none 0 0) (.slice none 0 0)).run P w=.ok b w) :
 (binOp .eql t (.slice none 0 0) (.slice none 0 0)).run P w=.ok (.bool b) w∧(binOp .neq t (.slice none 0 0) (.slice none 0 0)).run P w=.ok (.bool (!b)) w:=by
 constructor <;> simp [binOp,Op.equal,Op.maxDepth,h]
theorem nilsOp_sound {op:BinOp} {t:TypeId} {s:SV} {cs:List Prop} (ho:nilsOp P op t=some (s,cs)) (ox oy:Operand) (w:World) :
 ∃ r,s=.c (.val r)∧(eqGuard op t ox oy (.slice none 0 0) (.slice none 0 0)).run P w=.ok () w∧(binOp op t (.slice none 0 0) (.slice none 0 0)).run P w=.ok r w:=by
 unfold nilsOp at ho
 split at ho
 ·rename_i hu
  cases ho
  exact ⟨_,rfl,by simp [eqGuard],(run_binOp_nils t true w (run_nils (n:=9999) hu)).1⟩
 ·rename_i hu
  cases ho
  exact ⟨_,rfl,by simp [eqGuard],(run_binOp_nils t true w (run_nils (n:=9999) hu)).2⟩
 ·cases ho
def stBinOp (P:Program) (H:Heap) (op:BinOp) (t:TypeId) (x y:SV):Option Ans:=
 match x,y with
 | .c (.val (.int k a)),.c (.val (.int k' b)) => intOp op k k' a b
 | .c (.val (.string a)),.c (.val (.string b)) => strOp op a b
 | .c (.val (.bool a)),.c (.val (.bool b)) => boolOp P op t a b
 | .c (.val (.slice none 0 0)),.c (.val (.slice none 0 0)) => nilsOp P op t
 | .c x,.c y => ptrOp P H op t x y
 | .agg xs,.agg ys => match op,eqStruct P t xs ys with
  | .eql,some b => some (vBool b,[])
  | .neq,some b => some (vBool (!b),[])
  | _,_ => none
 | _,_ => none
theorem stBinOp_sound {C:FC} {σ:Nat→Value} {H:Heap} {w:World} (h:SatW C σ H w) {op:BinOp} {t:TypeId} {x y:SV} {u v:Value} {s:SV} {cs:List Prop} (ho:stBinOp P H op t x y=some (s,cs)) (hc:allP cs)
 (hx:SVr (Ow C.G H σ) w σ x u) (hy:SVr (Ow C.G H σ) w σ y v) (ox oy:Operand) :
 ∃ r,(do eqGuard op t ox oy u v; binOp op t u v:Sem Value).run P w=.ok r w∧SVr (Ow C.G H σ) w σ s r:=by
 unfold stBinOp at ho
 split at ho
 ·cases hx; cases hy
  obtain ⟨r,rfl,hr⟩:=intOp_sound (P:=P) ho hc t w
  exact ⟨r,by simp [run_eqGuard_int,hr],rfl⟩
 ·cases hx; cases hy
  obtain ⟨r,rfl,hr⟩:=strOp_sound (P:=P) ho hc t w
  exact ⟨r,by simp [run_eqGuard_str,hr],rfl⟩
 ·cases hx; cases hy
  obtain ⟨r,rfl,hg,hr⟩:=boolOp_sound ho ox oy w
  exact ⟨r,by simp [hg,hr],rfl⟩
 ·cases hx; cases hy
  obtain ⟨r,rfl,hg,hr⟩:=nilsOp_sound (P:=P) ho ox oy w
  exact ⟨r,by simp [hg,hr],rfl⟩
 ·obtain ⟨r,rfl,hg,hr⟩:=ptrOp_sound h ho hx hy ox oy
  exact ⟨r,by simp [hg,hr],rfl⟩
 ·obtain ⟨us,rfl,hus⟩:=hx
  obtain ⟨vs,rfl,hvs⟩:=hy
  split at ho
  ·rename_i b hb
   cases ho
   obtain ⟨hr,hg⟩:=eqStruct_sound hb hus hvs
   exact ⟨_,by simp [run_eqGuard_agg w _ t ox oy _ _ hg,run_eql_struct,hr],rfl⟩
  ·rename_i b hb
   cases ho
   obtain ⟨hr,hg⟩:=eqStruct_sound hb hus hvs
   exact ⟨_,by simp [run_eqGuard_agg w _ t ox oy _ _ hg,run_neq_struct,hr],rfl⟩
  ·cases ho
 ·cases ho
def stUnOp (op:UnOp) (x:CV):Option CV:=
 match op,x with
 | .neg,.val (.int k n) => some (.val (.int k (k.wrap (0 - n))))
 | .not,.val (.bool b) => some (.val (.bool (!b)))
 | _,_ => none
theorem stUnOp_sound {O:Nat→Prop} {σ:Nat→Value} {w:World} {op:UnOp} {x y:CV} {v:Value} (h:stUnOp op x=some y) (hx:CVr O w σ x v):∃ u,(Op.unary op v).run P w=.ok u w∧CVr O w σ y u:=by
 unfold stUnOp at h
 split at h
 ·cases h; cases hx; exact ⟨_,by simp [Op.unary,Op.intArith],rfl⟩
 ·cases h; cases hx; exact ⟨_,by simp [Op.unary],rfl⟩
 ·cases h
def stConvert (P:Program) (H:Heap) (src dst:TypeId) (x:CV):Option CV:=
 match P.underlying src,P.underlying dst with
 | some (.int _),some (.int k) => match x with
  | .val (.int _ n) => some (.val (.int k (k.wrap n)))
  | _ => none
 | some .string,some .string => match x with
  | .val (.string s) => some (.val (.string s))
  | _ => none
 | some (.int _),some .string => match x with
  | .val (.int _ n) => some (.val (.string (Utf8.encode n)))
  | _ => none
 | some (.slice e),some .string => match P.underlying e,content H (.int .u8) x with
  | some (.int .u8),some xs => some (.val (.string (ofBytes xs)))
  | _,_ => none
 | _,_ => none
theorem stConvert_sound {C:FC} {σ:Nat→Value} {H:Heap} {w:World} (h:SatW C σ H w) {src dst:TypeId} {x y:CV} {v:Value} (hs:stConvert P H src dst x=some y) (hx:CVr (Ow C.G H σ) w σ x v) :
 ∃ u,(convert src dst v).run P w=.ok u w∧CVr (Ow C.G H σ) w σ y u:=by
 unfold stConvert at hs
 split at hs
 ·rename_i h1 h2
  split at hs
  ·cases hs; cases hx; exact ⟨_,by simp [convert,run_underlying h1,run_underlying h2,Conv.intToInt],rfl⟩
  ·cases hs
 ·rename_i h1 h2
  split at hs
  ·cases hs; cases hx; exact ⟨_,by simp [convert,run_underlying h1,run_underlying h2],rfl⟩
  ·cases hs
 ·rename_i h1 h2
  split at hs
  ·cases hs; cases hx; exact ⟨_,by simp [convert,run_underlying h1,run_underlying h2,Conv.intToString],rfl⟩
  ·cases hs
 ·rename_i e h1 h2
  split at hs
  ·rename_i xs he hc
   cases hs
   obtain ⟨A,cap,rfl,_,hr⟩:=content_sound h hc hx
   exact ⟨_,by rw [run_convert_bytes_string w src dst e A _ cap h1 he h2]; exact run_bytes_string rfl hr,rfl⟩
  ·cases hs
 ·cases hs
def stNilCheck (H:Heap) (x:CV):Option (CV×List Prop):=
 match x with
 | .h m => match look H m with
  | some (.box _) | some (.abox _ _ _ _) => some (.h m,[])
  | _ => none
 | .imm (.opt k) y => some (.ielt k ((y:Option k.ty).getD k.dflt),[(y:Option k.ty).isSome=true])
 | .cell m o => some (.cell m o,[])
 | .elt m sz i o => some (.elt m sz i o,[])
 | .ielt k y => some (.ielt k y,[])
 | .clo f c => some (.clo f c,[])
 | _ => none
def nilChecked (v:Value):Sem Next:=
 match v with
 | .pointer none | .nilIface | .nilFunc => runtimePanic .nilDeref
 | .func (.method name) first captured =>
   match (first[0]?:Option Value) with
   | some .nilIface => runtimePanic .nilDeref
   | some (.iface t w) => do
     if (← nilAhead ((← program).types.size+Made.depth) t w name) !=some false then
      unsupported (.noEntry "op/nilCheck.the method's receiver behind this interface value is a nil pointer, or cannot be seen to be none, and the arguments act or may panic (ledger 612)")
     pure (.value (.func (.method name) first captured))
   | _ => pure (.value (.func (.method name) first captured))
 | x => pure (.value x)
theorem stNilCheck_sound {C:FC} {σ:Nat→Value} {H:Heap} {w:World} (h:SatW C σ H w) {x y:CV} {v:Value} {cs:List Prop} (hs:stNilCheck H x=some (y,cs)) (hc:allP cs) (hx:CVr (Ow C.G H σ) w σ x v) :
 (nilChecked v).run P w=.ok (.value v) w∧CVr (Ow C.G H σ) w σ y v:=by
 unfold stNilCheck at hs
 split at hs
 ·rename_i m
  split at hs
  ·rename_i cs hm
   cases hs
   obtain ⟨b,c,e,hb,_⟩:=h.ent _ (look_mem hm)
   refine ⟨?_,hx⟩
   cases hx
   rw [hb.hd]
   rfl
  ·rename_i hm
   cases hs
   obtain ⟨_,b,c,e,hb,_⟩:=h.ent _ (look_mem hm)
   refine ⟨?_,hx⟩
   cases hx
   rw [hb.hd]
   rfl
  ·cases hs
 ·rename_i k y
  cases hs
  simp only [allP] at hc
  obtain ⟨z,rfl⟩:=Option.isSome_iff_exists.1 hc
  simp only [CVr,Kd.R] at hx
  obtain ⟨b,off,c,hv,hb,hR,hcell⟩:=hx
  simp only [List.cons.injEq,and_true] at hv
  subst hv
  exact ⟨rfl,b,off,c,rfl,hb,hR,hcell⟩
 ·cases hs
  refine ⟨?_,hx⟩
  obtain ⟨b,_,rfl⟩:=hx
  rfl
 ·cases hs
  refine ⟨?_,hx⟩
  obtain ⟨_,_,_,_,_,_,rfl⟩:=hx
  rfl
 ·cases hs
  refine ⟨?_,hx⟩
  obtain ⟨_,_,_,rfl,_⟩:=hx
  rfl
 ·cases hs
  refine ⟨?_,hx⟩
  cases hx
  rfl
 ·cases hs
def mx2 (x y:Int):Int:=if y > x then y else x
def mn2 (x y:Int):Int:=if y<x then y else x
def intsOf (k:IntKind) (Γ:Env):List Operand→Option (List Int)
 | [] => some []
 | x :: xs => match evi Γ x with
     | some (k',n) => if k'=k then (intsOf k Γ xs).map (n :: ·) else none
     | none => none
theorem intsOf_sound {C:FC} {σ:Nat→Value} {H:Heap} {w:World} {Γ:Env} {a:Act} (hE:EnvR C σ H w Γ a) {k:IntKind}:∀ {xs:List Operand} {ns:List Int},intsOf k Γ xs=some ns→xs.map a.eval=ns.map (Value.int k)
 | [],ns,h => by cases h; rfl
 | x :: xs,ns,h => by
   simp only [intsOf] at h
   split at h
   ·rename_i k' n he
    split at h
    ·rename_i e
     subst e
     simp only [Option.map_eq_some_iff] at h
     obtain ⟨ms,hms,rfl⟩:=h
     simp [evi_sound hE he,intsOf_sound hE hms]
    ·cases h
   ·cases h
theorem fold_max (k:IntKind) (w:World):∀ (ns:List Int) (x:Int),(List.foldlM Builtin.max2 (.int k x) (ns.map (Value.int k)):Sem Value).run P w=.ok (.int k (ns.foldl mx2 x)) w
 | [],x => by simp
 | n :: ns,x => by
   simp only [List.map_cons,List.foldlM_cons,List.foldl_cons,Sem.run_bind]
   have:(Builtin.max2 (.int k x) (.int k n)).run P w=.ok (.int k (mx2 x n)) w:=rfl
   rw [this]
   exact fold_max k w ns (mx2 x n)
theorem fold_min (k:IntKind) (w:World):∀ (ns:List Int) (x:Int),(List.foldlM Builtin.min2 (.int k x) (ns.map (Value.int k)):Sem Value).run P w=.ok (.int k (ns.foldl mn2 x)) w
 | [],x => by simp
 | n :: ns,x => by
   simp only [List.map_cons,List.foldlM_cons,List.foldl_cons,Sem.run_bind]
   have:(Builtin.min2 (.int k x) (.int k n)).run P w=.ok (.int k (mn2 x n)) w:=rfl
   rw [this]
   exact fold_min k w ns (mn2 x n)
def stMinMax (mx:Bool) (Γ:Env) (args:List Operand):Option CV:=
 match args with
 | [] => none
 | x :: xs => match evi Γ x with
     | some (k,n) => (intsOf k Γ xs).map fun ns => .val (.int k (if mx then ns.foldl mx2 n else ns.foldl mn2 n))
     | none => none
def stLen (P:Program) (Γ:Env) (H:Heap) (ts:Array TypeId) (args:List Operand):Option CV:=
 match ts.toList,args with
 | [t],[x] => match P.underlying t,evc Γ x with
  | some .string,some (.val (.string s)) => some (.val (.int .i64 s.size))
  | some (.slice _),some y => (slenOf H y).map fun (n:Nat) => .val (.int .i64 (n:Int))
  | _,_ => none
 | _,_ => none
end
end Go.Pal
namespace Go.Pal
open Go
section
variable {P:Program}
theorem foldl_splice:∀ (vs:List Value) (k off:Nat) (c:Array Value),off+k+vs.length≤c.size→
 (vs.zipIdx k).foldl (fun cs p=>cs.setIfInBounds (off+p.2) p.1) c=(c.toList.take (off+k)++(vs++c.toList.drop (off+k+vs.length))).toArray
 | [],k,off,c,_ => by simp
 | v :: vs,k,off,c,h => by
   simp only [List.length_cons] at h
   rw [List.zipIdx_cons,List.foldl_cons,foldl_splice vs (k+1) off _ (by simp; omega)]
   have e:=list_seg_step c.toList (off+k) v vs (by simp; omega)
   congr 1
   simp only [Array.toList_setIfInBounds]
   simpa [Nat.add_assoc,Nat.add_comm 1] using e
theorem fill_step {place:Nat→Option (Nat×Nat)} {c:Array Value} {i:Nat} {v:Value} {rest:List (Nat×Value)} {off size:Nat} {vs:List Value} (hp:place i=some (off,size)) (hv:v.cells=vs.toArray) (hs:vs.length=size)
 (hfit:off+vs.length≤c.size):Instr.fill place c ((i,v) :: rest)=Instr.fill place (c.toList.take off++(vs++c.toList.drop (off+vs.length))).toArray rest:=by
 have h1:¬ ((v.cells.size≠size)||decide (off+v.cells.size > c.size))=true:=by simp [hv,hs]; omega
 simp only [Instr.fill,hp]
 rw [if_neg h1]
 congr 1
 rw [hv]
 have:=foldl_splice vs 0 off c (by omega)
 simp only [Nat.add_zero] at this
 rw [← this]
 rw [show vs.toArray.zipIdx=(vs.zipIdx).toArray from by simp]
 simp
def fillS (place:Nat→Option (Nat×Nat)) (H:Heap) (Γ:Env) (l:List CV):List (Nat×Operand)→Option (List CV)
 | [] => some l
 | (i,x) :: rest => match place i,(evo Γ x).bind SV.cells with
  | some (off,size),some cs => if cs.length=size ∧ off+cs.length ≤ l.length ∧ cs.all (CV.oneIn H)=true then fillS place H Γ (l.take off ++ (cs ++ l.drop (off+cs.length))) rest else none
  | _,_ => none
theorem cells_of {C:FC} {σ:Nat→Value} {H:Heap} {w:World} (h:SatW C σ H w) {x:SV} {u:Value} {l:List CV} (hl:x.cells=some l) (ho:l.all (CV.oneIn H)=true) (hx:SVr (Ow C.G H σ) w σ x u) :
 ∃ vs,u.cells=vs.toArray∧CVs (Ow C.G H σ) w σ l vs:=by
 rcases SV_cells hl hx with ⟨vs,rfl,hvs⟩ | ⟨y,rfl,hy⟩
 ·exact ⟨vs,rfl,hvs⟩
 ·refine ⟨[u],?_,hy,trivial⟩
  simp only [List.all_cons,List.all_nil,Bool.and_true] at ho
  exact one_cells (oneIn_sound h ho hy)
theorem fillS_sound {C:FC} {σ:Nat→Value} {H:Heap} {w:World} {Γ:Env} {a:Act} (h:SatW C σ H w) (hE:EnvR C σ H w Γ a) {place:Nat→Option (Nat×Nat)}:∀ {parts:List (Nat×Operand)} {l l':List CV} {vs:List Value},
 fillS place H Γ l parts=some l'→CVs (Ow C.G H σ) w σ l vs→∃ us,Instr.fill place vs.toArray (parts.map fun p=>(p.1,a.eval p.2))=some us.toArray∧CVs (Ow C.G H σ) w σ l' us
 | [],l,l',vs,hf,hl => by cases hf; exact ⟨vs,rfl,hl⟩
 | (i,x) :: rest,l,l',vs,hf,hl => by
   simp only [fillS] at hf
   split at hf
   ·rename_i off size cs hp hx
    split at hf
    ·rename_i hc
     obtain ⟨sv,he,hcs⟩:=Option.bind_eq_some_iff.1 hx
     obtain ⟨us,hu,hus⟩:=cells_of h hcs hc.2.2 (evo_sound hE he)
     have hll:=CVs_len hl
     have hul:=CVs_len hus
     have hl':CVs (Ow C.G H σ) w σ (l.take off++(cs++l.drop (off+cs.length))) (vs.take off++(us++vs.drop (off+us.length))):=by
      refine CVs_append (CVs_take hl) (CVs_append hus ?_)
      rw [hul]
      exact CVs_drop hl
     obtain ⟨r,hr,hrr⟩:=fillS_sound h hE hf hl'
     refine ⟨r,?_,hrr⟩
     rw [List.map_cons,fill_step hp hu (by omega) (by simp; omega)]
     simpa using hr
    ·cases hf
   ·cases hf
theorem CVs_vals {O:Nat→Prop} {w:World} {σ:Nat→Value}:∀ {vs:List Value},CVs O w σ (vs.map CV.val) vs
 | [] => trivial
 | _ :: _ => ⟨rfl,CVs_vals⟩
def zeroOf (P:Program) (t:TypeId):Option Value:=(P.info? t).bind (·.zero)
theorem run_zeroOf {t:TypeId} {z:Value} (h:zeroOf P t=some z) (w:World):(zeroValue t).run P w=.ok z w:=by
 unfold zeroOf at h
 obtain ⟨i,hi,hz⟩:=Option.bind_eq_some_iff.1 h
 simp [zeroValue,typeInfo,hi,hz]
def placesOf (P:Program) (fs:List Field):Option (List (Nat×Nat)):=
 fs.mapM fun f=>(szof P f.type).map fun n=>(f.offset,n)
theorem run_places (w:World):∀ {fs:List Field} {ps:List (Nat×Nat)},placesOf P fs=some ps→
 (fs.mapM (fun f=>do pure (f.offset,← sizeOf f.type):Field→Sem (Nat×Nat))).run P w=.ok ps w
 | [],ps,h => by cases h; rfl
 | f :: fs,ps,h => by
   unfold placesOf at h
   rw [List.mapM_cons] at h
   obtain ⟨q,hq,h⟩:=Option.bind_eq_some_iff.1 h
   obtain ⟨qs,hqs,h⟩:=Option.bind_eq_some_iff.1 h
   cases h
   obtain ⟨n,hn,rfl⟩:=Option.map_eq_some_iff.1 hq
   have ih:=run_places w (fs:=fs) (ps:=qs) hqs
   rw [List.mapM_cons]
   simp only [Sem.run_bind,run_szof hn,Result.andThen_ok,Sem.run_pure,ih]
def stBuild (P:Program) (Γ:Env) (H:Heap) (t:TypeId) (parts:Array (Nat×Operand)):Option SV:=
 match zeroOf P t,P.underlying t with
 | some z,some (.struct fs) => match placesOf P fs.toList with
  | some ps => (fillS (fun i => ps[i]?) H Γ (z.cells.toList.map CV.val) parts.toList).map SV.agg
  | none => none
 | some z,some (.array _ elem) => match szof P elem with
  | some n => (fillS (fun i => some (i * n,n)) H Γ (z.cells.toList.map CV.val) parts.toList).map SV.agg
  | none => none
 | _,_ => none
theorem stBuild_sound {C:FC} {σ:Nat→Value} {H:Heap} {w:World} {Γ:Env} {a:Act} (h:SatW C σ H w) (hE:EnvR C σ H w Γ a) {t:TypeId} {parts:Array (Nat×Operand)} {v:SV} (hs:stBuild P Γ H t parts=some v) :
 ∃ u,(Instr.build t (parts.map fun p=>(p.1,a.eval p.2))).run P w=.ok u w∧SVr (Ow C.G H σ) w σ v u:=by
 unfold stBuild at hs
 split at hs
 ·rename_i z fs hz hu
  split at hs
  ·rename_i ps hps
   obtain ⟨l,hl,rfl⟩:=Option.map_eq_some_iff.1 hs
   obtain ⟨us,hf,hus⟩:=fillS_sound h hE hl CVs_vals
   refine ⟨.agg us.toArray,?_,us,rfl,hus⟩
   have hp:=run_places w hps
   have hp2:(fs.mapM (fun f=>do pure (f.offset,← sizeOf f.type):Field→Sem (Nat×Nat))).run P w=.ok ps.toArray w:=by
    rw [← Array.toArray_toList (xs:=fs),List.mapM_toArray]
    simp only [Sem.run_map,hp,Result.andThen_ok]
   simp only [Instr.build,Sem.run_bind,run_zeroOf hz,Result.andThen_ok,run_underlying hu,hp2]
   simp only [Array.toArray_toList] at hf
   simp [hf]
  ·cases hs
 ·rename_i z n elem hz hu
  split at hs
  ·rename_i sz hsz
   obtain ⟨l,hl,rfl⟩:=Option.map_eq_some_iff.1 hs
   obtain ⟨us,hf,hus⟩:=fillS_sound h hE hl CVs_vals
   refine ⟨.agg us.toArray,?_,us,rfl,hus⟩
   simp only [Array.toArray_toList] at hf
   simp [Instr.build,run_zeroOf hz,run_underlying hu,run_szof hsz,hf]
  ·cases hs
 ·cases hs
theorem RowR_new {O:Nat→Prop} {w:World} {k:Kd} {xs:List k.ty} {c:Array Value} {e:TypeId} {b cap:Nat} (hh:w.heap[b]? = some (.cells c e (0,0))) (hcb:cap≤9223372036854775807) (hl:xs.length≤cap) (hs:cap * k.sz≤c.size)
 (hr:∀ i (h:i<xs.length),∃ cs,k.R O w xs[i] cs∧∀ j,j<k.sz→c[i * k.sz+j]? = cs[j]?):RowR O w k xs (.slice (some ⟨b,0,none⟩) xs.length cap):=by
 refine ⟨_,cap,rfl,?_⟩
 rcases Nat.eq_zero_or_pos cap with rfl | hp
 ·exact .inl ⟨rfl,List.eq_nil_of_length_eq_zero (by omega)⟩
 ·refine .inr ⟨⟨hp,hcb⟩,hl,b,0,c,e,rfl,hh,by omega,fun i hi=>?_⟩
  obtain ⟨cs,hR,hc⟩:=hr i hi
  exact ⟨cs,hR,fun j hj=>by rw [Nat.zero_add]; exact hc j hj⟩
def stBuildSlice (P:Program) (Γ:Env) (H:Heap) (nx:Nat) (t:TypeId) (len:Nat) (parts:Array (Nat×Operand)):Option (CV×Heap):=
 match P.underlying t with
 | some (.slice elem) => match szof P elem,zeroOf P elem,kindOf P 12 elem with
  | some n,some z,some k =>
    if len * n≤2 ^ 24∧n=k.sz∧free nx Γ H=true then
     match fillS (fun i=>some (i * n,n)) H Γ ((List.range (len * n)).map fun i=>CV.val (z.cells[i % z.cells.size]!)) parts.toList with
     | some l => (rdN k len l).map fun xs => (.h nx,(nx,.row k xs) :: H)
     | none => none
    else none
  | _,_,_ => none
 | _ => none
theorem stBuildSlice_sound {C:FC} {σ:Nat→Value} {H H':Heap} {w:World} {Γ:Env} {a:Act} (h:SatW C σ H w) (hE:EnvR C σ H w Γ a) {nx:Nat} {t:TypeId} {len:Nat} {parts:Array (Nat×Operand)} {v:CV}
 (hs:stBuildSlice P Γ H nx t len parts=some (v,H')) :
 ∃ u w' σ',(Instr.buildSlice t len (parts.map fun p=>(p.1,a.eval p.2))).run P w=.ok u w'∧SatW C σ' H' w'∧EnvP C σ σ' H H' w w' Γ a∧CVr (Ow C.G H' σ') w' σ' v u∧∀ n,n≠nx→σ' n=σ n:=by
 unfold stBuildSlice at hs
 split at hs
 ·rename_i elem hu
  split at hs
  ·rename_i n z k hz hzo hk
   split at hs
   ·rename_i hc
    obtain ⟨hle,hn,hf⟩:=hc
    split at hs
    ·rename_i l hl
     obtain ⟨xs,hxs,e⟩:=Option.map_eq_some_iff.1 hs
     cases e
     have hmap:(List.range (len * n)).map (fun i=>CV.val (z.cells[i % z.cells.size]!))=((List.range (len * n)).map fun i=>(z.cells[i % z.cells.size]!)).map CV.val:=by simp [List.map_map]
     rw [hmap] at hl
     obtain ⟨us,hfill,hus⟩:=fillS_sound h hE hl CVs_vals
     obtain ⟨h1,h2,h3⟩:=rdN_sound hxs hus
     have hrun:(Instr.buildSlice t len (parts.map fun p=>(p.1,a.eval p.2))).run P w=.ok (.slice (some ⟨w.heap.size,0,none⟩) len len) (w.alloc (.cells us.toArray elem)):=by
      have hbig:¬ (len * n > 2 ^ 24):=by omega
      have harr:((Array.range (len * n)).map fun i=>(z.cells[i % z.cells.size]!))=((List.range (len * n)).map fun i=>(z.cells[i % z.cells.size]!)).toArray:=by
       apply Array.ext'
       simp
      simp only [Instr.buildSlice,Sem.run_bind,run_underlying hu,Result.andThen_ok,run_szof hz,Sem.run_ite]
      rw [if_neg hbig]
      have hfin:(match Instr.fill (fun i=>some (i * n,n)) ((List.range (len * n)).map fun i=>(z.cells[i % z.cells.size]!)).toArray (parts.map fun p=>(p.1,a.eval p.2)).toList with
       | some cells => do let a ← newRow elem cells; pure (Value.slice (some a) len len)
       | _ => stuck "buildSlice: a part of the wrong size" : Sem Value).run P w = .ok (.slice (some ⟨w.heap.size, 0, none⟩) len len) (w.alloc (.cells us.toArray elem)) := by
       rw [Array.toList_map,hfill]
       simp [newRow]
      by_cases h0:len * n=0
      ·rw [if_pos h0]
       have e:(Array.range (len * n)).map (fun x=>((#[]:Array Value)[x % (#[]:Array Value).size]!))=((List.range (len * n)).map fun i=>(z.cells[i % z.cells.size]!)).toArray:=by rw [h0]; simp
       simp only [Sem.run_pure,Result.andThen_ok]
       rw [e]
       exact hfin
      ·rw [if_neg h0]
       simp only [run_zeroOf hzo,Result.andThen_ok,Sem.run_pure]
       rw [harr]
       exact hfin
     have hal:=alloc_row (w':=w.alloc (.cells us.toArray elem)) h hE hf k xs (.slice (some ⟨w.heap.size,0,none⟩) xs.length len) (fun b hb=>alc_old w _ b hb) (by simp) rfl rfl rfl
      (fun b hb=>by
       simp only [Bk,blk] at hb
       split at hb
       ·cases hb
       ·simp at hb; omega)
      (fun O' hO'=>RowR_new (heap_alloc_new w _) (by have h1:=Kd.sz_pos k; have h2:len≤len * n:=Nat.le_mul_of_pos_right len (by omega); omega) (by omega) (by simp; omega) fun i hi=>by
       obtain ⟨cs,hR,hcell⟩:=h3 i hi
       exact ⟨cs,R_mono (fun b hb _=>alc_old w _ b hb) hO' hR,fun j hj=>by rw [List.getElem?_toArray]; exact hcell j hj⟩)
     rw [h1] at hal
     exact ⟨_,_,_,hrun,hal.1,hal.2,CVr_sl,fun _ hn=>upd_ne hn⟩
    ·cases hs
   ·cases hs
  ·cases hs
 ·cases hs
end
end Go.Pal
namespace Go.Pal
open Go
section
variable {P:Program}
theorem zero_rows {O:Nat→Prop} {w:World} {k:Kd} {z0:k.ty} {zs:List Value} (hR:k.R O w z0 zs) (n m:Nat) (hm:m≤n) (c:Array Value) (hc:c=(Array.range (n * k.sz)).map fun i=>(zs.toArray[i % zs.toArray.size]!)) :
 ∀ i (h:i<(List.replicate m z0).length),∃ cs,k.R O w (List.replicate m z0)[i] cs∧∀ j,j<k.sz→c[i * k.sz+j]? = cs[j]?:=by
 intro i hi
 simp only [List.length_replicate] at hi
 have hl:=R_len hR
 refine ⟨zs,by simpa using hR,fun j hj=>?_⟩
 subst hc
 have hmul:(i+1) * k.sz≤n * k.sz:=Nat.mul_le_mul_right _ (by omega)
 rw [Nat.add_mul,Nat.one_mul] at hmul
 have hmod:(i * k.sz+j) % zs.length=j:=by
  rw [hl,Nat.add_comm,Nat.add_mul_mod_self_right,Nat.mod_eq_of_lt hj]
 have hlt:i * k.sz+j<n * k.sz:=by omega
 have hjl:j<zs.length:=by omega
 rw [List.getElem?_eq_getElem hjl]
 simp only [Array.getElem?_map,Array.getElem?_range,hlt,if_true,Option.map_some,List.size_toArray,hmod]
 simp [hjl]
def stMakeSlice (P:Program) (Γ:Env) (H:Heap) (nx:Nat) (t:TypeId) (l c:Operand):Option (CV×Heap×List Prop):=
 match P.underlying t,evi Γ l,evi Γ c with
 | some (.slice elem),some (_,n),some (_,m) => match P.info? elem,zeroOf P elem,kindOf P 12 elem with
  | some i,some z,some k => match k.rd (z.cells.toList.map CV.val) with
   | some z0 => if i.size=k.sz ∧ z.cells.size=k.sz ∧ free nx Γ H=true then
    some (.h nx,(nx,.row k (List.replicate n.toNat z0)) :: H,[0≤n,n≤m,m * i.bytes≤140737488355328,m≤9223372036854775807]) else none
   | none => none
  | _,_,_ => none
 | _,_,_ => none
theorem wrap_i64 {n:Int} (h0 : -9223372036854775808≤n) (h1:n≤9223372036854775807):IntKind.i64.wrap n=n:=by
 have e:IntKind.i64.wrap n=if n % 18446744073709551616≥9223372036854775808 then n % 18446744073709551616 - 18446744073709551616 else n % 18446744073709551616:=by
  simp [IntKind.wrap,IntKind.bits,IntKind.signed]
 rw [e]
 split <;> omega
theorem stMakeSlice_sound {C:FC} {σ:Nat→Value} {H H':Heap} {w:World} {Γ:Env} {a:Act} (h:SatW C σ H w) (hE:EnvR C σ H w Γ a) {nx:Nat} {t:TypeId} {l c:Operand} {v:CV} {cs:List Prop}
 (hs:stMakeSlice P Γ H nx t l c=some (v,H',cs)) (hc:allP cs) :
 ∃ u w' σ',(Instr.makeSlice t (a.eval l) (a.eval c)).run P w=.ok u w'∧SatW C σ' H' w'∧EnvP C σ σ' H H' w w' Γ a∧CVr (Ow C.G H' σ') w' σ' v u∧∀ n,n≠nx→σ' n=σ n:=by
 unfold stMakeSlice at hs
 split at hs
 ·rename_i elem k1 n k2 m hu hl hm
  split at hs
  ·rename_i i z k hi hz hk
   split at hs
   ·rename_i z0 hz0
    split at hs
    ·rename_i hcond
     obtain ⟨hsz,hzs,hf⟩:=hcond
     cases hs
     simp only [allP] at hc
     obtain ⟨h0,h1,h2,h3⟩:=hc
     have hR:k.R (Ow C.G H σ) w z0 z.cells.toList:=rd_sound (σ:=σ) hz0 CVs_vals
     have hwn:=wrap_i64 (n:=n) (by omega) (by omega)
     have hwm:=wrap_i64 (n:=m) (by omega) (by omega)
     have hz':i.zero=some z:=by
      unfold zeroOf at hz
      rw [hi] at hz
      exact hz
     have hnb:¬ (281474976710656<(i.bytes:Int) * m):=by rw [Int.mul_comm]; omega
     have hrun:(Instr.makeSlice t (.int k1 n) (.int k2 m)).run P w=.ok (.slice (some ⟨w.heap.size,0,none⟩) n.toNat m.toNat)
      (w.alloc (.cells ((Array.range (m.toNat * k.sz)).map fun j=>(z.cells.toList.toArray[j % z.cells.toList.toArray.size]!)) elem)):=by
      have hcond1:¬ ((decide (m<0)||decide ((i.bytes:Int) * m > 2 ^ 48))||decide (n<0)||decide (n > m))=true:=by
       simp; omega
      have harr:(if m.toNat * k.sz=0 then (Array.range (m.toNat * k.sz)).map (fun j=>((#[]:Array Value)[j % (#[]:Array Value).size]!)) else (Array.range (m.toNat * k.sz)).map (fun j=>(z.cells[j % z.cells.size]!))) =
       (Array.range (m.toNat * k.sz)).map fun j=>(z.cells.toList.toArray[j % z.cells.toList.toArray.size]!):=by
       split
       ·rename_i e; rw [e]; simp
       ·rfl
      simp only [Instr.makeSlice,Sem.run_bind,run_underlying hu,Result.andThen_ok,asInt,asIntOf,Sem.run_pure,typeInfo,run_program,hi,hwn,hwm,Sem.run_ite]
      rw [if_neg (by simpa using hcond1)]
      simp only [run_askRoom,Result.andThen_ok,sizeOf,typeInfo,Sem.run_bind,run_program,hi,Sem.run_pure,hsz,zeroValue,hz']
      rw [← harr]
      by_cases e:m.toNat * k.sz=0
      ·simp [e,newRow]
      ·simp [e,newRow]
     have hal:=alloc_row (w':=w.alloc (.cells ((Array.range (m.toNat * k.sz)).map fun j=>(z.cells.toList.toArray[j % z.cells.toList.toArray.size]!)) elem)) h hE hf k (List.replicate n.toNat z0)
      (.slice (some ⟨w.heap.size,0,none⟩) (List.replicate n.toNat z0).length m.toNat) (fun b hb=>alc_old w _ b hb) (by simp) rfl rfl rfl
      (fun b hb=>by
       simp only [Bk,blk] at hb
       split at hb
       ·cases hb
       ·simp at hb; omega)
      (fun O' hO'=>RowR_new (heap_alloc_new w _) (by omega) (by simp; omega) (by simp) fun i2 hi2=>by
       obtain ⟨cs,hR2,hcell⟩:=zero_rows hR m.toNat n.toNat (by omega) _ rfl i2 hi2
       exact ⟨cs,R_mono (fun b hb _=>alc_old w _ b hb) hO' hR2,hcell⟩)
     rw [List.length_replicate] at hal
     exact ⟨_,_,_,by rw [evi_sound hE hl,evi_sound hE hm]; exact hrun,hal.1,hal.2,CVr_sl,fun _ hn=>upd_ne hn⟩
    ·cases hs
   ·cases hs
  ·cases hs
 ·cases hs
theorem swap_row {C:FC} {σ:Nat→Value} {H:Heap} {w w':World} {Γ:Env} {a:Act} (h:SatW C σ H w) (hE:EnvR C σ H w Γ a) {m nx:Nat} {e:Ent} (hm:look H m=some e) (hf:free nx Γ H=true) (k:Kd) (ys:List k.ty) (v:Value)
 (hw:∀ b,b<w.heap.size→¬ Bk (σ m) b→w'.heap[b]? = w.heap[b]?) (hs:w.heap.size≤w'.heap.size) (hos:w'.os=w.os) (ht:w'.tape=w.tape) (hou:w'.output=w.output)
 (hblk:∀ b,Bk v b→Bk (σ m) b∨w.heap.size≤b)
 (hrow:∀ O',SameOff (Ow C.G H σ) w w'→(∀ b,b<w.heap.size→¬ Ow C.G H σ b→¬ O' b)→RowR O' w' k ys v) :
 SatW C (upd σ nx v) ((nx,.row k ys) :: eraseH H m) w'∧EnvP C σ (upd σ nx v) H ((nx,.row k ys) :: eraseH H m) w w' Γ a:=by
 have hin:=look_mem hm
 have hso:SameOff (Ow C.G H σ) w w':=fun b hb ho=>hw b hb fun hb'=>ho (.inr ⟨(m,e),hin,hb'⟩)
 have hanti:∀ b,b<w.heap.size→¬ Ow C.G H σ b→¬ Ow C.G ((nx,.row k ys) :: eraseH H m) (upd σ nx v) b:=by
  intro b hb ho ho'
  rcases ho' with hg | ⟨p,hp,hbp⟩
  ·exact ho (.inl hg)
  ·rcases List.mem_cons.1 hp with rfl | hp
   ·rw [upd_same] at hbp
    rcases hblk b hbp with h1 | h1
    ·exact ho (.inr ⟨(m,e),hin,h1⟩)
    ·omega
   ·rw [upd_ne (free_heap hf p (mem_eraseH.1 hp).1).1] at hbp
    exact ho (.inr ⟨p,(mem_eraseH.1 hp).1,hbp⟩)
 have hst:=step1 (w':=w') h m nx (.row k ys) v (fun _ _=>.inr (fun p hp=>(free_heap hf p (mem_eraseH.1 hp).1).2)) (fun p hp=>(free_heap hf p (mem_eraseH.1 hp).1).1)
  (fun b hb hq=>hw b hb (hq e hin)) hs hos ht hou (fun b hb=>(hblk b hb).imp (fun q=>⟨q,e,hin⟩) id) (by
   unfold EntR
   rw [upd_same]
   exact hrow _ hso hanti)
 exact ⟨hst.1,⟨hE.step hst.2.1 hst.2.2 (free_env hf),hst.2.1,hst.2.2⟩⟩
def flat (O:Nat→Prop) (w:World) (k:Kd) (xs:List k.ty) (vs:List Value):Prop:=
 vs.length=xs.length * k.sz∧∀ i (h:i<xs.length),∃ cs,k.R O w xs[i] cs∧∀ j,j<k.sz→vs[i * k.sz+j]? = cs[j]?
theorem idx_split {n s q:Nat} (hs:0<s) (h:q<n * s):q / s<n∧q % s<s∧q=(q / s) * s+q % s:=by
 refine ⟨(Nat.div_lt_iff_lt_mul hs).2 h,Nat.mod_lt _ hs,?_⟩
 rw [Nat.mul_comm]
 exact (Nat.div_add_mod q s).symm
theorem Reads_flat {O:Nat→Prop} {w:World} {k:Kd} {A:Option Addr} {xs:List k.ty} (h:Reads O w k A xs) :
 ∃ vs,flat O w k xs vs∧(∀ v∈vs,v.oneCell'=true)∧∀ j u,vs[j]? = some u→∃ b off,A=some ⟨b,off,none⟩∧w.cell? ⟨b,off+j,none⟩=some u:=by
 have hsz:=k.sz_pos
 cases xs with
 | nil => exact ⟨[],⟨by simp,fun i hi => absurd hi (by simp)⟩,by simp,by simp⟩
 | cons x xs =>
   obtain ⟨b,off,_,rfl,_,_⟩:=h 0 (by simp)
   have hcell:∀ q,q<(x :: xs).length * k.sz→∃ u,w.cell? ⟨b,off+q,none⟩=some u∧u.oneCell'=true:=by
    intro q hq
    obtain ⟨h1,h2,h3⟩:=idx_split hsz hq
    obtain ⟨b',off',c,e,hR,hc⟩:=h _ h1
    injection e with e
    injection e with e1 e2 _
    subst e1 e2
    have hl:=R_len hR
    have hlt:q % k.sz<c.length:=by omega
    refine ⟨c[q % k.sz],?_,R_one hR _ (List.getElem_mem _)⟩
    rw [show off+q=off+q / k.sz * k.sz+q % k.sz by omega,hc _ h2,List.getElem?_eq_getElem hlt]
   let vs:=(List.range ((x :: xs).length * k.sz)).map fun q=>(w.cell? ⟨b,off+q,none⟩).getD undef
   have hvs:∀ q,q<(x :: xs).length * k.sz→vs[q]? = w.cell? ⟨b,off+q,none⟩:=by
    intro q hq
    obtain ⟨u,hu,_⟩:=hcell q hq
    show ((List.range ((x :: xs).length * k.sz)).map _)[q]? = _
    rw [List.getElem?_map,List.getElem?_range hq,hu,Option.map_some,hu]
    rfl
   have hlen:vs.length=(x :: xs).length * k.sz:=by simp [vs]
   refine ⟨vs,⟨hlen,fun i hi=>?_⟩,fun v hv=>?_,fun j u hu=>?_⟩
   ·obtain ⟨b',off',c,e,hR,hc⟩:=h i hi
    injection e with e
    injection e with e1 e2 _
    subst e1 e2
    refine ⟨c,hR,fun j hj=>?_⟩
    have hmul:(i+1) * k.sz≤(x :: xs).length * k.sz:=Nat.mul_le_mul_right _ (by omega)
    rw [Nat.add_mul,Nat.one_mul] at hmul
    rw [hvs _ (by omega),← hc j hj,Nat.add_assoc]
   ·obtain ⟨q,hq,e⟩:=List.mem_map.1 hv
    obtain ⟨u,hu,h1⟩:=hcell q (by simpa using hq)
    rw [hu] at e
    simp at e
    rw [← e]; exact h1
   ·have hj:j<vs.length:=by
     rcases Nat.lt_or_ge j vs.length with h' | h'
     ·exact h'
     ·rw [List.getElem?_eq_none h'] at hu; cases hu
    exact ⟨b,off,rfl,by rw [← hvs j (by omega),hu]⟩
theorem run_firstCells {size n:Nat} {A:Option Addr} {l cap:Nat} {vs:List Value} (hl:vs.length=n * size) (w:World) (h:∀ j u,vs[j]? = some u→∃ b off,A=some ⟨b,off,none⟩∧w.cell? ⟨b,off+j,none⟩=some u) :
 (Builtin.firstCells size n (.slice A l cap)).run P w=.ok vs.toArray w:=by
 cases vs with
 | nil =>
   have h0:n * size=0:=by simpa using hl.symm
   cases A with
   | none => simp [Builtin.firstCells]
   | some a => simp [Builtin.firstCells,loadCells,h0,loadCellsFrom]
 | cons v vs =>
   obtain ⟨b,off,rfl,_⟩:=h 0 v rfl
   refine run_firstCells_some w size n _ l cap _ hl fun j u hu=>?_
   obtain ⟨b',off',e,hc⟩:=h j u hu
   injection e with e
   injection e with e1 e2 _
   subst e1 e2
   rw [Addr.add_lit]; exact hc
theorem flat_append {O:Nat→Prop} {w:World} {k:Kd} {xs ys:List k.ty} {us vs:List Value} (h1:flat O w k xs us) (h2:flat O w k ys vs):flat O w k (xs++ys) (us++vs):=by
 obtain ⟨l1,r1⟩:=h1
 obtain ⟨l2,r2⟩:=h2
 refine ⟨by rw [List.length_append,List.length_append,l1,l2,Nat.add_mul],fun i hi=>?_⟩
 rw [List.length_append] at hi
 by_cases hx:i<xs.length
 ·obtain ⟨cs,hR,hc⟩:=r1 i hx
  refine ⟨cs,by rw [List.getElem_append_left hx]; exact hR,fun j hj=>?_⟩
  have hmul:(i+1) * k.sz≤xs.length * k.sz:=Nat.mul_le_mul_right _ (by omega)
  rw [Nat.add_mul,Nat.one_mul] at hmul
  rw [List.getElem?_append_left (by omega)]
  exact hc j hj
 ·obtain ⟨cs,hR,hc⟩:=r2 (i - xs.length) (by omega)
  refine ⟨cs,by rw [List.getElem_append_right (by omega)]; exact hR,fun j hj=>?_⟩
  have hmul:xs.length * k.sz≤i * k.sz:=Nat.mul_le_mul_right _ (by omega)
  rw [List.getElem?_append_right (by omega),← hc j hj]
  congr 1
  rw [Nat.sub_mul]
  omega
theorem flat_mono {O O':Nat→Prop} {w w':World} (hw:SameOff O w w') (ho:∀ b,b<w.heap.size→¬ O b→¬ O' b) {k:Kd} {xs:List k.ty} {vs:List Value} (h:flat O w k xs vs):flat O' w' k xs vs:=
 ⟨h.1,fun i hi=>by obtain ⟨cs,hR,hc⟩:=h.2 i hi; exact ⟨cs,R_mono hw ho hR,hc⟩⟩
theorem RowR_of_flat {O:Nat→Prop} {w:World} {k:Kd} {xs:List k.ty} {vs:List Value} {b off cap:Nat} {c:Array Value} {e:TypeId} (hh:w.heap[b]? = some (.cells c e (0,0))) (hcb:cap≤9223372036854775807) (hl:xs.length≤cap) (hs:off+cap * k.sz≤c.size)
 (hf:flat O w k xs vs) (hc:∀ j,j<vs.length→c[off+j]? = vs[j]?):RowR O w k xs (.slice (some ⟨b,off,none⟩) xs.length cap):=by
 refine ⟨_,cap,rfl,?_⟩
 rcases Nat.eq_zero_or_pos cap with rfl | hp
 ·exact .inl ⟨rfl,List.eq_nil_of_length_eq_zero (by omega)⟩
 ·refine .inr ⟨⟨hp,hcb⟩,hl,b,off,c,e,rfl,hh,hs,fun i hi=>?_⟩
  obtain ⟨cs,hR,hcc⟩:=hf.2 i hi
  refine ⟨cs,hR,fun j hj=>?_⟩
  have hmul:(i+1) * k.sz≤xs.length * k.sz:=Nat.mul_le_mul_right _ (by omega)
  rw [Nat.add_mul,Nat.one_mul] at hmul
  rw [← hcc j hj,Nat.add_assoc,hc _ (by rw [hf.1]; omega)]
theorem RowR_flat {O:Nat→Prop} {w:World} {k:Kd} {xs:List k.ty} {A:Option Addr} {l cap:Nat} (h:RowR O w k xs (.slice A l cap)) :
 l=xs.length∧((cap=0∧xs=[])∨((0<cap∧cap≤9223372036854775807)∧xs.length≤cap∧∃ b off c e,A=some ⟨b,off,none⟩∧w.heap[b]? = some (.cells c e (0,0))∧off+cap * k.sz≤c.size)):=by
 obtain ⟨A',cap',e,h⟩:=h
 injection e with e1 e2 e3
 subst e1 e3
 refine ⟨e2,?_⟩
 rcases h with h | ⟨hp,hl,b,off,c,e,rfl,hh,hs,_⟩
 ·exact .inl h
 ·exact .inr ⟨hp,hl,b,off,c,e,rfl,hh,hs⟩
theorem run_append_new {t ty e:TypeId} {i:TypeInfo} {z:Value} (ht:P.underlying t=some (.slice e)) (hi:P.info? e=some i) (hz:i.zero=some z) {A B:Option Addr} {n cap m cap2:Nat} {olds news:List Value} (w:World)
 (hlo:olds.length=n * i.size) (hold:∀ j u,olds[j]? = some u→∃ b off,A=some ⟨b,off,none⟩∧w.cell? ⟨b,off+j,none⟩=some u)
 (hln:news.length=m * i.size) (hnew:∀ j u,news[j]? = some u→∃ b off,B=some ⟨b,off,none⟩∧w.cell? ⟨b,off+j,none⟩=some u)
 (hg:cap<n+m) (h63:n+m≤9223372036854775807) (hfit:(n+m) * i.bytes≤140737488355328) :
 ∃ gc,(n+m≤gc∧gc≤9223372036854775807)∧(Builtin.append_ #[t,t] ty #[.slice A n cap,.slice B m cap2]).run P w=.ok (.slice (some ⟨w.heap.size,0,none⟩) (n+m) gc) (w.drew.alloc (.cells (olds.toArray++news.toArray++Builtin.zeroCells z.cells (gc - (n+m))) e)):=by
 have hn:¬ (n+m≤cap):=by omega
 have h63':¬ (9223372036854775807<((n:Int)+(m:Int))):=by omega
 have h48':¬ (281474976710656<Builtin.nextslicecap (n+m) cap * i.bytes):=by have:=growslice_fits hg hfit; omega
 have hf:=run_firstCells (P:=P) (l:=m) (cap:=cap2) hln w.drew (by simpa using hnew)
 have hfo:=run_firstCells (P:=P) (l:=n) (cap:=cap) hlo w.drew (by simpa using hold)
 refine ⟨grownCap w (n+m) cap e,⟨grownCap_ge w _ _ _,grownCap_le_maxLen w _ _ _ h63⟩,?_⟩
 simp [Builtin.append_,run_underlying ht,sizeOf,typeInfo,zeroValue,hi,hz,Builtin.lenOf,hn,h63',h48',Question.forced,hf,hfo,newRow,grownCap]
 congr 2
 apply Array.ext'
 simp [List.append_assoc]
theorem run_append_in {t ty e e2:TypeId} {i:TypeInfo} (ht:P.underlying t=some (.slice e)) (hi:P.info? e=some i) {b off:Nat} {B:Option Addr} {n cap m cap2:Nat} {news:List Value} {cur:Array Value} (w:World)
 (hln:news.length=m * i.size) (hnew:∀ j u,news[j]? = some u→∃ b off,B=some ⟨b,off,none⟩∧w.cell? ⟨b,off+j,none⟩=some u)
 (h1:∀ u∈news,u.oneCell'=true) (hroom:n+m≤cap) (hg:w.heap[b]? = some (.cells cur e2 (0,0))) (hfit:off+n * i.size+news.length≤cur.size) :
 (Builtin.append_ #[t,t] ty #[.slice (some ⟨b,off,none⟩) n cap,.slice B m cap2]).run P w =
  .ok (.slice (some ⟨b,off,none⟩) (n+m) cap) (w.setRow b (cur.toList.take (off+n * i.size)++news++cur.toList.drop (off+n * i.size+news.length)).toArray):=by
 have hf:=run_firstCells (P:=P) (l:=m) (cap:=cap2) hln w hnew
 have hst:=run_storeCells_at P b (off+n * i.size) e2 news 0 cur w hg (by omega) h1
 simp only [Nat.add_zero] at hst
 simp [Builtin.append_,run_underlying ht,sizeOf,typeInfo,hi,Builtin.lenOf,hroom,hf,Addr.add_lit,hst]
theorem run_append_none {t ty e:TypeId} {i:TypeInfo} (ht:P.underlying t=some (.slice e)) (hi:P.info? e=some i) {A B:Option Addr} {n cap cap2:Nat} (w:World) (hroom:n≤cap) :
 (Builtin.append_ #[t,t] ty #[.slice A n cap,.slice B 0 cap2]).run P w=.ok (.slice A n cap) w:=by
 have hf:=run_firstCells (P:=P) (A:=B) (l:=0) (cap:=cap2) (size:=i.size) (n:=0) (vs:=[]) (by simp) w (by simp)
 cases A <;> simp [Builtin.append_,run_underlying ht,sizeOf,typeInfo,hi,Builtin.lenOf,hroom,hf,storeCells]
end
end Go.Pal
namespace Go.Pal
open Go
section
variable {P:Program}
def stAppend (P:Program) (Γ:Env) (H:Heap) (nx:Nat) (ts:Array TypeId) (s x:Operand):Option (CV×Heap×List Prop):=
 match ts.toList with
 | [t,t'] => if t=t' then
  match P.underlying t with
  | some (.slice e) => match P.info? e,zeroOf P e,evc Γ s,evc Γ x with
   | some i,some z,some sv,some xv =>
     if 0<i.bytes∧z.cells.size=i.size∧free nx Γ H=true then
      match sv with
      | .h m => match look H m with
       | some (.row k xs) => if k.sz=i.size then
        (content H k xv).map fun ys=>(.h nx,(nx,.row k (xs++ys)) :: eraseH H m,[(xs.length+ys.length) * i.bytes≤140737488355328]) else none
       | _ => none
      | .val (.slice none 0 0) => match kindOf P 12 e with
       | some k => if k.sz=i.size then (content H k xv).map fun ys => (.h nx,(nx,.row k ys) :: H,[ys.length * i.bytes ≤ 140737488355328]) else none
       | none => none
      | .zc => match kindOf P 12 e with
       | some k => if k.sz=i.size then (content H k xv).map fun ys => (.h nx,(nx,.row k ys) :: H,[ys.length * i.bytes ≤ 140737488355328]) else none
       | none => none
      | _ => none
     else none
   | _,_,_,_ => none
  | _ => none
  else none
 | _ => none
theorem bytes_bound {n b:Nat} (hb:0<b) (h:n * b≤140737488355328):n≤140737488355328:=Nat.le_trans (Nat.le_mul_of_pos_right n hb) h
theorem cells_zero (z:Value) (n:Nat) (h:z.cells.size=n) (m:Nat):(Builtin.zeroCells z.cells m).size=m * n:=by rw [size_zeroCells,h]
theorem append_nothing {C:FC} {σ:Nat→Value} {H:Heap} {w:World} {Γ:Env} {a:Act} (h:SatW C σ H w) (hE:EnvR C σ H w Γ a) {nx:Nat} {t ty e:TypeId} {i:TypeInfo} {z:Value} (ht:P.underlying t=some (.slice e)) (hi:P.info? e=some i)
 (hz:i.zero=some z) (hb:0<i.bytes) (hzs:z.cells.size=i.size) (hf:free nx Γ H=true) {k:Kd} (hk:k.sz=i.size) {xv:CV} {ys:List k.ty} (hc:content H k xv=some ys) {A:Option Addr} {u:Value}
 (hx:CVr (Ow C.G H σ) w σ xv u) (hbd:ys.length * i.bytes≤140737488355328) :
 ∃ v w' σ',(Builtin.append_ #[t,t] ty #[.slice A 0 0,u]).run P w=.ok v w'∧SatW C σ' ((nx,.row k ys) :: H) w'∧EnvP C σ σ' H ((nx,.row k ys) :: H) w w' Γ a∧v=hd (σ' nx)∧∀ n,n≠nx→σ' n=σ n:=by
 obtain ⟨B,cap2,rfl,_,hr⟩:=content_sound h hc hx
 by_cases h0:ys=[]
 ·subst h0
  have hrun:=run_append_none (P:=P) (ty:=ty) (A:=A) (B:=B) (n:=0) (cap:=0) (cap2:=cap2) ht hi w (Nat.le_refl 0)
  have hal:=alloc_row (w':=w) h hE hf k [] (.slice A 0 0) (fun _ _=>rfl) (Nat.le_refl _) rfl rfl rfl (fun b hb=>by cases A <;> simp [Bk,blk] at hb) (fun O' _=>⟨A,0,rfl,.inl ⟨rfl,rfl⟩⟩)
  exact ⟨_,_,_,hrun,hal.1,hal.2,CVr_sl (O:=fun _=>False) (w:=w),fun _ hn=>upd_ne hn⟩
 ·have hpos:0<ys.length:=List.length_pos_iff.2 h0
  obtain ⟨vs,hfl,h1,hcell⟩:=Reads_flat hr
  obtain ⟨gc,hgc,hrun⟩:=run_append_new (P:=P) (ty:=ty) (A:=A) (B:=B) (n:=0) (cap:=0) (m:=ys.length) (cap2:=cap2) (olds:=[]) (news:=vs) ht hi hz w (by simp) (by simp) (by rw [hfl.1,hk]) hcell (by omega)
   (by have:=bytes_bound hb hbd; omega) (by simpa using hbd)
  simp only [Nat.zero_add] at hrun hgc
  have hal:=alloc_row (w':=w.drew.alloc (.cells ((([]:List Value).toArray)++vs.toArray++Builtin.zeroCells z.cells (gc - ys.length)) e)) h hE hf k ys (.slice (some ⟨w.heap.size,0,none⟩) ys.length gc)
   (fun b hb=>alc_old w.drew _ b hb) (by simp) rfl rfl rfl
   (fun b hb=>by
    simp only [Bk,blk] at hb
    split at hb
    ·cases hb
    ·simp at hb; omega)
   (fun O' hO'=>RowR_of_flat (heap_alloc_new w.drew _) (by omega) (by omega) (by
    simp only [Array.size_append,List.size_toArray,cells_zero z _ hzs,hfl.1,hk,List.length_nil,Nat.zero_add]
    rw [← Nat.add_mul]
    exact Nat.mul_le_mul_right _ (by omega))
    (flat_mono (w:=w) (fun b hb _=>alc_old w.drew _ b hb) hO' hfl) (fun j hj=>by
     simp only [Nat.zero_add,Array.empty_append]
     rw [Array.getElem?_append_left (by simpa using hj)]
     simp))
  exact ⟨_,_,_,hrun,hal.1,hal.2,CVr_sl (O:=fun _=>False) (w:=w),fun _ hn=>upd_ne hn⟩
theorem append_row {C:FC} {σ:Nat→Value} {H:Heap} {w:World} {Γ:Env} {a:Act} (h:SatW C σ H w) (hE:EnvR C σ H w Γ a) {m nx:Nat} {t ty e:TypeId} {i:TypeInfo} {z:Value} (ht:P.underlying t=some (.slice e)) (hi:P.info? e=some i)
 (hz:i.zero=some z) (hb:0<i.bytes) (hzs:z.cells.size=i.size) (hf:free nx Γ H=true) {k:Kd} (hk:k.sz=i.size) {xs:List k.ty} (hm:look H m=some (.row k xs)) {xv:CV} {ys:List k.ty} (hc:content H k xv=some ys) {u:Value}
 (hx:CVr (Ow C.G H σ) w σ xv u) (hbd:(xs.length+ys.length) * i.bytes≤140737488355328) :
 ∃ v w' σ',(Builtin.append_ #[t,t] ty #[σ m,u]).run P w=.ok v w'∧SatW C σ' ((nx,.row k (xs++ys)) :: eraseH H m) w'∧EnvP C σ σ' H ((nx,.row k (xs++ys)) :: eraseH H m) w w' Γ a∧v=hd (σ' nx)∧∀ n,n≠nx→σ' n=σ n:=by
 obtain ⟨B,cap2,rfl,_,hr⟩:=content_sound h hc hx
 obtain ⟨vs,hfl,h1,hcell⟩:=Reads_flat hr
 have hent:RowR (Ow C.G H σ) w k xs (σ m):=h.ent _ (look_mem hm)
 obtain ⟨A,cap,hs,hlc,hrx⟩:=RowR_reads hent
 obtain ⟨us,hfx,h1x,hcellx⟩:=Reads_flat hrx
 have hfa:=flat_append hfx hfl
 rw [hs] at hent ⊢
 obtain ⟨_,hrow⟩:=RowR_flat hent
 by_cases hroom:xs.length+ys.length≤cap
 ·rcases hrow with ⟨rfl,rfl⟩ | ⟨hp,_,b,off,c,e2,rfl,hh,hsz⟩
  ·-- no room,nothing to add
   have hy:ys=[]:=List.eq_nil_of_length_eq_zero (by simpa using hroom)
   subst hy
   have hrun:=run_append_none (P:=P) (ty:=ty) (A:=A) (B:=B) (n:=0) (cap:=0) (cap2:=cap2) ht hi w (Nat.le_refl 0)
   have hsw:=swap_row (w':=w) h hE hm hf k ([]++[]) (.slice A 0 0) (fun _ _ _=>rfl) (Nat.le_refl _) rfl rfl rfl (fun b hb=>by cases A <;> simp [Bk,blk] at hb) (fun O' _ _=>⟨A,0,rfl,.inl ⟨rfl,rfl⟩⟩)
   exact ⟨_,_,_,hrun,hsw.1,hsw.2,CVr_sl (O:=fun _=>False) (w:=w),fun _ hn=>upd_ne hn⟩
  ·have hmul:(xs.length+ys.length) * k.sz≤cap * k.sz:=Nat.mul_le_mul_right _ hroom
   rw [Nat.add_mul] at hmul
   have hfit:off+xs.length * i.size+vs.length≤c.size:=by rw [← hk,hfl.1]; omega
   have hrun:=run_append_in (P:=P) (ty:=ty) (B:=B) (n:=xs.length) (cap:=cap) (m:=ys.length) (cap2:=cap2) ht hi w (by rw [hfl.1,hk]) hcell h1 hroom hh hfit
   have hblk:Bk (σ m) b:=by rw [hs]; simp only [Bk,blk]; rw [if_neg (by omega)]
   have hsw:=swap_row (w':=w.setRow b (c.toList.take (off+xs.length * i.size)++vs++c.toList.drop (off+xs.length * i.size+vs.length)).toArray) h hE hm hf k (xs++ys) (.slice (some ⟨b,off,none⟩) (xs++ys).length cap)
    (fun q _ hq=>setRow_other w b q _ (fun e=>hq (e▸hblk))) (by simp [World.setRow]) rfl rfl rfl
    (fun q hq=>by
     simp only [Bk,blk] at hq
     rw [if_neg (by omega)] at hq
     simp at hq
     exact .inl (hq▸hblk))
    (fun O' hso hanti=>by
     refine RowR_of_flat (setRow_heap w b c _ e2 _ hh) (by omega) (by simpa using hroom) ?_ (flat_mono hso hanti hfa) (fun j hj=>?_)
     ·simp only [List.size_toArray,List.length_append,List.length_take,List.length_drop,Array.length_toList]
      omega
     ·rw [List.getElem?_toArray,List.append_assoc,splice_get _ _ _ _ (by simp; omega)]
      rw [List.length_append,hfx.1,hk] at hj
      by_cases hj1:j<us.length
      ·have hj2:us[j]? = some us[j]:=List.getElem?_eq_getElem hj1
       rw [List.getElem?_append_left hj1]
       rw [hfx.1,hk] at hj1
       rw [if_pos (by omega)]
       obtain ⟨b',off',e,hcj⟩:=hcellx j _ hj2
       injection e with e
       injection e with e3 e4 _
       subst e3 e4
       rw [cell_of_row w b _ c e2 (0,0) hh] at hcj
       rw [hj2,← hcj]
       simp
      ·rw [hfx.1,hk] at hj1
       rw [if_neg (by omega),if_pos (by omega),List.getElem?_append_right (by rw [hfx.1,hk]; omega),hfx.1,hk]
       congr 1
       omega)
   rw [List.length_append] at hsw
   exact ⟨_,_,_,hrun,hsw.1,hsw.2,CVr_sl (O:=fun _=>False) (w:=w),fun _ hn=>upd_ne hn⟩
 ·obtain ⟨gc,hgc,hrun⟩:=run_append_new (P:=P) (ty:=ty) (A:=A) (B:=B) (n:=xs.length) (cap:=cap) (m:=ys.length) (cap2:=cap2) (olds:=us) (news:=vs) ht hi hz w (by rw [hfx.1,hk]) hcellx (by rw [hfl.1,hk]) hcell (by omega)
   (by have:=bytes_bound hb hbd; omega) hbd
  have hsw:=swap_row (w':=w.drew.alloc (.cells (us.toArray++vs.toArray++Builtin.zeroCells z.cells (gc - (xs.length+ys.length))) e)) h hE hm hf k (xs++ys) (.slice (some ⟨w.heap.size,0,none⟩) (xs++ys).length gc)
   (fun b hb _=>alc_old w.drew _ b hb) (by simp) rfl rfl rfl
   (fun b hb=>by
    simp only [Bk,blk] at hb
    split at hb
    ·cases hb
    ·simp at hb; exact .inr (by omega))
   (fun O' hso hanti=>RowR_of_flat (heap_alloc_new w.drew _) (by omega) (by simpa using hgc.1) (by
    simp only [Array.size_append,List.size_toArray,cells_zero z _ hzs,hfl.1,hfx.1,hk]
    rw [← Nat.add_mul,← Nat.add_mul,Nat.zero_add]
    exact Nat.mul_le_mul_right _ (by omega))
    (flat_mono (w:=w) (fun b hb _=>alc_old w.drew _ b hb) hanti hfa) (fun j hj=>by
     simp only [Nat.zero_add]
     rw [Array.getElem?_append_left (by simpa using hj)]
     simp))
  rw [List.length_append] at hsw
  exact ⟨_,_,_,hrun,hsw.1,hsw.2,CVr_sl (O:=fun _=>False) (w:=w),fun _ hn=>upd_ne hn⟩
theorem stAppend_sound {C:FC} {σ:Nat→Value} {H H':Heap} {w:World} {Γ:Env} {a:Act} (h:SatW C σ H w) (hE:EnvR C σ H w Γ a) {nx:Nat} {ts:Array TypeId} {ty:TypeId} {s x:Operand} {v:CV} {cs:List Prop}
 (hst:stAppend P Γ H nx ts s x=some (v,H',cs)) (hc:allP cs) :
 ∃ u w' σ',(Builtin.append_ ts ty #[a.eval s,a.eval x]).run P w=.ok u w'∧SatW C σ' H' w'∧EnvP C σ σ' H H' w w' Γ a∧CVr (Ow C.G H' σ') w' σ' v u∧∀ n,n≠nx→σ' n=σ n:=by
 unfold stAppend at hst
 split at hst
 ·rename_i t t' hts
  split at hst
  ·rename_i ett
   subst ett
   have hts':ts = #[t,t]:=by rw [← Array.toArray_toList (xs:=ts),hts]
   subst hts'
   split at hst
   ·rename_i e hu
    split at hst
    ·rename_i i z sv xv hi hz hs hx
     split at hst
     ·rename_i hcond
      obtain ⟨hb,hzs,hf⟩:=hcond
      have hz':i.zero=some z:=by
       unfold zeroOf at hz
       rw [hi] at hz
       exact hz
      have hsr:=evc_sound hE hs
      have hxr:=evc_sound hE hx
      split at hst
      ·rename_i m
       split at hst
       ·rename_i k xs hm
        split at hst
        ·rename_i hk
         obtain ⟨ys,hys,e⟩:=Option.map_eq_some_iff.1 hst
         cases e
         simp only [allP] at hc
         obtain ⟨v,w',σ',h1,h2,h3,h4,h5⟩:=append_row (P:=P) (ty:=ty) h hE hu hi hz' hb hzs hf hk hm hys hxr hc
         simp only [CVr] at hsr
         exact ⟨v,w',σ',by rw [hsr,hd_row (h.ent _ (look_mem hm))]; exact h1,h2,h3,h4,h5⟩
        ·cases hst
       ·cases hst
      ·split at hst
       ·rename_i k hk0
        split at hst
        ·rename_i hk
         obtain ⟨ys,hys,e⟩:=Option.map_eq_some_iff.1 hst
         cases e
         simp only [allP] at hc
         obtain ⟨v,w',σ',h1,h2,h3,h4,h5⟩:=append_nothing (P:=P) (ty:=ty) (A:=none) h hE hu hi hz' hb hzs hf hk hys hxr hc
         simp only [CVr] at hsr
         exact ⟨v,w',σ',by rw [hsr]; exact h1,h2,h3,h4,h5⟩
        ·cases hst
       ·cases hst
      ·split at hst
       ·rename_i k hk0
        split at hst
        ·rename_i hk
         obtain ⟨ys,hys,e⟩:=Option.map_eq_some_iff.1 hst
         cases e
         simp only [allP] at hc
         obtain ⟨A,hA⟩:=hsr
         obtain ⟨v,w',σ',h1,h2,h3,h4,h5⟩:=append_nothing (P:=P) (ty:=ty) (A:=A) h hE hu hi hz' hb hzs hf hk hys hxr hc
         exact ⟨v,w',σ',by rw [hA]; exact h1,h2,h3,h4,h5⟩
        ·cases hst
       ·cases hst
      ·cases hst
     ·cases hst
    ·cases hst
   ·cases hst
  ·cases hst
 ·cases hst
def srcOf (P:Program) (H:Heap) (k:Kd) (t:TypeId) (x:CV):Option (List k.ty):=
 match P.underlying t,x with
 | some .string,.val (.string s) => castK (.slice (.int .u8)) (.slice k) (s.data.toList.map fun b => (b.toNat:Int))
 | some (.slice _),x => content H k x
 | _,_ => none
def putAt {α:Type} (xs ys:List α) (lo:Nat):List α:=xs.take lo++(ys++xs.drop (lo+ys.length))
def stCopy (P:Program) (Γ:Env) (H:Heap) (ts:Array TypeId) (d s:Operand):Option (CV×Heap):=
 match ts.toList with
 | [td,tsr] => match P.underlying td,evc Γ d,evc Γ s with
  | some (.slice e),some dv,some sv => match szof P e with
   | some n => match dv with
    | .h m => match look H m with
     | some (.row k xs) => if n=k.sz then (srcOf P H k tsr sv).map fun ys => (.val (.int .i64 ((ys.take xs.length).length:Nat)),(m,.row k (putAt xs (ys.take xs.length) 0)) :: eraseH H m) else none
     | _ => none
    | .sub m sz lo len => match look H m with
     | some (.row k xs) => if n=k.sz ∧ sz=k.sz then (srcOf P H k tsr sv).map fun ys => (.val (.int .i64 ((ys.take len).length:Nat)),(m,.row k (putAt xs (ys.take len) lo)) :: eraseH H m) else none
     | _ => none
    | _ => none
   | none => none
  | _,_,_ => none
 | _ => none
theorem srcOf_sound {C:FC} {σ:Nat→Value} {H:Heap} {w:World} (h:SatW C σ H w) {k:Kd} {t:TypeId} {x:CV} {v:Value} {ys:List k.ty} (hs:srcOf P H k t x=some ys) (hx:CVr (Ow C.G H σ) w σ x v) (n:Nat) :
 (Builtin.lenOf v).run P w=.ok ys.length w∧∃ vs,flat (Ow C.G H σ) w k (ys.take n) vs∧(∀ u∈vs,u.oneCell'=true)∧(Builtin.firstCells k.sz (min ys.length n) v).run P w=.ok vs.toArray w:=by
 unfold srcOf at hs
 split at hs
 ·rename_i s hu
  obtain ⟨e,rfl⟩:=castK_eq hs
  cases e
  cases hx
  refine ⟨by simp [Builtin.lenOf],((s.data.toList.take n).map fun b=>Value.int .u8 b.toNat),⟨by simp [Kd.sz],fun i hi=>?_⟩,fun u hu=>by obtain ⟨b,_,rfl⟩:=List.mem_map.1 hu; rfl,?_⟩
  ·have hi':i<(s.data.toList.take n).length:=by simpa using hi
   refine ⟨[Value.int .u8 ((s.data.toList.take n)[i]'hi').toNat],?_,fun j hj=>?_⟩
   ·simp [Kd.R]
   ·simp only [Kd.sz] at hj ⊢
    have:j=0:=by omega
    subst this
    rw [Nat.mul_one,Nat.add_zero,List.getElem?_map,List.getElem?_eq_getElem hi']
    rfl
  ·simp only [Builtin.firstCells,Sem.run_pure,List.length_map,Array.length_toList]
   congr 1
   apply Array.ext'
   simp only [Array.toList_map,ByteArray.data_extract,Array.toList_extract,List.extract_eq_take_drop,Nat.sub_zero,List.drop_zero]
   congr 1
   have:s.data.size=s.data.toList.length:=by simp
   rw [this]
   rcases Nat.le_total s.data.toList.length n with hle | hle
   ·rw [Nat.min_eq_left hle,List.take_of_length_le hle,List.take_of_length_le (Nat.le_refl _)]
   ·rw [Nat.min_eq_right hle]
 ·rename_i e x' hu
  obtain ⟨A,cap,rfl,_,hr⟩:=content_sound h hs hx
  have hp:=Reads_part hr 0 (min ys.length n) (by omega) (A':=A) (fun b off e _=>by simpa using e)
  simp only [List.drop_zero] at hp
  have et:ys.take (min ys.length n)=ys.take n:=by
   rcases Nat.le_total ys.length n with hle | hle
   ·rw [Nat.min_eq_left hle,List.take_of_length_le hle,List.take_of_length_le (Nat.le_refl _)]
   ·rw [Nat.min_eq_right hle]
  rw [et] at hp
  obtain ⟨vs,hfl,h1,hcell⟩:=Reads_flat hp
  refine ⟨by simp [Builtin.lenOf],vs,hfl,h1,run_firstCells (by rw [hfl.1]; simp [Nat.min_comm]) w hcell⟩
 ·cases hs
theorem flat_put {O:Nat→Prop} {w:World} {k:Kd} {xs ys:List k.ty} {us vs:List Value} (h1:flat O w k xs us) (h2:flat O w k ys vs) (lo:Nat) (hl:lo+ys.length≤xs.length) :
 flat O w k (putAt xs ys lo) (us.take (lo * k.sz)++(vs++us.drop (lo * k.sz+vs.length))):=by
 have htake:flat O w k (xs.take lo) (us.take (lo * k.sz)):=by
  have hmul:lo * k.sz≤xs.length * k.sz:=Nat.mul_le_mul_right _ (by omega)
  refine ⟨by rw [List.length_take,List.length_take,h1.1,Nat.min_eq_left hmul,Nat.min_eq_left (by omega)],fun i hi=>?_⟩
  simp only [List.length_take] at hi
  obtain ⟨cs,hR,hc⟩:=h1.2 i (by omega)
  refine ⟨cs,by rw [List.getElem_take]; exact hR,fun j hj=>?_⟩
  have hm2:(i+1) * k.sz≤lo * k.sz:=Nat.mul_le_mul_right _ (by omega)
  rw [Nat.add_mul,Nat.one_mul] at hm2
  rw [List.getElem?_take,if_pos (by omega)]
  exact hc j hj
 have hdrop:flat O w k (xs.drop (lo+ys.length)) (us.drop (lo * k.sz+vs.length)):=by
  have e:lo * k.sz+vs.length=(lo+ys.length) * k.sz:=by rw [h2.1,Nat.add_mul]
  refine ⟨by rw [List.length_drop,List.length_drop,h1.1,e,Nat.sub_mul],fun i hi=>?_⟩
  simp only [List.length_drop] at hi
  obtain ⟨cs,hR,hc⟩:=h1.2 (lo+ys.length+i) (by omega)
  refine ⟨cs,by rw [List.getElem_drop]; exact hR,fun j hj=>?_⟩
  rw [List.getElem?_drop,← hc j hj,e]
  congr 1
  rw [Nat.add_mul (lo+ys.length) i]
  omega
 exact flat_append htake (flat_append h2 hdrop)
theorem copy_row {C:FC} {σ:Nat→Value} {H:Heap} {w:World} {Γ:Env} {a:Act} (h:SatW C σ H w) (hE:EnvR C σ H w Γ a) {m lo len:Nat} {td tsr ty e:TypeId} (hu:P.underlying td=some (.slice e)) {k:Kd} (hz:szof P e=some k.sz) {xs:List k.ty}
 (hm:look H m=some (.row k xs)) {A:Option Addr} {l cap:Nat} (hs:σ m=.slice A l cap) {A':Option Addr} {cap':Nat} (hlo:lo+len≤l) (hcap:0<len→∃ b off,A=some ⟨b,off,none⟩∧A'=some ⟨b,off+lo * k.sz,none⟩)
 {sv:CV} {u:Value} {ys:List k.ty} (hy:srcOf P H k tsr sv=some ys) (hx:CVr (Ow C.G H σ) w σ sv u) :
 ∃ w',(Builtin.copy_ #[td,tsr] ty #[.slice A' len cap',u]).run P w=.ok (.int .i64 ((ys.take len).length:Nat)) w'∧SatW C σ ((m,.row k (putAt xs (ys.take len) lo)) :: eraseH H m) w'∧EnvP C σ σ H ((m,.row k (putAt xs (ys.take len) lo)) :: eraseH H m) w w' Γ a:=by
 obtain ⟨hlen,vs,hfl,h1,hfc⟩:=srcOf_sound (P:=P) h hy hx len
 have hent:RowR (Ow C.G H σ) w k xs (σ m):=h.ent _ (look_mem hm)
 have hent':=hent
 rw [hs] at hent'
 obtain ⟨el,hrow⟩:=RowR_flat hent'
 have hyl:(ys.take len).length≤len:=by simp; omega
 have hn:(ys.take len).length=min ys.length len:=by simp [Nat.min_comm]
 by_cases h0:ys.take len=[]
 ·-- nothing is copied
  have hput:putAt xs (ys.take len) lo=xs:=by rw [h0]; simp [putAt]
  have hvs:vs=[]:=List.eq_nil_of_length_eq_zero (by rw [hfl.1,h0]; simp)
  subst hvs
  have hmin:min ys.length len=0:=by rw [← hn,h0]; rfl
  have hrun:(Builtin.copy_ #[td,tsr] ty #[.slice A' len cap',u]).run P w=.ok (.int .i64 ((ys.take len).length:Nat)) w:=by
   have hfc':=hfc
   rw [hmin] at hfc'
   cases A' <;> simp [Builtin.copy_,run_underlying hu,hlen,run_szof hz,hmin,hfc',storeCells,goInt,h0]
  rw [hput]
  refine ⟨w,hrun,?_⟩
  have hmem:∀ p∈(m,Ent.row k xs) :: eraseH H m,p∈H:=by
   intro p hp
   rcases List.mem_cons.1 hp with rfl | hp
   ·exact look_mem hm
   ·exact (mem_eraseH.1 hp).1
  have hnd:(((m,Ent.row k xs) :: eraseH H m).map Prod.fst).Nodup:=by
   simp only [List.map_cons,List.nodup_cons]
   refine ⟨fun hh=>?_,nodup_eraseH h.nd⟩
   obtain ⟨p,hp,e⟩:=List.mem_map.1 hh
   exact (mem_eraseH.1 hp).2 e
  refine ⟨h.sub hmem hnd,hE.sub hmem,fun _ _ _=>rfl,fun b _ ho hb=>ho ?_⟩
  rcases hb with hg | ⟨p,hp,e⟩
  ·exact .inl hg
  ·exact .inr ⟨p,hmem p hp,e⟩
 ·have hpos:0<(ys.take len).length:=List.length_pos_iff.2 h0
  obtain ⟨b,off,rfl,rfl⟩:=hcap (by omega)
  rcases hrow with ⟨rfl,rfl⟩ | ⟨hp,hlc,b',off',c,e2,eA,hh,hsz⟩
  ·simp at el; omega
  ·injection eA with eA
   injection eA with e3 e4 _
   subst e3 e4
   obtain ⟨us,hfx,h1x,hcellx⟩:=Reads_flat (by obtain ⟨A2,cap2,e5,_,hr⟩:=RowR_reads hent'; injection e5 with e6 e7 e8; subst e6; exact hr)
   have hfp:=flat_put hfx hfl lo (by omega)
   have hb:Bk (σ m) b:=by rw [hs]; simp only [Bk,blk]; rw [if_neg (by omega)]
   have hmul:(lo+(ys.take len).length) * k.sz≤cap * k.sz:=Nat.mul_le_mul_right _ (by omega)
   rw [Nat.add_mul,← hfl.1] at hmul
   have hst:=run_storeCells_at P b (off+lo * k.sz) e2 vs 0 c w hh (by omega) h1
   simp only [Nat.add_zero] at hst
   have hrun:(Builtin.copy_ #[td,tsr] ty #[.slice (some ⟨b,off+lo * k.sz,none⟩) len cap',u]).run P w=.ok (.int .i64 ((ys.take len).length:Nat)) (w.setRow b (c.toList.take (off+lo * k.sz)++vs++c.toList.drop (off+lo * k.sz+vs.length)).toArray):=by
    have hmin:Nat.min ys.length len=min ys.length len:=rfl
    rw [hn]
    simp [Builtin.copy_,run_underlying hu,hlen,run_szof hz,hmin,hfc,hst,goInt]
   have hO:Ow C.G H σ b:=.inr ⟨_,look_mem hm,hb⟩
   have hso:=same_setRow (w:=w) (c':=(c.toList.take (off+lo * k.sz)++vs++c.toList.drop (off+lo * k.sz+vs.length)).toArray) hO
   have hpl:(putAt xs (ys.take len) lo).length=xs.length:=by
    simp only [putAt,List.length_append,List.length_take,List.length_drop] at *
    omega
   have hnew:EntR (Ow C.G H σ) (w.setRow b (c.toList.take (off+lo * k.sz)++vs++c.toList.drop (off+lo * k.sz+vs.length)).toArray) σ m (.row k (putAt xs (ys.take len) lo)):=by
    show RowR _ _ _ _ _
    rw [hs,el,← hpl]
    refine RowR_of_flat (setRow_heap w b c _ e2 _ hh) (by omega) (by rw [hpl]; exact hlc) ?_ (flat_mono hso (fun _ _ h=>h) hfp) (fun j hj=>?_)
    ·simp only [List.size_toArray,List.length_append,List.length_take,List.length_drop,Array.length_toList]
     omega
    ·have hul:=hfx.1
     have hmx:xs.length * k.sz≤cap * k.sz:=Nat.mul_le_mul_right _ hlc
     have hmy:(lo+(ys.take len).length) * k.sz≤xs.length * k.sz:=Nat.mul_le_mul_right _ (by omega)
     rw [Nat.add_mul,← hfl.1] at hmy
     simp only [List.length_append,List.length_take,List.length_drop] at hj
     rw [List.getElem?_toArray,List.append_assoc,splice_get _ _ _ _ (by simp; omega),splice_get _ _ _ _ (by omega)]
     have hcj:c.toList[off+j]? = us[j]?:=by
      have hj2:us[j]? = some us[j]:=List.getElem?_eq_getElem (by omega)
      obtain ⟨b',off',e,hcj⟩:=hcellx j _ hj2
      injection e with e
      injection e with e3 e4 _
      subst e3 e4
      rw [cell_of_row w b _ c e2 (0,0) hh] at hcj
      rw [hj2,← hcj]
      simp
     by_cases hj1:j<lo * k.sz
     ·rw [if_pos (by omega),if_pos hj1,hcj]
     ·by_cases hj2:j<lo * k.sz+vs.length
      ·rw [if_neg (by omega),if_pos (by omega),if_neg hj1,if_pos hj2]
       congr 1
       omega
      ·rw [if_neg (by omega),if_neg (by omega),if_neg hj1,if_neg hj2,hcj]
   have:=step_write h hE hm hb hnew
   exact ⟨_,hrun,this.1,this.2.1⟩
theorem stCopy_sound {C:FC} {σ:Nat→Value} {H H':Heap} {w:World} {Γ:Env} {a:Act} (h:SatW C σ H w) (hE:EnvR C σ H w Γ a) {ts:Array TypeId} {ty:TypeId} {d s:Operand} {v:CV}
 (hst:stCopy P Γ H ts d s=some (v,H')) :
 ∃ u w',(Builtin.copy_ ts ty #[a.eval d,a.eval s]).run P w=.ok u w'∧SatW C σ H' w'∧EnvP C σ σ H H' w w' Γ a∧CVr (Ow C.G H' σ) w' σ v u:=by
 unfold stCopy at hst
 split at hst
 ·rename_i td tsr hts
  have hts':ts = #[td,tsr]:=by rw [← Array.toArray_toList (xs:=ts),hts]
  subst hts'
  split at hst
  ·rename_i e dv sv hu hd hs
   have hdr:=evc_sound hE hd
   have hsr:=evc_sound hE hs
   split at hst
   ·rename_i n hz
    split at hst
    ·rename_i m
     split at hst
     ·rename_i k xs hm
      split at hst
      ·rename_i hn
       subst hn
       obtain ⟨ys,hys,e⟩:=Option.map_eq_some_iff.1 hst
       cases e
       have hent:RowR (Ow C.G H σ) w k xs (σ m):=h.ent _ (look_mem hm)
       obtain ⟨A,cap,hsl,hcc⟩:=hent
       simp only [CVr] at hdr
       obtain ⟨w',h1,h2,h3⟩:=copy_row (P:=P) (ty:=ty) (len:=xs.length) (lo:=0) (A':=A) (cap':=cap) h hE hu hz hm hsl (by omega) (fun hp=>by
        rcases hcc with ⟨_,rfl⟩ | ⟨_,_,b,off,c,e2,rfl,_⟩
        ·simp at hp
        ·exact ⟨b,off,rfl,by simp⟩) hys hsr
       exact ⟨_,w',by rw [hdr,hd_sl hsl]; exact h1,h2,h3,rfl⟩
      ·cases hst
     ·cases hst
    ·rename_i m sz lo len
     split at hst
     ·rename_i k xs hm
      split at hst
      ·rename_i hn
       obtain ⟨rfl,rfl⟩:=hn
       obtain ⟨ys,hys,e⟩:=Option.map_eq_some_iff.1 hst
       cases e
       obtain ⟨A,l,cap,A',cap',hsl,hv,hlen,hlo,hcap⟩:=hdr
       obtain ⟨w',h1,h2,h3⟩:=copy_row (P:=P) (ty:=ty) (len:=len) (lo:=lo) (A':=A') (cap':=cap') h hE hu hz hm ((hd_row (h.ent _ (look_mem hm))).symm.trans hsl) hlo (fun hp=>(hcap (by omega)).2) hys hsr
       exact ⟨_,w',by rw [hv]; exact h1,h2,h3,rfl⟩
      ·cases hst
     ·cases hst
    ·cases hst
   ·cases hst
  ·cases hst
 ·cases hst
end
end Go.Pal
namespace Go.Pal
open Go
def SV.map (f:CV→CV):SV→SV
 | .c x => .c (f x)
 | .agg l => .agg (l.map f)
 | .tup l => .tup (l.map fun q => (q.1,q.2.map f))
def mapΓ (f:CV→CV) (Γ:Env):Env:=Γ.map fun p=>(p.1,p.2.map f)
def mapH (f:CV→CV) (H:Heap):Heap:=H.map fun p=>(p.1,match p.2 with
 | .box cs => .box (cs.map f)
 | .lit cs => .lit (cs.map f)
 | .abox pre k bs post => .abox (pre.map f) k bs (post.map f)
 | e => e)
theorem CVs_map {O O':Nat→Prop} {w:World} {σ:Nat→Value} {f:CV→CV} (hf:∀ s v,CVr O w σ s v→CVr O' w σ (f s) v):∀ {l:List CV} {vs:List Value},CVs O w σ l vs→CVs O' w σ (l.map f) vs
 | [],[],_ => trivial
 | _ :: _,_ :: _,h => ⟨hf _ _ h.1,CVs_map hf h.2⟩
 | [],_ :: _,h => h.elim
 | _ :: _,[],h => h.elim
theorem PVs_map {O O':Nat→Prop} {w:World} {σ:Nat→Value} {f:CV→CV} (hf:∀ s v,CVr O w σ s v→CVr O' w σ (f s) v):∀ {l:List (Bool×List CV)} {vs:List Value},PVs O w σ l vs→PVs O' w σ (l.map fun q=>(q.1,q.2.map f)) vs
 | [],[],_ => trivial
 | (true,_) :: _,_ :: _,h => ⟨by obtain ⟨us,e,hu⟩ := h.1; exact ⟨us,e,CVs_map hf hu⟩,PVs_map hf h.2⟩
 | (false,[_]) :: _,_ :: _,h => ⟨hf _ _ h.1,PVs_map hf h.2⟩
 | (false,[]) :: _,_ :: _,h => h.1.elim
 | (false,_ :: _ :: _) :: _,_ :: _,h => h.1.elim
 | [],_ :: _,h => h.elim
 | _ :: _,[],h => h.elim
theorem look_map {α β:Type} {f:α→β}:∀ {l:List (Nat×α)} {t:Nat} {v:β},look (l.map fun p=>(p.1,f p.2)) t=some v→∃ u,look l t=some u∧v=f u
 | [],_,_,h => by simp [look] at h
 | (s,u) :: l,t,v,h => by
   simp only [List.map_cons,look] at h ⊢
   by_cases e:s=t
   ·rw [if_pos e] at h ⊢; cases h; exact ⟨u,rfl,rfl⟩
   ·rw [if_neg e] at h ⊢; exact look_map h
theorem SVr_map {O O':Nat→Prop} {w:World} {σ:Nat→Value} {f:CV→CV} (hf:∀ s v,CVr O w σ s v→CVr O' w σ (f s) v):∀ {s:SV} {v:Value},SVr O w σ s v→SVr O' w σ (s.map f) v
 | .c _,_,h => hf _ _ h
 | .agg _,_,h => by obtain ⟨vs,rfl,h⟩ := h; exact ⟨vs,rfl,CVs_map hf h⟩
 | .tup _,_,h => by obtain ⟨vs,rfl,h⟩ := h; exact ⟨vs,rfl,PVs_map hf h⟩
theorem EnvR_map {C:FC} {σ:Nat→Value} {H:Heap} {w:World} {Γ:Env} {a:Act} (h:EnvR C σ H w Γ a) {f:CV→CV} (hf:∀ s v,CVr (Ow C.G H σ) w σ s v→CVr (Ow C.G H σ) w σ (f s) v):EnvR C σ H w (mapΓ f Γ) a:=
 ⟨fun t sv hl=>by obtain ⟨u,hu,rfl⟩:=look_map hl; exact ⟨(h.1 t u hu).1,SVr_map hf (h.1 t u hu).2⟩,h.2⟩
def dropH (H:Heap) (ns:List Nat):Heap:=H.filter fun p=>!ns.contains p.1
theorem mem_dropH {H:Heap} {ns:List Nat} {p:Nat×Ent}:p∈dropH H ns↔p∈H∧p.1∉ns:=by simp [dropH]
theorem nodup_dropH {H:Heap} {ns:List Nat} (h:(H.map Prod.fst).Nodup):((dropH H ns).map Prod.fst).Nodup:=(List.Sublist.map _ (List.filter_sublist)).nodup h
def insS (k:Int) (l:List Int):List Int:=l.filter (fun x=>decide (x<k))++k :: l.filter (fun x=>decide (k<x))
def delS (k:Int) (l:List Int):List Int:=l.filter fun x=>!(x==k)
theorem stepS {C:FC} {σ:Nat→Value} {H:Heap} {w w':World} (h:SatW C σ H w) (ns:List Nat) (n':Nat) (e':Ent) (v':Value)
 (hfree:∀ p∈dropH H ns,p.1≠n'∧p.2.has n'=false)
 (hw:∀ b,b<w.heap.size→(∀ n∈ns,∀ e,(n,e)∈H→¬ Bk (σ n) b)→w'.heap[b]? = w.heap[b]?)
 (hs:w.heap.size≤w'.heap.size) (hos:w'.os=w.os) (ht:w'.tape=w.tape) (hou:w'.output=w.output)
 (hblk:∀ b,Bk v' b→(∃ n∈ns,(∃ e,(n,e)∈H)∧Bk (σ n) b)∨w.heap.size≤b)
 (hent:SameOff (Ow C.G H σ) w w'→(∀ b,b<w.heap.size→¬ Ow C.G H σ b→¬ Ow C.G ((n',e') :: dropH H ns) (upd σ n' v') b)→EntR (Ow C.G ((n',e') :: dropH H ns) (upd σ n' v')) w' (upd σ n' v') n' e') :
 SatW C (upd σ n' v') ((n',e') :: dropH H ns) w'∧SameOff (Ow C.G H σ) w w'∧
  ∀ b,b<w.heap.size→¬ Ow C.G H σ b→¬ Ow C.G ((n',e') :: dropH H ns) (upd σ n' v') b:=by
 have hne:∀ p∈dropH H ns,upd σ n' v' p.1=σ p.1:=fun p hp=>upd_ne (hfree p hp).1
 have hso:SameOff (Ow C.G H σ) w w':=fun b hb ho=>hw b hb fun n hn e he hb'=>ho (.inr ⟨(n,e),he,hb'⟩)
 have hanti:∀ b,b<w.heap.size→¬ Ow C.G H σ b→¬ Ow C.G ((n',e') :: dropH H ns) (upd σ n' v') b:=by
  intro b hb ho ho'
  rcases ho' with hg | ⟨p,hp,hbp⟩
  ·exact ho (.inl hg)
  ·rcases List.mem_cons.1 hp with rfl | hp
   ·rw [upd_same] at hbp
    rcases hblk b hbp with ⟨n,hn,⟨e,he⟩,hb1⟩ | hb2
    ·exact ho (.inr ⟨(n,e),he,hb1⟩)
    ·omega
   ·rw [hne p hp] at hbp
    exact ho (.inr ⟨p,(mem_dropH.1 hp).1,hbp⟩)
 have hkb:∀ p∈dropH H ns,∀ b,Bk (σ p.1) b→∀ n∈ns,∀ e,(n,e)∈H→¬ Bk (σ n) b:=by
  intro p hp b hb n hn e he
  have hp':=mem_dropH.1 hp
  exact h.disj p hp'.1 (n,e) he (fun e'=>hp'.2 (e'▸hn)) b hb
 have hold:∀ p∈dropH H ns,∀ b,Bk (σ p.1) b→w'.heap[b]? = w.heap[b]?:=fun p hp b hb=>
  hw b (blk_lt (h.ent p (mem_dropH.1 hp).1) b hb) (hkb p hp b hb)
 have hnames:∀ p∈dropH H ns,∀ m,p.2.has m=true→upd σ n' v' m=σ m:=by
  intro p hp m hm
  refine upd_ne fun e=>?_
  subst e
  rw [(hfree p hp).2] at hm
  cases hm
 refine ⟨⟨fun p hp=>?_,?_,?_,?_,?_⟩,hso,hanti⟩
 ·rcases List.mem_cons.1 hp with rfl | hp
  ·exact hent hso hanti
  ·exact EntR_names (hne p hp) (hnames p hp) (EntR_mono hso hanti (hold p hp) (h.ent p (mem_dropH.1 hp).1))
 ·simp only [List.map_cons,List.nodup_cons]
  refine ⟨fun hm=>?_,nodup_dropH h.nd⟩
  obtain ⟨p,hp,e⟩:=List.mem_map.1 hm
  exact (hfree p hp).1 e
 ·have key:∀ q∈dropH H ns,∀ b,Bk v' b→¬ Bk (σ q.1) b:=by
   intro q hq b hb hb'
   rcases hblk b hb with ⟨n,hn,⟨e,he⟩,hb1⟩ | hb2
   ·exact hkb q hq b hb' n hn e he hb1
   ·have:=blk_lt (h.ent q (mem_dropH.1 hq).1) b hb'
    omega
  intro p hp q hq hpq b hb hb'
  rcases List.mem_cons.1 hp with rfl | hp <;> rcases List.mem_cons.1 hq with rfl | hq
  ·exact hpq rfl
  ·rw [upd_same] at hb; rw [hne q hq] at hb'; exact key q hq b hb hb'
  ·rw [upd_same] at hb'; rw [hne p hp] at hb; exact key p hp b hb' hb
  ·rw [hne p hp] at hb; rw [hne q hq] at hb'; exact h.disj p (mem_dropH.1 hp).1 q (mem_dropH.1 hq).1 hpq b hb hb'
 ·intro p hp b hb
  rcases List.mem_cons.1 hp with rfl | hp
  ·rw [upd_same] at hb
   rcases hblk b hb with ⟨n,hn,⟨e,he⟩,hb1⟩ | hb2
   ·exact h.mine (n,e) he b hb1
   ·refine ⟨fun hg=>?_,.inr (Nat.le_trans h.fr.size hb2)⟩
    have:=h.fr.gsize b hg
    have:=h.fr.size
    omega
  ·rw [hne p hp] at hb
   exact h.mine p (mem_dropH.1 hp).1 b hb
 ·refine ⟨hos.trans h.fr.os,ht.trans h.fr.tape,hou.trans h.fr.output,Nat.le_trans h.fr.size hs,fun b hb ho=>?_,h.fr.gsize⟩
  rw [hw b (Nat.lt_of_lt_of_le hb h.fr.size) ?_]
  ·exact h.fr.block b hb ho
  ·intro n hn e he hb'
   rcases (h.mine (n,e) he b hb').2 with h1 | h1
   ·exact ho h1
   ·omega
theorem stepSE {C:FC} {σ:Nat→Value} {H:Heap} {w w':World} {Γ:Env} {a:Act} (h:SatW C σ H w) (hE:EnvR C σ H w Γ a) (ns:List Nat) (n':Nat) (e':Ent) (v':Value) (hf:free n' Γ H=true)
 (hw:∀ b,b<w.heap.size→(∀ n∈ns,∀ e,(n,e)∈H→¬ Bk (σ n) b)→w'.heap[b]? = w.heap[b]?)
 (hs:w.heap.size≤w'.heap.size) (hos:w'.os=w.os) (ht:w'.tape=w.tape) (hou:w'.output=w.output)
 (hblk:∀ b,Bk v' b→(∃ n∈ns,(∃ e,(n,e)∈H)∧Bk (σ n) b)∨w.heap.size≤b)
 (hent:SameOff (Ow C.G H σ) w w'→(∀ b,b<w.heap.size→¬ Ow C.G H σ b→¬ Ow C.G ((n',e') :: dropH H ns) (upd σ n' v') b)→EntR (Ow C.G ((n',e') :: dropH H ns) (upd σ n' v')) w' (upd σ n' v') n' e') :
 SatW C (upd σ n' v') ((n',e') :: dropH H ns) w'∧EnvP C σ (upd σ n' v') H ((n',e') :: dropH H ns) w w' Γ a:=by
 have hst:=stepS h ns n' e' v' (fun p hp=>free_heap hf p (mem_dropH.1 hp).1) hw hs hos ht hou hblk hent
 exact ⟨hst.1,⟨hE.step hst.2.1 hst.2.2 (free_env hf),hst.2.1,hst.2.2⟩⟩
theorem stepW {C:FC} {σ:Nat→Value} {H:Heap} {w w':World} {Γ:Env} {a:Act} (h:SatW C σ H w) (hE:EnvR C σ H w Γ a) {m:Nat} {e e':Ent} (hm:look H m=some e)
 (hw:∀ b,b<w.heap.size→¬ Bk (σ m) b→w'.heap[b]? = w.heap[b]?) (hs:w.heap.size≤w'.heap.size) (hos:w'.os=w.os) (ht:w'.tape=w.tape) (hou:w'.output=w.output)
 (hent:SameOff (Ow C.G H σ) w w'→EntR (Ow C.G H σ) w' σ m e') :
 SatW C σ ((m,e') :: eraseH H m) w'∧EnvP C σ σ H ((m,e') :: eraseH H m) w w' Γ a:=by
 have hin:=look_mem hm
 have how:∀ q,Ow C.G ((m,e') :: eraseH H m) σ q↔Ow C.G H σ q:=by
  intro q
  constructor
  ·rintro (hg | ⟨p,hp,hq⟩)
   ·exact .inl hg
   ·rcases List.mem_cons.1 hp with rfl | hp
    ·exact .inr ⟨(m,e),hin,hq⟩
    ·exact .inr ⟨p,(mem_eraseH.1 hp).1,hq⟩
  ·rintro (hg | ⟨p,hp,hq⟩)
   ·exact .inl hg
   ·by_cases hpm:p.1=m
    ·exact .inr ⟨(m,e'),List.mem_cons_self,by simpa [hpm] using hq⟩
    ·exact .inr ⟨p,List.mem_cons_of_mem _ (mem_eraseH.2 ⟨hp,hpm⟩),hq⟩
 have hso:SameOff (Ow C.G H σ) w w':=fun b hb ho=>hw b hb fun hb'=>ho (.inr ⟨(m,e),hin,hb'⟩)
 have hst:=step1 (w':=w') h m m e' (σ m) (fun _ _=>.inl rfl) (fun p hp=>(mem_eraseH.1 hp).2)
  (fun q hq hb=>hw q hq (hb e hin)) hs hos ht hou (fun q hq=>.inl ⟨hq,e,hin⟩) (by
   rw [upd_self,show Ow C.G ((m,e') :: eraseH H m) σ=Ow C.G H σ from funext fun q=>propext (how q)]
   exact hent hso)
 rw [upd_self] at hst
 exact ⟨hst.1,⟨hE.step hst.2.1 hst.2.2 (fun _ _ _ _ _=>rfl),hst.2.1,hst.2.2⟩⟩
section
variable {P:Program}
def mapTy (P:Program) (t:TypeId):Bool:=
 match P.underlying t with
 | some (.map k e) => (match P.underlying k with | some (.int .i64) => true | _ => false) && (match zeroOf P e with | some (.agg c) => c.size == 0 | _ => false)
 | _ => false
theorem mapTy_some {t:TypeId} (h:mapTy P t=true):∃ k e,P.underlying t=some (.map k e)∧P.underlying k=some (.int .i64)∧zeroOf P e=some (.agg #[]):=by
 unfold mapTy at h
 split at h
 ·rename_i k e hu
  simp only [Bool.and_eq_true] at h
  refine ⟨k,e,hu,?_,?_⟩
  ·have:=h.1; split at this
   ·assumption
   ·cases this
  ·have:=h.2; split at this
   ·rename_i c hz
    rw [hz,show c = #[] from Array.eq_empty_of_size_eq_zero (by simpa using this)]
   ·cases this
 ·cases h
theorem mem_insS {k x:Int} {l:List Int}:x∈insS k l↔x=k∨x∈l:=by
 simp only [insS,List.mem_append,List.mem_filter,List.mem_cons,decide_eq_true_eq]
 constructor
 ·rintro (⟨h,_⟩ | rfl | ⟨h,_⟩)
  ·exact .inr h
  ·exact .inl rfl
  ·exact .inr h
 ·rintro (rfl | h)
  ·exact .inr (.inl rfl)
  ·rcases Int.lt_trichotomy x k with h1 | rfl | h1
   ·exact .inl ⟨h,h1⟩
   ·exact .inr (.inl rfl)
   ·exact .inr (.inr ⟨h,h1⟩)
theorem insS_sorted {k:Int} {l:List Int} (h:l.Pairwise (·< ·)):(insS k l).Pairwise (·< ·):=by
 unfold insS
 rw [List.pairwise_append]
 refine ⟨h.filter _,List.pairwise_cons.2 ⟨fun x hx=>by simpa using (List.mem_filter.1 hx).2,h.filter _⟩,fun x hx y hy=>?_⟩
 have h1:x<k:=by simpa using (List.mem_filter.1 hx).2
 rcases List.mem_cons.1 hy with rfl | hy
 ·exact h1
 ·have h2:k<y:=by simpa using (List.mem_filter.1 hy).2
  omega
theorem insS_mem {k:Int} {l:List Int} (h:l.Pairwise (·< ·)) (hk:k∈l):insS k l=l:=by
 induction l with
 | nil => cases hk
 | cons x l ih =>
   have hx:=List.pairwise_cons.1 h
   unfold insS
   by_cases e:x=k
   ·subst e
    have h1:l.filter (fun y=>decide (y<x))=[]:=by
     rw [List.filter_eq_nil_iff]; intro y hy; have:=hx.1 y hy; simp; omega
    have h2:l.filter (fun y=>decide (x<y))=l:=by
     rw [List.filter_eq_self]; intro y hy; simpa using hx.1 y hy
    rw [List.filter_cons,List.filter_cons,if_neg (by simp),if_neg (by simp),h1,h2]; rfl
   ·have hk':k∈l:=by simpa [Ne.symm e] using hk
    have hlt:=hx.1 k hk'
    have h1:=ih hx.2 hk'
    unfold insS at h1
    rw [List.filter_cons,if_pos (by simpa using hlt),List.filter_cons,if_neg (by simp; omega),List.cons_append,h1]
theorem mem_delS {k x:Int} {l:List Int}:x∈delS k l↔x∈l∧x≠k:=by simp [delS]
open MapKept in
theorem mapR_keys {w:World} {b:Nat} {l:List Int} (h:MapR w b l):∃ es clock,w.heap[b]? = some (.map es clock)∧Stamped es clock∧(∀ x∈es.toList,IsKey (.int .i64) x.key)∧
 (∀ x∈es.toList,∃ n,x.key=.int .i64 n∧x.val=.agg #[]∧n∈l)∧(∀ n∈l,∃ x∈es.toList,x.key=.int .i64 n)∧l.Pairwise (·< ·)∧∀ n∈l,-9223372036854775808≤n∧n≤9223372036854775807:=by
 obtain ⟨es,clock,hb,hs,he,hl⟩:=h
 exact ⟨es,clock,hb,hs,fun x hx=>by obtain ⟨n,hn,_⟩:=he x hx; rw [hn]; rfl,he,hl⟩
open MapKept in
theorem map_look {w:World} {b:Nat} {l:List Int} (h:MapR w b l) {t:TypeId} (ht:mapTy P t=true) (k:Int) :
 (Instr.lookup t (.map (some b)) (.int .i64 k) true).run P w=.ok (.tuple #[.agg #[],.bool (l.contains k)]) w:=by
 obtain ⟨kt,et,hu,hk,hz⟩:=mapTy_some ht
 obtain ⟨es,clock,hb,_,hks,he,hl,_,_⟩:=mapR_keys h
 have hkey:IsKey (.int .i64) (.int .i64 k):=rfl
 rcases findNow_spec hkey es.toList 0 hks with ⟨h1,h2⟩ | ⟨j,x,h1,h2,h3⟩
 ·have hc:l.contains k=false:=by
   rw [Bool.eq_false_iff]
   intro hc
   obtain ⟨x,hx,hkx⟩:=hl k (by simpa using hc)
   exact h2 x hx hkx
  rw [hc]
  simp [Instr.lookup,run_underlying hu,MapKept.run_getObj_map hb,MapKept.run_checkKey hk hkey,run_findKey hk h1,run_zeroOf hz]
 ·have hc:l.contains k=true:=by
   obtain ⟨n,hn,_,hmem⟩:=he x (List.mem_of_getElem? h2)
   rw [hn] at h3
   injection h3 with _ h3
   subst h3
   simpa using hmem
  obtain ⟨n,_,hv,_⟩:=he x (List.mem_of_getElem? h2)
  rw [hc]
  simp [Instr.lookup,run_underlying hu,MapKept.run_getObj_map hb,MapKept.run_checkKey hk hkey,run_findKey hk h1,hv]
open MapKept in
theorem map_put {w:World} {b:Nat} {l:List Int} (h:MapR w b l) {t:TypeId} (ht:mapTy P t=true) {k:Int} (h0 : -9223372036854775808≤k) (h1:k≤9223372036854775807) :
 ∃ w',(Instr.mapUpdate t (.map (some b)) (.int .i64 k) (.agg #[])).run P w=.ok () w'∧MapR w' b (insS k l)∧(∀ q,q≠b→w'.heap[q]? = w.heap[q]?)∧w'.heap.size=w.heap.size∧w'.os=w.os∧w'.tape=w.tape∧w'.output=w.output:=by
 obtain ⟨kt,et,hu,hk,hz⟩:=mapTy_some ht
 obtain ⟨es,clock,hb,hs,hks,he,hl,hp,hr⟩:=mapR_keys h
 have hkey:IsKey (.int .i64) (.int .i64 k):=rfl
 rcases findNow_spec hkey es.toList 0 hks with ⟨h3,h4⟩ | ⟨j,x,h3,h4,h5⟩
 ·refine ⟨{w with heap:=w.heap.setIfInBounds b (.map (es.push {key:=.int .i64 k,val:=.agg #[],born:=clock}) (clock+1))},
   by simp [Instr.mapUpdate,run_underlying hu,MapKept.run_getObj_map hb,MapKept.run_checkKey hk hkey,run_findKey hk h3,run_setObj_map _ hb],
   ⟨_,_,(heap_set hb).1,stamped_push hs h4,?_,?_,insS_sorted hp,?_⟩,fun q hq=>(heap_set hb).2 q hq,by simp,rfl,rfl,rfl⟩
  ·intro x hx
   simp only [Array.toList_push,List.mem_append,List.mem_singleton] at hx
   rcases hx with hx | rfl
   ·obtain ⟨n,h6,h7,h8⟩:=he x hx
    exact ⟨n,h6,h7,mem_insS.2 (.inr h8)⟩
   ·exact ⟨k,rfl,rfl,mem_insS.2 (.inl rfl)⟩
  ·intro n hn
   rcases mem_insS.1 hn with rfl | hn
   ·exact ⟨{key:=.int .i64 n,val:=.agg #[],born:=clock},by simp,rfl⟩
   ·obtain ⟨x,hx,hx2⟩:=hl n hn
    exact ⟨x,by simp [hx],hx2⟩
  ·intro n hn
   rcases mem_insS.1 hn with rfl | hn
   ·exact ⟨h0,h1⟩
   ·exact hr n hn
 ·have hj:es[j]? = some x:=by simpa using h4
  have hkl:k∈l:=by
   obtain ⟨n,hn,_,hmem⟩:=he x (List.mem_of_getElem? h4)
   rw [hn] at h5
   injection h5 with _ h5
   exact h5▸hmem
  have hval:x.val=.agg #[]:=by obtain ⟨n,_,hv,_⟩:=he x (List.mem_of_getElem? h4); exact hv
  have hmod:es.modify j (fun e=>{e with key:=.int .i64 k,val:=.agg #[]})=es:=by
   apply Array.ext
   ·simp
   ·intro i hi1 hi2
    rw [Array.getElem_modify]
    split
    ·rename_i e
     subst e
     have:es[j]=x:=by
      have:=Array.getElem?_eq_getElem hi2
      rw [this] at hj
      exact Option.some.inj hj
     rw [this,← h5,← hval]
    ·rfl
  rw [insS_mem hp hkl]
  have hsame:({w with heap:=w.heap.setIfInBounds b (.map es clock)}:World)=w:=by
   have:w.heap.setIfInBounds b (.map es clock)=w.heap:=by
    apply Array.ext
    ·simp
    ·intro i hi1 hi2
     rw [Array.getElem_setIfInBounds]
     split
     ·rename_i e
      subst e
      rw [Array.getElem?_eq_getElem hi2] at hb
      exact (Option.some.inj hb).symm
     ·rfl
   rw [this]
  refine ⟨w,?_,h,fun _ _=>rfl,rfl,rfl,rfl,rfl⟩
  have hrun:(Instr.mapUpdate t (.map (some b)) (.int .i64 k) (.agg #[])).run P w=.ok () {w with heap:=w.heap.setIfInBounds b (.map (es.modify j (fun e=>{e with key:=.int .i64 k,val:=.agg #[]})) clock)}:=by
   simp [Instr.mapUpdate,run_underlying hu,MapKept.run_getObj_map hb,MapKept.run_checkKey hk hkey,run_findKey hk h3,hj,h5,run_keyThatStays hkey,run_setObj_map _ hb]
  rw [hrun,hmod,hsame]
open MapKept in
theorem map_del {w:World} {b:Nat} {l:List Int} (h:MapR w b l) {t kt2 ty:TypeId} (ht:mapTy P t=true) (k:Int) :
 ∃ w',(Builtin.delete_ #[t,kt2] ty #[.map (some b),.int .i64 k]).run P w=.ok (.tuple #[]) w'∧MapR w' b (delS k l)∧(∀ q,q≠b→w'.heap[q]? = w.heap[q]?)∧w'.heap.size=w.heap.size∧w'.os=w.os∧w'.tape=w.tape∧w'.output=w.output:=by
 obtain ⟨kt,et,hu,hk,hz⟩:=mapTy_some ht
 obtain ⟨es,clock,hb,hs,hks,he,hl,hp,hr⟩:=mapR_keys h
 have hkey:IsKey (.int .i64) (.int .i64 k):=rfl
 rcases findNow_spec hkey es.toList 0 hks with ⟨h3,h4⟩ | ⟨j,x,h3,h4,h5⟩
 ·have hkl:∀ n∈l,n≠k:=by
   rintro n hn rfl
   obtain ⟨x,hx,hx2⟩:=hl n hn
   exact h4 x hx hx2
  refine ⟨{w with heap:=w.heap.setIfInBounds b (.map es clock)},by simp [Builtin.delete_,run_underlying hu,MapKept.run_getObj_map hb,MapKept.run_checkKey hk hkey,run_findKey hk h3,run_setObj_map _ hb],
   ⟨es,clock,(heap_set hb).1,hs,?_,?_,hp.filter _,fun n hn=>hr n (mem_delS.1 hn).1⟩,fun q hq=>(heap_set hb).2 q hq,by simp,rfl,rfl,rfl⟩
  ·intro x hx
   obtain ⟨n,h6,h7,h8⟩:=he x hx
   exact ⟨n,h6,h7,mem_delS.2 ⟨h8,hkl n h8⟩⟩
  ·intro n hn
   exact hl n (mem_delS.1 hn).1
 ·have hsub:∀ y∈(es.eraseIdxIfInBounds j).toList,y∈es.toList∧y.key≠.int .i64 k:=by
   intro y hy
   have hjl:j<es.size:=by
    have:=(List.getElem?_eq_some_iff.1 h4).1
    simpa using this
   unfold Array.eraseIdxIfInBounds at hy
   rw [dif_pos hjl] at hy
   simp only [Array.toList_eraseIdx] at hy
   have hmem:=(List.eraseIdx_sublist _ _).subset hy
   refine ⟨hmem,fun e=>?_⟩
   have hnd:=(MapKept.stamped_iff es clock).1 hs
   obtain ⟨i,hi1,hi2⟩:=List.getElem_of_mem hy
   have hpw:=hnd.2.2
   rw [List.pairwise_iff_getElem] at hpw
   have hxk:es.toList[j]'(by simpa using hjl)=x:=by
    have:=(List.getElem?_eq_some_iff.1 h4).2
    exact this
   rw [List.getElem_eraseIdx] at hi2
   split at hi2
   ·rename_i hlt
    have:=hpw i j (by simp; omega) (by simpa using hjl) hlt
    rw [hi2,hxk,h5,e] at this
    exact this rfl
   ·rename_i hge
    have hi1':i+1<es.toList.length:=by
     have h9:=hi1
     rw [List.length_eraseIdx,if_pos (by simpa using hjl)] at h9
     omega
    have:=hpw j (i+1) (by simpa using hjl) hi1' (by omega)
    rw [hi2,hxk,h5,e] at this
    exact this rfl
  have hkeep:∀ y∈es.toList,y.key≠.int .i64 k→y∈(es.eraseIdxIfInBounds j).toList:=by
   intro y hy hne
   have hjl:j<es.size:=by
    have:=(List.getElem?_eq_some_iff.1 h4).1
    simpa using this
   unfold Array.eraseIdxIfInBounds
   rw [dif_pos hjl]
   simp only [Array.toList_eraseIdx]
   obtain ⟨i,hi1,hi2⟩:=List.getElem_of_mem hy
   rw [List.mem_eraseIdx_iff_getElem]
   refine ⟨i,hi1,fun e=>?_,hi2⟩
   subst e
   have hxk:es.toList[i]=x:=(List.getElem?_eq_some_iff.1 h4).2
   rw [← hi2,hxk,h5] at hne
   exact hne rfl
  refine ⟨{w with heap:=w.heap.setIfInBounds b (.map (es.eraseIdxIfInBounds j) clock)},by simp [Builtin.delete_,run_underlying hu,MapKept.run_getObj_map hb,MapKept.run_checkKey hk hkey,run_findKey hk h3,run_setObj_map _ hb],
   ⟨_,clock,(heap_set hb).1,stamped_erase hs _,?_,?_,hp.filter _,fun n hn=>hr n (mem_delS.1 hn).1⟩,fun q hq=>(heap_set hb).2 q hq,by simp,rfl,rfl,rfl⟩
  ·intro y hy
   obtain ⟨hy1,hy2⟩:=hsub y hy
   obtain ⟨n,h6,h7,h8⟩:=he y hy1
   exact ⟨n,h6,h7,mem_delS.2 ⟨h8,fun e=>hy2 (by rw [h6,e])⟩⟩
  ·intro n hn
   obtain ⟨hn1,hn2⟩:=mem_delS.1 hn
   obtain ⟨y,hy1,hy2⟩:=hl n hn1
   exact ⟨y,hkeep y hy1 (by rw [hy2]; intro e; injection e with _ e; exact hn2 e),hy2⟩
end
end Go.Pal
namespace Go.Pal
open Go
section
variable {P:Program}
theorem row_app {O:Nat→Prop} {w:World} {t tx ty e:TypeId} {i:TypeInfo} {z:Value} (ht:P.underlying t=some (.slice e)) {dx:TypeDesc} (htx:P.underlying tx=some dx) (hnx:∀ q,dx≠.int q) (hi:P.info? e=some i)
 (hz:i.zero=some z) (hb:0<i.bytes) (hzs:z.cells.size=i.size) {k:Kd} (hk:k.sz=i.size) {xs ys:List k.ty} {v u:Value} (hrow0:RowR O w k xs v) {vs:List Value} (hfl:flat O w k ys vs) (h1:∀ x∈vs,x.oneCell'=true)
 (hlu:∀ w',(Builtin.lenOf u).run P w'=.ok ys.length w') (hf1:(Builtin.firstCells i.size ys.length u).run P w=.ok vs.toArray w) (hf2:(Builtin.firstCells i.size ys.length u).run P w.drew=.ok vs.toArray w.drew)
 (hbd:(xs.length+ys.length) * i.bytes≤140737488355328) :
 ∃ v' w',(Builtin.append_ #[t,tx] ty #[v,u]).run P w=.ok v' w'∧(∃ A c,v'=.slice A (xs.length+ys.length) c)∧(∀ b,b<w.heap.size→¬ Bk v b→w'.heap[b]? = w.heap[b]?)∧w.heap.size≤w'.heap.size∧w'.os=w.os∧w'.tape=w.tape∧w'.output=w.output∧
   (∀ b,Bk v' b→Bk v b∨w.heap.size≤b)∧(HeadT w v e→HeadT w' v' e)∧∀ O',SameOff O w w'→(∀ b,b<w.heap.size→¬ O b→¬ O' b)→RowR O' w' k (xs++ys) v':=by
 obtain ⟨A,cap,rfl,hlc,hrx⟩:=RowR_reads hrow0
 obtain ⟨us,hfx,h1x,hcellx⟩:=Reads_flat hrx
 have hfa:=flat_append hfx hfl
 obtain ⟨_,hrow⟩:=RowR_flat hrow0
 have hzer:(match dx with | .int _=>true | _=>false)=false:=by
  cases dx <;> first | rfl | (rename_i q; exact (hnx q rfl).elim)
 by_cases hroom:xs.length+ys.length≤cap
 ·rcases hrow with ⟨rfl,rfl⟩ | ⟨hp,_,b,off,c,e2,rfl,hh,hsz⟩
  ·have hy:ys=[]:=List.eq_nil_of_length_eq_zero (by simpa using hroom)
   subst hy
   have hvs:vs=[]:=List.eq_nil_of_length_eq_zero (by rw [hfl.1]; simp)
   subst hvs
   refine ⟨.slice A 0 0,w,?_,⟨A,0,rfl⟩,fun _ _ _=>rfl,Nat.le_refl _,rfl,rfl,rfl,fun b hb=>.inl hb,fun hT A' len' cap' hv=>(by cases hv; exact hT _ _ _ rfl),fun O' _ _=>⟨A,0,rfl,.inl ⟨rfl,rfl⟩⟩⟩
   have:=hlu w
   have hf1':(Builtin.firstCells i.size 0 u).run P w=.ok #[] w:=by simpa using hf1
   cases A <;> simp [Builtin.append_,run_underlying ht,run_underlying htx,sizeOf,typeInfo,hi,hlu,hf1',storeCells]
  ·have hmul:(xs.length+ys.length) * k.sz≤cap * k.sz:=Nat.mul_le_mul_right _ hroom
   rw [Nat.add_mul] at hmul
   have hfit:off+xs.length * i.size+vs.length≤c.size:=by rw [← hk,hfl.1]; omega
   have hst:=run_storeCells_at P b (off+xs.length * i.size) e2 vs 0 c w hh (by omega) h1
   simp only [Nat.add_zero] at hst
   have hblk:Bk (.slice (some ⟨b,off,none⟩) xs.length cap) b:=by simp only [Bk,blk]; rw [if_neg (by omega)]
   refine ⟨.slice (some ⟨b,off,none⟩) (xs.length+ys.length) cap,w.setRow b (c.toList.take (off+xs.length * i.size)++vs++c.toList.drop (off+xs.length * i.size+vs.length)).toArray,?_,⟨_,_,rfl⟩,
    fun q _ hq=>setRow_other w b q _ (fun e=>hq (e▸hblk)),by simp [World.setRow],rfl,rfl,rfl,fun q hq=>?_,fun hT A' len' cap' hv=>?_,fun O' hso hanti=>?_⟩
   ·simp [Builtin.append_,run_underlying ht,run_underlying htx,sizeOf,typeInfo,hi,hlu,hroom,hf1,Addr.add_lit,hst]
   ·simp only [Bk,blk] at hq
    rw [if_neg (by omega)] at hq
    simp at hq
    exact .inl (hq▸hblk)
   ·cases hv
    rcases hT _ _ _ rfl with ⟨h0,_⟩ | ⟨hc,b',c',e1,hh'⟩
    ·omega
    ·cases e1
     rw [hh] at hh'
     cases hh'
     exact .inr ⟨hc,b,_,rfl,setRow_heap w b c _ e _ hh⟩
   ·rw [← List.length_append]
    refine RowR_of_flat (setRow_heap w b c _ e2 _ hh) (by omega) (by simpa using hroom) ?_ (flat_mono hso hanti hfa) (fun j hj=>?_)
    ·simp only [List.size_toArray,List.length_append,List.length_take,List.length_drop,Array.length_toList]
     omega
    ·rw [List.getElem?_toArray,List.append_assoc,splice_get _ _ _ _ (by simp; omega)]
     rw [List.length_append,hfx.1,hk] at hj
     by_cases hj1:j<us.length
     ·have hj2:us[j]? = some us[j]:=List.getElem?_eq_getElem hj1
      rw [List.getElem?_append_left hj1]
      rw [hfx.1,hk] at hj1
      rw [if_pos (by omega)]
      obtain ⟨b',off',e,hcj⟩:=hcellx j _ hj2
      injection e with e
      injection e with e3 e4 _
      subst e3 e4
      rw [cell_of_row w b _ c e2 (0,0) hh] at hcj
      rw [hj2,← hcj]
      simp
     ·rw [hfx.1,hk] at hj1
      rw [if_neg (by omega),if_pos (by omega),List.getElem?_append_right (by rw [hfx.1,hk]; omega),hfx.1,hk]
      congr 1
      omega
 ·have h63:xs.length+ys.length≤9223372036854775807:=by have:=bytes_bound hb hbd; omega
  have hn:¬ (xs.length+ys.length≤cap):=hroom
  have hg:cap<xs.length+ys.length:=by omega
  have h63':¬ (9223372036854775807<((xs.length:Int)+(ys.length:Int))):=by omega
  have h48':¬ (281474976710656<Builtin.nextslicecap (xs.length+ys.length) cap * i.bytes):=by have:=growslice_fits hg hbd; omega
  have hfo:=run_firstCells (P:=P) (l:=xs.length) (cap:=cap) (size:=i.size) (by rw [hfx.1,hk]) w.drew (by simpa using hcellx)
  refine ⟨.slice (some ⟨w.heap.size,0,none⟩) (xs.length+ys.length) (grownCap w (xs.length+ys.length) cap e),
   w.drew.alloc (.cells (us.toArray++vs.toArray++Builtin.zeroCells z.cells (grownCap w (xs.length+ys.length) cap e - (xs.length+ys.length))) e),?_,⟨_,_,rfl⟩,
   fun b hb _=>alc_old w.drew _ b hb,by simp,rfl,rfl,rfl,fun b hb=>?_,fun _ A' len' cap' hv=>(by cases hv; exact .inr ⟨by have:=grownCap_ge w (xs.length+ys.length) cap e; omega,_,_,rfl,heap_alloc_new w.drew _⟩),fun O' hso hanti=>?_⟩
  ·simp [Builtin.append_,run_underlying ht,run_underlying htx,sizeOf,typeInfo,zeroValue,hi,hz,hlu,hn,h63',h48',Question.forced,hf2,hfo,newRow,grownCap]
   congr 2
   apply Array.ext'
   simp [List.append_assoc]
  ·simp only [Bk,blk] at hb
   split at hb
   ·cases hb
   ·simp at hb; exact .inr (by omega)
  ·have hgc1:=grownCap_ge w (xs.length+ys.length) cap e
   have hgc2:=grownCap_le_maxLen w (xs.length+ys.length) cap e h63
   have key:RowR O' (w.drew.alloc (.cells (us.toArray++vs.toArray++Builtin.zeroCells z.cells (grownCap w (xs.length+ys.length) cap e - (xs.length+ys.length))) e)) k (xs++ys) (.slice (some ⟨w.heap.size,0,none⟩) (xs++ys).length (grownCap w (xs.length+ys.length) cap e)):=by
    refine RowR_of_flat (heap_alloc_new w.drew _) hgc2 (by rw [List.length_append]; exact hgc1) ?_ (flat_mono hso hanti hfa) (fun j hj=>?_)
    ·simp only [Array.size_append,List.size_toArray,cells_zero z _ hzs,hfl.1,hfx.1,hk]
     rw [← Nat.add_mul,← Nat.add_mul,Nat.zero_add]
     exact Nat.mul_le_mul_right _ (by omega)
    ·simp only [Nat.zero_add]
     rw [Array.getElem?_append_left (by simpa using hj)]
     simp
   rw [List.length_append] at key
   exact key
structure OutX where
 v:SV
 H:Heap
 nx:Nat
 c:List Prop
 f:CV→CV
def DoesX (P:Program) (C:FC) (σ:Nat→Value) (H:Heap) (nx:Nat) (Γ:Env) (a:Act) (w:World) (o:Oper) (out:OutX):Prop:=
 ∃ u w' σ',((execOp a.eval o).run P w=.ok (.value u) w'∨((execOp a.eval o).run P w=.ok .skip w'∧u=undef))∧SatW C σ' out.H w'∧EnvP C σ σ' H out.H w w' Γ a∧SVr (Ow C.G out.H σ') w' σ' out.v u∧
   (∀ n,n≠nx∨out.nx=nx→σ' n=σ n)∧∀ s v,CVr (Ow C.G out.H σ') w' σ' s v→CVr (Ow C.G out.H σ') w' σ' (out.f s) v
theorem alloc_ent {C:FC} {σ:Nat→Value} {H:Heap} {w w':World} {Γ:Env} {a:Act} (h:SatW C σ H w) (hE:EnvR C σ H w Γ a) {m:Nat} (hf:free m Γ H=true) (e':Ent) (v':Value)
 (hw:∀ b,b<w.heap.size→w'.heap[b]? = w.heap[b]?) (hs:w.heap.size≤w'.heap.size) (hos:w'.os=w.os) (ht:w'.tape=w.tape) (hou:w'.output=w.output)
 (hblk:∀ b,Bk v' b→w.heap.size≤b)
 (hent:SameOff (Ow C.G H σ) w w'→(∀ b,b<w.heap.size→¬ Ow C.G H σ b→¬ Ow C.G ((m,e') :: H) (upd σ m v') b)→EntR (Ow C.G ((m,e') :: H) (upd σ m v')) w' (upd σ m v') m e') :
 SatW C (upd σ m v') ((m,e') :: H) w'∧EnvP C σ (upd σ m v') H ((m,e') :: H) w w' Γ a:=by
 have e:dropH H []=H:=by simp [dropH]
 have:=stepSE (w':=w') h hE [] m e' v' hf (fun b hb _=>hw b hb) hs hos ht hou (fun b hb=>.inr (hblk b hb)) (by rw [e]; exact hent)
 rw [e] at this
 exact this
def bytesL (s:ByteArray):List Int:=s.data.toList.map fun b=>(b.toNat:Int)
theorem flat_bytes {O:Nat→Prop} {w:World} (s:ByteArray):flat O w (.int .u8) (bytesL s) ((bytesL s).map (Value.int .u8)):=by
 refine ⟨by simp [Kd.sz],fun i hi=>⟨[.int .u8 (bytesL s)[i]],rfl,fun j hj=>?_⟩⟩
 simp only [Kd.sz] at hj
 obtain rfl:j=0:=by omega
 simp [Kd.sz,hi]
theorem bytesL_len (s:ByteArray):(bytesL s).length=s.size:=by simp only [bytesL,List.length_map,Array.length_toList]; rfl
theorem firstCells_str (s:ByteArray) (w:World):(Builtin.firstCells 1 (bytesL s).length (.string s)).run P w=.ok ((bytesL s).map (Value.int .u8)).toArray w:=by
 have hl:(bytesL s).length=s.size:=bytesL_len s
 have he:s.extract 0 s.size=s:=by
  apply ByteArray.ext
  rw [ByteArray.data_extract]
  exact Array.extract_size
 simp only [Builtin.firstCells,hl,he,Sem.run_pure]
 congr 1
 apply Array.ext'
 simp [bytesL]
def appStr (P:Program) (Γ:Env) (H:Heap) (nx:Nat) (t tx:TypeId) (s x:Operand):Option OutX:=
 match P.underlying t,P.underlying tx with
 | some (.slice e),some .string => match P.info? e,zeroOf P e,evc Γ s,evc Γ x with
  | some i,some z,some sv,some (.val (.string str)) =>
    if (0<i.bytes∧z.cells.size=i.size∧i.size=1)∧free nx Γ H=true then
     match sv with
     | .h m => match look H m with
      | some (.row (.int .u8) xs) => some ⟨.c (.h nx),(nx,.row (.int .u8) (xs ++ bytesL str)) :: eraseH H m,nx+1,[(xs.length+(bytesL str).length) * i.bytes ≤ 140737488355328],id⟩
      | _ => none
     | .val (.slice none 0 0) => some ⟨.c (.h nx),(nx,.row (.int .u8) (bytesL str)) :: H,nx+1,[(bytesL str).length * i.bytes ≤ 140737488355328],id⟩
     | .zc => some ⟨.c (.h nx),(nx,.row (.int .u8) (bytesL str)) :: H,nx+1,[(bytesL str).length * i.bytes ≤ 140737488355328],id⟩
     | _ => none
    else none
  | _,_,_,_ => none
 | _,_ => none
theorem appStr_sound {C:FC} {σ:Nat→Value} {H:Heap} {w:World} {Γ:Env} {a:Act} (h:SatW C σ H w) (hE:EnvR C σ H w Γ a) {nx:Nat} {t tx ty:TypeId} {s x:Operand} {out:OutX}
 (hst:appStr P Γ H nx t tx s x=some out) (hc:allP out.c) :
 ∃ u w' σ',(Builtin.append_ #[t,tx] ty #[a.eval s,a.eval x]).run P w=.ok u w'∧SatW C σ' out.H w'∧EnvP C σ σ' H out.H w w' Γ a∧SVr (Ow C.G out.H σ') w' σ' out.v u∧(∀ n,n≠nx→σ' n=σ n)∧out.f=id∧out.nx=nx+1:=by
 unfold appStr at hst
 split at hst
 ·rename_i e ht htx
  split at hst
  ·rename_i i z sv str hi hz0 hs hx
   split at hst
   ·rename_i hcond
    obtain ⟨⟨hb,hzs,h1⟩,hf⟩:=hcond
    have hz:i.zero=some z:=by simpa [zeroOf,hi] using hz0
    have hsr:=evc_sound hE hs
    have hxr:a.eval x=.string str:=evc_sound hE hx
    rw [hxr]
    have hk:Kd.sz (.int .u8)=i.size:=by rw [h1]; rfl
    have hlu:∀ w',(Builtin.lenOf (.string str)).run P w'=.ok (bytesL str).length w':=fun w'=>by rw [bytesL_len]; rfl
    have hone:∀ x∈(bytesL str).map (Value.int .u8),x.oneCell'=true:=by intro x hx; obtain ⟨y,_,rfl⟩:=List.mem_map.1 hx; rfl
    have nil:∀ A:Option Addr,allP [(bytesL str).length * i.bytes≤140737488355328]→∃ u w' σ',(Builtin.append_ #[t,tx] ty #[.slice A 0 0,.string str]).run P w=.ok u w'∧SatW C σ' ((nx,.row (.int .u8) (bytesL str)) :: H) w'∧EnvP C σ σ' H ((nx,.row (.int .u8) (bytesL str)) :: H) w w' Γ a∧
     CVr (Ow C.G ((nx,.row (.int .u8) (bytesL str)) :: H) σ') w' σ' (.h nx) u∧∀ n,n≠nx→σ' n=σ n:=by
     intro A hbd
     simp only [allP] at hbd
     obtain ⟨v',w',hrun,⟨A',c',rfl⟩,h2,h3,h4,h5,h6,h7,hT,h8⟩:=row_app (P:=P) (ty:=ty) (O:=Ow C.G H σ) (xs:=[]) ht htx (by intro q hq; cases hq) hi hz hb hzs hk ⟨A,0,rfl,.inl ⟨rfl,rfl⟩⟩ (flat_bytes str) hone hlu
      (by rw [h1]; exact firstCells_str str w) (by rw [h1]; exact firstCells_str str w.drew) (by simpa using hbd)
     simp only [List.nil_append,List.length_nil,Nat.zero_add] at h8 hrun h7
     have hal:=alloc_row (w':=w') h hE hf (.int .u8) (bytesL str) (.slice A' (bytesL str).length c') (fun b hb=>h2 b hb (by cases A <;> simp [Bk,blk])) h3 h4 h5 h6
      (fun b hb=>(h7 b hb).elim (fun q=>by cases A <;> simp [Bk,blk] at q) id) (fun O' hO'=>h8 O' (fun b hb _=>h2 b hb (by cases A <;> simp [Bk,blk])) hO')
     exact ⟨_,_,_,hrun,hal.1,hal.2,CVr_sl (O:=fun _=>False) (w:=w),fun _ hn=>upd_ne hn⟩
    split at hst
    ·rename_i m
     split at hst
     ·rename_i xs hm
      cases hst
      simp only [allP] at hc
      have hrow:RowR (Ow C.G H σ) w (.int .u8) xs (σ m):=h.ent _ (look_mem hm)
      obtain ⟨v',w',hrun,⟨A',c',rfl⟩,h2,h3,h4,h5,h6,h7,hT,h8⟩:=row_app (P:=P) (ty:=ty) ht htx (by intro q hq; cases hq) hi hz hb hzs hk hrow (flat_bytes str) hone hlu
       (by rw [h1]; exact firstCells_str str w) (by rw [h1]; exact firstCells_str str w.drew) hc
      have hsw:=swap_row (w':=w') h hE hm hf (.int .u8) (xs++bytesL str) (.slice A' (xs.length+(bytesL str).length) c') h2 h3 h4 h5 h6 h7 h8
      simp only [CVr] at hsr
      exact ⟨_,_,_,by rw [hsr,hd_row hrow]; exact hrun,hsw.1,hsw.2,CVr_sl (O:=fun _=>False) (w:=w),fun _ hn=>upd_ne hn,rfl,rfl⟩
     ·cases hst
    ·cases hst
     obtain ⟨u,w',σ',g1,g2,g3,g4,g5⟩:=nil none hc
     simp only [CVr] at hsr
     exact ⟨u,w',σ',by rw [hsr]; exact g1,g2,g3,g4,g5,rfl,rfl⟩
    ·cases hst
     obtain ⟨A,hsr⟩:=hsr
     obtain ⟨u,w',σ',g1,g2,g3,g4,g5⟩:=nil A hc
     exact ⟨u,w',σ',by rw [hsr]; exact g1,g2,g3,g4,g5,rfl,rfl⟩
    ·cases hst
   ·cases hst
  ·cases hst
 ·cases hst
def appB (P:Program) (Γ:Env) (H:Heap) (nx:Nat) (t tx:TypeId) (s x:Operand):Option OutX:=
 match P.underlying t,P.underlying tx with
 | some (.slice e),some dx => match P.info? e,zeroOf P e,evc Γ s,evc Γ x with
  | some i,some z,some (.h m),some xv => match look H m with
   | some (.brow e0 xs) =>
     if (0<i.bytes∧z.cells.size=i.size∧i.size=1)∧e0=e∧free nx Γ H=true then
      match dx,xv with
      | .string,.val (.string str) => some ⟨.c (.h nx),(nx,.brow e (xs ++ bytesL str)) :: dropH H [m],nx+1,[(xs.length+(bytesL str).length) * i.bytes ≤ 140737488355328],id⟩
      | .slice _,xv => if tx=t then (content H (.int .u8) xv).map fun ys => ⟨.c (.h nx),(nx,.brow e (xs ++ ys)) :: dropH H [m],nx+1,[(xs.length+ys.length) * i.bytes ≤ 140737488355328],id⟩ else none
      | _,_ => none
     else none
   | _ => none
  | _,_,_,_ => none
 | _,_ => none
theorem appB_step {C:FC} {σ:Nat→Value} {H:Heap} {w w':World} {Γ:Env} {a:Act} (h:SatW C σ H w) (hE:EnvR C σ H w Γ a) {nx m:Nat} {e:TypeId} {xs zs:List Int} {v':Value} (hm:look H m=some (.brow e xs)) (hf:free nx Γ H=true)
 (g2:∀ b,b<w.heap.size→¬ Bk (σ m) b→w'.heap[b]? = w.heap[b]?) (g3:w.heap.size≤w'.heap.size) (g4:w'.os=w.os) (g5:w'.tape=w.tape) (g6:w'.output=w.output) (g7:∀ b,Bk v' b→Bk (σ m) b∨w.heap.size≤b)
 (gT:HeadT w (σ m) e→HeadT w' v' e) (g8:∀ O',SameOff (Ow C.G H σ) w w'→(∀ b,b<w.heap.size→¬ Ow C.G H σ b→¬ O' b)→RowR O' w' (.int .u8) zs v') :
 SatW C (upd σ nx v') ((nx,.brow e zs) :: dropH H [m]) w'∧EnvP C σ (upd σ nx v') H ((nx,.brow e zs) :: dropH H [m]) w w' Γ a:=
 stepSE (w':=w') h hE [m] nx (.brow e zs) v' hf (fun q hq hno=>g2 q hq (hno m (by simp) _ (look_mem hm))) g3 g4 g5 g6
  (fun b hb=>(g7 b hb).imp (fun q=>⟨m,by simp,⟨_,look_mem hm⟩,q⟩) id)
  (fun hso hanti=>by
   show RowR _ _ _ _ _∧HeadT _ _ _
   rw [upd_same]
   exact ⟨g8 _ hso hanti,gT (h.ent _ (look_mem hm)).2⟩)
theorem appB_sound {C:FC} {σ:Nat→Value} {H:Heap} {w:World} {Γ:Env} {a:Act} (h:SatW C σ H w) (hE:EnvR C σ H w Γ a) {nx:Nat} {t tx ty:TypeId} {s x:Operand} {out:OutX} (hst:appB P Γ H nx t tx s x=some out) (hc:allP out.c) :
 ∃ u w' σ',(Builtin.append_ #[t,tx] ty #[a.eval s,a.eval x]).run P w=.ok u w'∧SatW C σ' out.H w'∧EnvP C σ σ' H out.H w w' Γ a∧SVr (Ow C.G out.H σ') w' σ' out.v u∧(∀ n,n≠nx→σ' n=σ n)∧out.f=id∧out.nx=nx+1:=by
 unfold appB at hst
 split at hst
 ·rename_i e dx ht htx
  split at hst
  ·rename_i i z m xv hi hz0 hs hx
   split at hst
   ·rename_i e0 xs hm
    split at hst
    ·rename_i hcond
     obtain ⟨⟨hb,hzs,h1⟩,rfl,hf⟩:=hcond
     have hz:i.zero=some z:=by simpa [zeroOf,hi] using hz0
     have hk:Kd.sz (.int .u8)=i.size:=by rw [h1]; rfl
     have hsr:=evc_sound hE hs
     have hxr:=evc_sound hE hx
     have hrow:RowR (Ow C.G H σ) w (.int .u8) xs (σ m):=(h.ent _ (look_mem hm)).1
     simp only [CVr] at hsr
     rw [hd_row hrow] at hsr
     split at hst
     ·rename_i str
      cases hst
      simp only [allP] at hc
      have hxv:a.eval x=.string str:=hxr
      have hlu:∀ w',(Builtin.lenOf (.string str)).run P w'=.ok (bytesL str).length w':=fun w'=>by rw [bytesL_len]; rfl
      have hone:∀ x∈(bytesL str).map (Value.int .u8),x.oneCell'=true:=by intro x hx; obtain ⟨y,_,rfl⟩:=List.mem_map.1 hx; rfl
      obtain ⟨v',w',hrun,⟨A',c',hv'⟩,g2,g3,g4,g5,g6,g7,gT,g8⟩:=row_app (P:=P) (ty:=ty) ht htx (by intro q hq; cases hq) hi hz hb hzs hk hrow (flat_bytes str) hone hlu
       (by rw [h1]; exact firstCells_str str w) (by rw [h1]; exact firstCells_str str w.drew) hc
      have hst:=appB_step h hE hm hf g2 g3 g4 g5 g6 g7 gT g8
      refine ⟨v',w',_,by rw [hsr,hxv]; exact hrun,hst.1,hst.2,?_,fun _ hn=>upd_ne hn,rfl,rfl⟩
      simp only [SVr,CVr]
      rw [upd_same,hv']
      rfl
     ·rename_i e2 _
      split at hst
      ·rename_i htt
       subst htt
       obtain ⟨ys,hys,e'⟩:=Option.map_eq_some_iff.1 hst
       cases e'
       simp only [allP] at hc
       obtain ⟨B,cap2,hxv,_,hrd⟩:=content_sound h hys hxr
       obtain ⟨us,hfl,hone,hcell⟩:=Reads_flat hrd
       obtain ⟨v',w',hrun,⟨A',c',hv'⟩,g2,g3,g4,g5,g6,g7,gT,g8⟩:=row_app (P:=P) (ty:=ty) ht ht (by intro q hq; cases hq) hi hz hb hzs hk hrow hfl hone
        (u:=.slice B ys.length cap2) (fun w'=>rfl) (by rw [← hk]; exact run_firstCells hfl.1 w hcell) (by rw [← hk]; exact run_firstCells hfl.1 w.drew (by simpa using hcell)) hc
       have hst:=appB_step h hE hm hf g2 g3 g4 g5 g6 g7 gT g8
       refine ⟨v',w',_,by rw [hsr,hxv]; exact hrun,hst.1,hst.2,?_,fun _ hn=>upd_ne hn,rfl,rfl⟩
       simp only [SVr,CVr]
       rw [upd_same,hv']
       rfl
      ·cases hst
     ·cases hst
    ·cases hst
   ·cases hst
  ·cases hst
 ·cases hst
def stClear (P:Program) (Γ:Env) (H:Heap) (nx:Nat) (t:TypeId) (x:Operand):Option OutX:=
 match P.underlying t,evc Γ x with
 | some (.slice e),some (.sub m sz lo len) => match look H m,zeroOf P e,szof P e with
  | some (.row k xs),some z,some n => match k.rd (z.cells.toList.map CV.val) with
   | some z0 => if sz=k.sz ∧ n=k.sz ∧ z.cells.size=k.sz then some ⟨.tup [],(m,.row k (putAt xs (List.replicate len z0) lo)) :: eraseH H m,nx,[],id⟩ else none
   | none => none
  | _,_,_ => none
 | _,_ => none
theorem zeroCells_flat {O:Nat→Prop} {w:World} {k:Kd} {z0:k.ty} {z:Value} (hR:k.R O w z0 z.cells.toList) (n:Nat):flat O w k (List.replicate n z0) (Builtin.zeroCells z.cells n).toList:=by
 have hl:=R_len hR
 simp only [Array.length_toList] at hl
 refine ⟨by simp [Builtin.zeroCells,hl],fun i hi=>?_⟩
 obtain ⟨cs,h1,h2⟩:=zero_rows hR n n (Nat.le_refl _) _ rfl i hi
 refine ⟨cs,h1,fun j hj=>?_⟩
 rw [← h2 j hj]
 simp only [Builtin.zeroCells,hl,Array.toArray_toList,Array.getElem?_toList]
theorem row_put {C:FC} {σ:Nat→Value} {H:Heap} {w:World} {Γ:Env} {a:Act} (h:SatW C σ H w) (hE:EnvR C σ H w Γ a) {m lo:Nat} {k:Kd} {xs ys:List k.ty} (hm:look H m=some (.row k xs)) {b off cap l:Nat} (hs:σ m=.slice (some ⟨b,off,none⟩) l cap)
 (hlo:lo+ys.length≤xs.length) (hpos:0<ys.length) {vs:List Value} (hfl:flat (Ow C.G H σ) w k ys vs) (h1:∀ v∈vs,v.oneCell'=true) :
 ∃ w',(storeCells ⟨b,off+lo * k.sz,none⟩ vs).run P w=.ok () w'∧SatW C σ ((m,.row k (putAt xs ys lo)) :: eraseH H m) w'∧EnvP C σ σ H ((m,.row k (putAt xs ys lo)) :: eraseH H m) w w' Γ a:=by
 have hent:RowR (Ow C.G H σ) w k xs (σ m):=h.ent _ (look_mem hm)
 have hent':=hent
 rw [hs] at hent'
 obtain ⟨el,hrow⟩:=RowR_flat hent'
 rcases hrow with ⟨rfl,rfl⟩ | ⟨hp,hlc,b',off',c,e2,eA,hh,hsz⟩
 ·simp only [List.length_nil] at hlo; omega
 ·injection eA with eA
  injection eA with e3 e4 _
  subst e3 e4
  obtain ⟨us,hfx,h1x,hcellx⟩:=Reads_flat (by obtain ⟨A2,cap2,e5,_,hr⟩:=RowR_reads hent'; injection e5 with e6 e7 e8; subst e6; exact hr)
  have hfp:=flat_put hfx hfl lo (by omega)
  have hb:Bk (σ m) b:=by rw [hs]; simp only [Bk,blk]; rw [if_neg (by omega)]
  have hmul:(lo+ys.length) * k.sz≤cap * k.sz:=Nat.mul_le_mul_right _ (by omega)
  rw [Nat.add_mul,← hfl.1] at hmul
  have hst:=run_storeCells_at P b (off+lo * k.sz) e2 vs 0 c w hh (by omega) h1
  simp only [Nat.add_zero] at hst
  have hO:Ow C.G H σ b:=.inr ⟨_,look_mem hm,hb⟩
  have hso:=same_setRow (w:=w) (c':=(c.toList.take (off+lo * k.sz)++vs++c.toList.drop (off+lo * k.sz+vs.length)).toArray) hO
  have hpl:(putAt xs ys lo).length=xs.length:=by
   simp only [putAt,List.length_append,List.length_take,List.length_drop] at *
   omega
  have hnew:EntR (Ow C.G H σ) (w.setRow b (c.toList.take (off+lo * k.sz)++vs++c.toList.drop (off+lo * k.sz+vs.length)).toArray) σ m (.row k (putAt xs ys lo)):=by
   show RowR _ _ _ _ _
   rw [hs,el,← hpl]
   refine RowR_of_flat (setRow_heap w b c _ e2 _ hh) (by omega) (by rw [hpl]; exact hlc) ?_ (flat_mono hso (fun _ _ h=>h) hfp) (fun j hj=>?_)
   ·simp only [List.size_toArray,List.length_append,List.length_take,List.length_drop,Array.length_toList]
    omega
   ·have hul:=hfx.1
    have hmx:xs.length * k.sz≤cap * k.sz:=Nat.mul_le_mul_right _ hlc
    have hmy:(lo+ys.length) * k.sz≤xs.length * k.sz:=Nat.mul_le_mul_right _ (by omega)
    rw [Nat.add_mul,← hfl.1] at hmy
    simp only [List.length_append,List.length_take,List.length_drop] at hj
    rw [List.getElem?_toArray,List.append_assoc,splice_get _ _ _ _ (by simp; omega),splice_get _ _ _ _ (by omega)]
    have hcj:c.toList[off+j]? = us[j]?:=by
     have hj2:us[j]? = some us[j]:=List.getElem?_eq_getElem (by omega)
     obtain ⟨b',off',e,hcj⟩:=hcellx j _ hj2
     injection e with e
     injection e with e3 e4 _
     subst e3 e4
     rw [cell_of_row w b _ c e2 (0,0) hh] at hcj
     rw [hj2,← hcj]
     simp
    by_cases hj1:j<lo * k.sz
    ·rw [if_pos (by omega),if_pos hj1,hcj]
    ·rw [if_neg (by omega),if_neg hj1]
     by_cases hj2:j<lo * k.sz+vs.length
     ·rw [if_pos (by omega),if_pos hj2]
      congr 1
      omega
     ·rw [if_neg (by omega),if_neg hj2,hcj]
  have:=step_write h hE hm (b:=b) hb hnew
  exact ⟨_,hst,this.1,this.2.1⟩
theorem stClear_sound {C:FC} {σ:Nat→Value} {H:Heap} {w:World} {Γ:Env} {a:Act} (h:SatW C σ H w) (hE:EnvR C σ H w Γ a) {nx:Nat} {t ty:TypeId} {x:Operand} {out:OutX} (hst:stClear P Γ H nx t x=some out) :
 ∃ w',(Builtin.clear_ #[t] ty #[a.eval x]).run P w=.ok (.tuple #[]) w'∧SatW C σ out.H w'∧EnvP C σ σ H out.H w w' Γ a∧out.v=.tup []∧out.f=id∧out.nx=nx:=by
 unfold stClear at hst
 split at hst
 ·rename_i e m sz lo len hu hx
  split at hst
  ·rename_i k xs z n hm hz hn
   split at hst
   ·rename_i z0 hz0
    split at hst
    ·rename_i hcond
     obtain ⟨rfl,rfl,hzs⟩:=hcond
     cases hst
     have hv:=evc_sound hE hx
     simp only [CVr] at hv
     obtain ⟨A,l,cap,A',cap',hs,hv,hlen,hlo,hcap⟩:=hv
     have hs':σ m=.slice A l cap:=(hd_row (h.ent _ (look_mem hm))).symm.trans hs
     have hR:=rd_sound (O:=Ow C.G H σ) (w:=w) (σ:=σ) hz0 CVs_vals
     rw [hv]
     rcases Nat.eq_zero_or_pos len with rfl | hpos
     ·refine ⟨w,by cases A' <;> simp [Builtin.clear_,run_underlying hu],?_⟩
      have hput:putAt xs (List.replicate 0 z0) lo=xs:=by simp [putAt]
      rw [hput]
      have hmem:∀ p∈(m,Ent.row k xs) :: eraseH H m,p∈H:=by
       intro p hp
       rcases List.mem_cons.1 hp with rfl | hp
       ·exact look_mem hm
       ·exact (mem_eraseH.1 hp).1
      have hnd:(((m,Ent.row k xs) :: eraseH H m).map Prod.fst).Nodup:=by
       simp only [List.map_cons,List.nodup_cons]
       refine ⟨fun hh=>?_,nodup_eraseH h.nd⟩
       obtain ⟨p,hp,e⟩:=List.mem_map.1 hh
       exact (mem_eraseH.1 hp).2 e
      refine ⟨h.sub hmem hnd,⟨hE.sub hmem,fun _ _ _=>rfl,fun b _ ho hb=>ho ?_⟩,rfl,rfl,rfl⟩
      rcases hb with hg | ⟨p,hp,e⟩
      ·exact .inl hg
      ·exact .inr ⟨p,hmem p hp,e⟩
     ·obtain ⟨_,b,off,rfl,rfl⟩:=hcap (by omega)
      have hxl:l=xs.length:=by
       obtain ⟨A2,cap2,e2,_⟩:=RowR_reads (h.ent _ (look_mem hm))
       have e2':σ m=.slice A2 xs.length cap2:=e2
       rw [hs'] at e2'
       injection e2'
      obtain ⟨w',hrun,g1,g2⟩:=row_put (P:=P) h hE (ys:=List.replicate len z0) (lo:=lo) hm hs' (by simp; omega) (by simpa using hpos) (zeroCells_flat hR len) (by
       intro v hv
       simp only [Builtin.zeroCells,Array.toList_map,List.mem_map] at hv
       obtain ⟨i,hi,rfl⟩:=hv
       have hsz:=k.sz_pos
       have:i % z.cells.size<z.cells.size:=Nat.mod_lt _ (by omega)
       rw [getElem!_pos z.cells _ this]
       exact R_one hR _ (by simp))
      refine ⟨w',?_,g1,g2,rfl,rfl,rfl⟩
      cases len with
      | zero => omega
      | succ len => simp [Builtin.clear_,run_underlying hu,run_zeroOf hz,hrun]
    ·cases hst
   ·cases hst
  ·cases hst
 ·cases hst
end
end Go.Pal
