/- A part of the proof of WholeView. -/
import Derived.Test.YtidbfmbocikkgaaGreatPureWholeViewa
open Bool renaming and_eq_true→bq,and_true→mn,eq_iff_iff→jj,false_and→ec,false_eq_true→iq,false_or→mm,not_true→tm,or_eq_false_iff→ml,or_eq_true→fl,true_and→dq
open ByteArray renaming empty→cc
open Decidable renaming em→yn
open Go.IntKind renaming wrap→ba
open Go.Utf8 renaming decode→gj,encode→gi,valid→kr
open Int renaming le_of_lt→ym,le_refl→eo,lt_or_le→nu,natCast_zero→ix,tdiv→eq,toNat→bc
open List renaming all_cons→kj,all_eq_true→cn,any_cons→ii,append_nil→cm,cons_append→db,contains_iff_mem→fi,drop_drop→lq,drop_eq_getElem_cons→ij,drop_eq_nil_of_le→lx,drop_left→ou,drop_left'→wj,drop_length→qv,drop_zero→ic,eq_nil_of_length_eq_zero→bx,exists_cons_of_length_pos→pg,filter_cons→fx,filter_eq_nil_iff→ko,filter_eq_self→ir,foldl_cons→fk,getD→bb,getD_cons_zero→lv,getD_eq_getElem?_getD→bu,getElem?_drop→ft,getElem?_eq_getElem→bj,getElem_map→qx,getElem_take→mi,length→bg,length_drop→cq,length_filter_le→mc,length_map→du,length_nil→eb,length_set→iw,length_singleton→ck,length_take→co,map_append→rq,map_congr_left→lu,map_cons→dj,map_id→vq,map_map→nb,mem_append→cf,mem_cons→bv,mem_filter→ef,mem_iff_getElem→lb,mem_map→cj,mem_singleton→df,nil_append→cd,not_mem_nil→gu,pairwise_cons→dz,pairwise_map→ku,replicate→bn,singleton_append→jD,sum_cons→qn,take→cu,takeWhile_cons→jv,take_append_drop→dm,take_left'→wi,take_of_length_le→fj
open List.cons renaming injEq→ia
open Nat renaming add_mul→ey,add_sub_cancel→ky,add_zero→ee,eq_zero_or_pos→ki,le_of_lt→yl,le_refl→bp,le_trans→fo,mul_div_cancel→tv,mul_le_mul_right→dl,sub_self→nf,sub_zero→nc,zero_add→ew
open Option renaming bind→Aa,getD→gz,getD_some→gt,isSome_some→nj,map_some→fy
open Option.some renaming inj→fg,injEq→dw
open Prod.mk renaming inj→zz,injEq→le
open Sum renaming elim_inr→gq
open UInt8 renaming ofNat→cw,toNat_ofNat'→pz
namespace Go.Pal
open Go
set_option linter.unusedVariables false
set_option linter.unusedSimpArgs false
set_option linter.unnecessarySimpa false
variable {n b x a e f v p rev w f' grp to r' kd y z q:Int}
variable {j K i m h:Nat}
variable {s t:ByteArray}
variable {u o g gs u':List Int}
variable {l old:List Atm}
variable {us U:List (List Int)}
variable {c:List Chg}
variable {d:List El}
variable {A X B P Q D sp:List Sp}
variable {ps:List ByteArray}
variable {sel rg:List Rg}
variable {R:Option (Option tH)}
theorem rS {n' c d d' e':Int} (hn:n<=n') (hd:2<=n->d'=d) (he:3<=n->e'=e) (hf:4<=n->f'=f) (h:B6 n c d e f≠0):B6 n' c d' e' f'=B6 n c d e f:=by
 unfold B6 at *;split;·rfl
 ·rename_i h1;rw[iN h1] at h;split
  ·rename_i h2;rw[iP h2] at h;by_cases c2:2<=n/\A3 d/\128<=c%32*64+d%64;·rw[hd c2.1,iP c2,iP ⟨by omega,c2.2⟩]
   ·rw[iN c2] at h;exact absurd rfl h
  ·rename_i h2;rw[iN h2] at h;split
   ·rename_i h3;rw[iP h3] at h;by_cases c3:3<=n/\A3 d/\A3 e/\2048<=(c%16*64+d%64)*64+e%64/\¬(55296<=(c%16*64+d%64)*64+e%64/\(c%16*64+d%64)*64+e%64<57344);·rw[hd (by omega),he c3.1,iP c3,iP ⟨by omega,c3.2⟩]
    ·rw[iN c3] at h;exact absurd rfl h
   ·rename_i h3;rw[iN h3] at h;split
    ·rename_i h4;rw[iP h4] at h;by_cases c4:4<=n/\A3 d/\A3 e/\A3 f/\65536<=((c%8*64+d%64)*64+e%64)*64+f%64/\((c%8*64+d%64)*64+e%64)*64+f%64<=1114111;·rw[hd (by omega),he (by omega),hf c4.1,iP c4,iP ⟨by omega,c4.2⟩]
     ·rw[iN c4] at h;exact absurd rfl h
    ·first
     |rfl
     | (rename_i h4
        rw[iN h4] at h
        exact absurd rfl h)
theorem bX {a b:ByteArray} (h:usz a (i:Int)≠0):usz (a++b) (i:Int)=usz a (i:Int):=by
 unfold usz at *;by_cases h1:(i:Int)<0\/(i:Int)>=a.size;·rw[iP h1] at h;exact absurd rfl h
 ·have hb:=DK (a:=a) (b:=b);rw[iN h1] at h ⊢;rw[tz,GS (by omega)];refine rS (by omega) (λhh=>?_) (λhh=>?_) (λhh=>?_) h
  ·have e:(i:Int)+1=((i+1:Nat):Int):=by omega
   rw[e,GS (by omega)]
  ·have e:(i:Int)+2=((i+2:Nat):Int):=by omega
   rw[e,GS (by omega)]
  ·have e:(i:Int)+3=((i+3:Nat):Int):=by omega
   rw[e,GS (by omega)]
theorem bY {a b:ByteArray}:usz (a++b) ((a.size+i:Nat):Int)=usz b (i:Int):=by
 unfold usz;have hb:=DK (a:=a) (b:=b);by_cases h1:(i:Int)<0\/(i:Int)>=b.size;·rw[iP h1,tw]
 ·rw[iN h1,tz,K7];have e1:((a.size+i:Nat):Int)+1=((a.size+(i+1):Nat):Int):=by omega
  have e2:((a.size+i:Nat):Int)+2=((a.size+(i+2):Nat):Int):=by omega
  have e3:((a.size+i:Nat):Int)+3=((a.size+(i+3):Nat):Int):=by omega
  rw[e1,e2,e3,K7,K7,K7,show ((a++b).size:Int)-((a.size+i:Nat):Int)=(b.size:Int)-i by omega];rfl
theorem TC:∀(d m m':Nat) (a:Nat),s.size-a<=d->d<=m->d<=m'->AA s m (a:Int)=AA s m' (a:Int):=by
 intro d;induction d with
 | zero =>
   intro m m' a h hm hm';cases m with
   | zero => cases m' with
     |zero=>rfl
     |succ m'=>rw[AA,AA,tz]
   | succ m => cases m' with
     |zero=>rw[AA,AA,tz]
     |succ m'=>rw[AA,AA,tz,tz]
 | succ d ih =>
   intro m m' a h hm hm';obtain⟨m,rfl⟩:=ug (k:=m);obtain⟨m',rfl⟩:∃l,m'=l+1:=⟨m'-1,by omega⟩;have hu:=CK (s:=s) (a:=a);rw[AA,AA];split
   ·split;·rfl
    ·obtain⟨n,hn⟩:∃n:Nat,(a:Int)+usz s a=n:=⟨((a:Int)+usz s a).toNat,by omega⟩;rw[hn];exact ih m m' n (by omega) (by omega) (by omega)
   ·rfl
theorem s9 {a b:ByteArray} (hb:A4 b=true):∀(d i m:Nat),a.size-i=d->i<=a.size->d+b.size<=m->AA a d (i:Int)=true->AA (a++b) m (i:Int)=true:=by
 have hsz:=DK (a:=a) (b:=b);have right:∀(e j m:Nat),b.size-j<=e->j<=b.size->e<=m->AA b e (j:Int)=true->AA (a++b) m ((a.size+j:Nat):Int)=true:=by
  intro e;induction e with
  | zero =>
    intro j m h1 h2 h3 h4;cases m with
    |zero=>rfl
    |succ m=>rw[AA,tz]
  | succ e ih =>
    intro j m h1 h2 h3 h4;obtain⟨m,rfl⟩:=ug (k:=m);have hu:=CK (s:=b) (a:=j);rw[AA] at h4 ⊢;by_cases hj:(j:Int)<b.size
    ·have hu3:=hu.2.2 (by omega) hj;rw[iP hj] at h4;rw[tw,bY];by_cases hz:usz b j=0;·rw[iP hz] at h4;cases h4
     ·rw[iN hz] at h4 ⊢;obtain⟨n,hn⟩:∃n:Nat,usz b j=n:=⟨(usz b j).toNat,by omega⟩;rw[hn] at h4 hu3 hz ⊢;have e1:((a.size+j:Nat):Int)+(n:Int)=((a.size+(j+n):Nat):Int):=by omega
      have e2:(j:Int)+(n:Int)=((j+n:Nat):Int):=by omega
      rw[e1];rw[e2] at h4;exact ih (j+n) m (by omega) (by omega) (by omega) h4
    ·rw[tz]
 intro d;induction d using Nat.strongRecOn with
 | _ d ih =>
   intro i m h1 h2 h3 h4;by_cases hi:i=a.size
   ·subst hi;have:=right b.size 0 m (by omega) (by omega) (by omega) hb;simpa using this
   ·obtain⟨d,rfl⟩:=ug (k:=d);obtain⟨m,rfl⟩:=ug (k:=m);have hu:=CK (s:=a) (a:=i);have hu3:=hu.2.2 (by omega) (by omega);rw[AA,tw] at h4;rw[AA,tw];by_cases hz:usz a i=0;·rw[iP hz] at h4;cases h4
    ·rw[iN hz] at h4;rw[bX hz,iN hz];obtain⟨n,hn⟩:∃n:Nat,usz a i=n:=⟨(usz a i).toNat,by omega⟩;rw[hn] at h4 hu3 hz ⊢;have e2:(i:Int)+(n:Int)=((i+n:Nat):Int):=by omega
     rw[e2] at h4 ⊢;refine ih (a.size-(i+n)) (by omega) (i+n) m rfl (by omega) (by omega) ?_;rw[TC (a.size-(i+n)) (a.size-(i+n)) d (i+n) (by omega) (by omega) (by omega)];exact h4
theorem c6 {a b:ByteArray} (ha:A4 a=true) (hb:A4 b=true):A4 (a++b)=true:=by unfold A4;have h:=s9 hb a.size 0 (a++b).size (by omega) (by omega) (by rw[DK];omega) ha;exact h
theorem rQ {n' c d d' e':Int} (h:B6 n' c d' e' f'=v) (hv:v≠0) (hvn:v<=n) (hd:2<=v->d=d') (he:3<=v->e=e') (hf:4<=v->f=f'):B6 n c d e f=v:=by
 unfold B6 at h ⊢;split;·rename_i h1;rw[iP h1] at h;exact h
 ·rename_i h1;rw[iN h1] at h;split
  ·rename_i h2;rw[iP h2] at h;by_cases c2:2<=n'/\A3 d'/\128<=c%32*64+d'%64
   ·rw[iP c2] at h;rw[hd (by omega),iP ⟨by omega,c2.2⟩,h]
   ·rw[iN c2] at h;exact absurd h.symm hv
  ·rename_i h2;rw[iN h2] at h;split
   ·rename_i h3;rw[iP h3] at h;by_cases c3:3<=n'/\A3 d'/\A3 e'/\2048<=(c%16*64+d'%64)*64+e'%64/\¬(55296<=(c%16*64+d'%64)*64+e'%64/\(c%16*64+d'%64)*64+e'%64<57344)
    ·rw[iP c3] at h;rw[hd (by omega),he (by omega),iP ⟨by omega,c3.2⟩,h]
    ·rw[iN c3] at h;exact absurd h.symm hv
   ·rename_i h3;rw[iN h3] at h;split
    ·rename_i h4;rw[iP h4] at h;by_cases c4:4<=n'/\A3 d'/\A3 e'/\A3 f'/\65536<=((c%8*64+d'%64)*64+e'%64)*64+f'%64/\((c%8*64+d'%64)*64+e'%64)*64+f'%64<=1114111
     ·rw[iP c4] at h;rw[hd (by omega),he (by omega),hf (by omega),iP ⟨by omega,c4.2⟩,h]
     ·rw[iN c4] at h;exact absurd h.symm hv
    ·rename_i h4;rw[iN h4] at h;exact h
theorem rU {a b:ByteArray} (hz:usz (a++b) (i:Int)≠0) (h:(i:Int)+usz (a++b) i<=a.size):usz a (i:Int)=usz (a++b) (i:Int):=by
 have hu:=CK (s:=a++b) (a:=i);have hb:=DK (a:=a) (b:=b);have hia:(i:Int)<a.size:=by omega
 generalize hv:usz (a++b) (i:Int)=v at *;unfold usz at hv ⊢;rw[tz] at hv ⊢;rw[GS (by omega)] at hv;refine rQ hv hz (by omega) (λh2=>?_) (λh3=>?_) (λh4=>?_);·rw[show (i:Int)+1=((i+1:Nat):Int) by omega,GS (by omega)]
 ·rw[show (i:Int)+2=((i+2:Nat):Int) by omega,GS (by omega)]
 ·rw[show (i:Int)+3=((i+3:Nat):Int) by omega,GS (by omega)]
theorem sD {a b:ByteArray} (he:b.size=0\/¬A3 (bt b 0)):∀(d i m:Nat),a.size-i<=d->i<=a.size->(a++b).size-i<=m->AA (a++b) m (i:Int)=true->AA a d (i:Int)=true:=by
 have hsz:=DK (a:=a) (b:=b);intro d;induction d with
 |zero=>intro i m _ _ _ _;rfl
 | succ d ih =>
   intro i m h1 h2 h3 h4;rw[AA];by_cases hi:(i:Int)<a.size
   ·obtain⟨m,rfl⟩:=ug (k:=m);have hu:=CK (s:=a++b) (a:=i);have hu3:=hu.2.2 (by omega) (by omega);rw[AA,tw] at h4;by_cases hz:usz (a++b) i=0;·rw[iP hz] at h4;cases h4
    ·rw[iN hz] at h4;have hle:(i:Int)+usz (a++b) i<=a.size:=by
      rcases nu (a.size:Int) ((i:Int)+usz (a++b) i) with h5|h5
      ·exfalso;have hc:=T8 (s:=a++b) (i:=i) (j:=a.size) (by omega) h5;rcases he with he|he;·omega
       ·have:=K7 (a:=a) (b:=b) (i:=0);rw[ee] at this;rw[this] at hc;exact he hc
      ·exact h5
     rw[iP hi,rU hz hle,iN hz];obtain⟨n,hn⟩:∃n:Nat,usz (a++b) i=n:=⟨(usz (a++b) i).toNat,by omega⟩;rw[hn] at h4 hu3 hz hle ⊢;have e2:(i:Int)+(n:Int)=((i+n:Nat):Int):=by omega
     rw[e2] at h4 ⊢;exact ih (i+n) m (by omega) (by omega) (by omega) h4
   ·rw[iN hi]
theorem sC {a b:ByteArray}:∀(d i m:Nat),a.size-i<=d->i<=a.size->(a++b).size-i<=m->AA a d (i:Int)=true->AA (a++b) m (i:Int)=true->AA (a++b) (a++b).size (a.size:Int)=true:=by
 have hsz:=DK (a:=a) (b:=b);intro d;induction d with
 | zero =>
   intro i m h1 h2 h3 _ h4;rw[show i=a.size by omega] at h4 h3;rw[<-TC ((a++b).size-a.size) m (a++b).size a.size (bp _) h3 (by omega)];exact h4
 | succ d ih =>
   intro i m h1 h2 h3 h4 h5;by_cases hi:i=a.size
   ·subst hi;rw[<-TC ((a++b).size-a.size) m (a++b).size a.size (bp _) h3 (by omega)];exact h5
   ·obtain⟨m,rfl⟩:=ug (k:=m);have hu:=CK (s:=a) (a:=i);have hu3:=hu.2.2 (by omega) (by omega);rw[AA,tw] at h4 h5;by_cases hz:usz a i=0;·rw[iP hz] at h4;cases h4
    ·rw[iN hz] at h4;rw[bX hz,iN hz] at h5;obtain⟨n,hn⟩:∃n:Nat,usz a i=n:=⟨(usz a i).toNat,by omega⟩;rw[hn] at h4 h5 hu3 hz;have e2:(i:Int)+(n:Int)=((i+n:Nat):Int):=by omega
     rw[e2] at h4 h5;exact ih (i+n) m (by omega) (by omega) (by omega) h4 h5
theorem sE {a b:ByteArray}:∀(d j m:Nat),b.size-j<=d->j<=b.size->b.size-j<=m->AA (a++b) m ((a.size+j:Nat):Int)=true->AA b d (j:Int)=true:=by
 have hsz:=DK (a:=a) (b:=b);intro d;induction d with
 |zero=>intro j m _ _ _ _;rfl
 | succ d ih =>
   intro j m h1 h2 h3 h4;rw[AA];by_cases hj:(j:Int)<b.size
   ·obtain⟨m,rfl⟩:=ug (k:=m);have hu:=CK (s:=b) (a:=j);have hu3:=hu.2.2 (by omega) hj;rw[AA,tw,bY] at h4;rw[iP hj];by_cases hz:usz b j=0;·rw[iP hz] at h4;cases h4
    ·rw[iN hz] at h4 ⊢;obtain⟨n,hn⟩:∃n:Nat,usz b j=n:=⟨(usz b j).toNat,by omega⟩;rw[hn] at h4 hu3 hz ⊢;have e1:((a.size+j:Nat):Int)+(n:Int)=((a.size+(j+n):Nat):Int):=by omega
     have e2:(j:Int)+(n:Int)=((j+n:Nat):Int):=by omega
     rw[e1] at h4;rw[e2];exact ih (j+n) m (by omega) (by omega) (by omega) h4
   ·rw[iN hj]
theorem sH {a b:ByteArray} (h:A4 (a++b)=true) (ha:A4 a=true):A4 b=true:=by unfold A4 at h ha ⊢;have hsz:=DK (a:=a) (b:=b);have h1:=sC (a:=a) (b:=b) a.size 0 (a++b).size (by omega) (by omega) (by omega) ha h;exact sE (a:=a) (b:=b) b.size 0 (a++b).size (by omega) (by omega) (by omega) (by rw[ee];exact h1)
theorem sF {a b:ByteArray} (h:A4 (a++b)=true) (he:b.size=0\/¬A3 (bt b 0)):A4 a=true:=by unfold A4 at h ⊢;exact sD (a:=a) (b:=b) he a.size 0 (a++b).size (by omega) (by omega) (by omega) h
theorem kG {a b:List Int}:tP (a++b)=tP a++tP b:=by apply ByteArray.ext;rw[ByteArray.data_append];unfold tP;simp
def C4 (ps:List ByteArray):List Int:=(ps.map tR).flatten
theorem U2 {a b:List ByteArray}:C4 (a++b)=C4 a++C4 b:=by unfold C4;rw[rq,List.flatten_append]
theorem ME {a:ByteArray} {b:List ByteArray}:C4 (a::b)=tR a++C4 b:=rfl
theorem VW:∀{ps:List ByteArray},inB (C4 ps)=true
 |[]=>rfl
 |p::ps=>by rw[ME,VU,VV,VW];rfl
theorem ZN {K:Nat} {ps:List ByteArray}:∀(r:List ByteArray) (j k:Nat) (x:List Int),ps.drop j=r->ps.length<=100000->r.length<k->(x++C4 r).length<=1000000->DV.l0 K ps k x (j:Int)=some (x++C4 r)
 | [],j,k+1,x,h,_,_,_ => by have:=A1 h;rw[DV.l0,tt];simp[C4]
 | p :: r,j,k+1,x,h,hn,hk,hx => by
   obtain⟨h1,h2,h3⟩:=A0 h cc;rw[ME,<-aA] at hx ⊢;have hx2:(x++tR p).length<=1000000:=by rw[lA] at hx;omega
   rw[lA] at hx2;rw[DV.l0,tq,iP ⟨by omega,by omega⟩,tN,h2,JV,M0,oB,tw,oB,up1];exact ZN r (j+1) k _ h3 hn (by simpa using hk) hx
def Tr (h:Nat) (q:Option tH) (ps:List ByteArray):Prop:=∃t,q=some t/\t.n=((ps.length:Nat):Int)/\∀K,100000<=K->∀k,h<k->∀out,out.length+ps.length<=1000000->BL.f K k (some t) out=some (out++ps)
def Rw (h:Nat):List (Option tH)->List ByteArray->Prop
 |[],l=>l=[]
 |q::r,l=> ∃a b,l=a++b/\Tr h q a/\Rw h r b
theorem Rw.snoc {h:Nat} {q:Option tH} {b:List ByteArray}:∀{r:List (Option tH)} {a:List ByteArray},Rw h r a->Tr h q b->Rw h (r++[q]) (a++b)
 | [],a,ha,hq => by obtain rfl:a=[]:=ha;exact⟨b,[],by simp,hq,rfl⟩
 | x :: r,a,ha,hq => by obtain⟨a1,a2,rfl,h1,h2⟩:=ha;exact⟨a1,a2++b,by simp,h1,Rw.snoc h2 hq⟩
theorem Rw.cut:∀{l:List (Option tH)} {ps:List ByteArray} (i:Nat),Rw h l ps->∃a b,ps=a++b/\Rw h (l.take i) a/\Rw h (l.drop i) b
 |l,ps,0,hr=>⟨[],ps,rfl,by simp[Rw],by simpa using hr⟩
 |[],ps,i+1,hr=>⟨[],ps,rfl,by simp[Rw],by simpa using hr⟩
 | q :: l,ps,i+1,hr => by obtain⟨a,b,rfl,h1,h2⟩:=hr;obtain⟨c,d,rfl,h3,h4⟩:=h2.cut i;exact⟨a++c,d,by simp,⟨a,c,rfl,h1,h3⟩,h4⟩
theorem TS {K:Nat} {h k0:Nat} {x:Option tH} {l:List (Option tH)} (hK:100000<=K) (hx:tH.kids (gz x (tH.mk [] [] 0 0 0 0 0 0))=l) (hk0:h<k0) (hl:l.length<=50000):∀(r:List (Option tH)) (ps:List ByteArray) (j k:Nat) (out:List ByteArray),l.drop j=r->Rw h r ps->r.length<k->out.length+ps.length<=1000000->
 BL.l0 K (BL.f K k0) x k out (j:Int)=some (out++ps)
 | [],ps,j,k+1,out,hd,hr,_,_ => by have:=A1 hd;obtain rfl:ps=[]:=hr;rw[BL.l0,hx,tt,cm]
 | q :: r,ps,j,k+1,out,hd,hr,hk,ho => by obtain⟨h1,h2,h3⟩:=A0 hd (none:Option tH);obtain⟨a,b,rfl,⟨t,rfl,-,ht⟩,h5⟩:=hr;rw[lA] at ho;rw[BL.l0,hx,tq,iP ⟨by omega,by omega⟩,tN,h2,ht K hK k0 hk0 out (by omega),oB,up1,TS hK hx hk0 hl r b (j+1) k (out++a) h3 h5 (by simpa using hk) (by rw[lA];omega),aA]
theorem r9 {l:List ByteArray} {d c:Int}:Tr 0 (some (tH.mk [] l ((l.length:Nat):Int) d a b c e)) l:=by refine⟨_,rfl,rfl,λK hK k hk out ho=>?_⟩;obtain⟨k,rfl⟩:=ug (k:=k);have e1:tH.items (gz (some (tH.mk [] l ((l.length:Nat):Int) d a b c e)) (tH.mk [] [] 0 0 0 0 0 0))=l:=rfl;rw[BL.f,e1,iP ⟨rfl,by omega⟩];obtain⟨m,rfl⟩:∃m,K=m+1:=⟨K-1,by omega⟩;rw[BL.l0,iN];show ¬decide ((0:Int)<(([]:List (Option tH)).length:Nat))=true;simp
theorem r8 {l:List (Option tH)} {d c:Int} (hr:Rw h l ps) (hl:l.length<=50000) (hn:n=((ps.length:Nat):Int)):Tr (h+1) (some (tH.mk l [] n d a b c e)) ps:=by refine⟨_,rfl,hn,λK hK k hk out ho=>?_⟩;obtain⟨k,rfl⟩:=ug (k:=k);have e1:tH.items (gz (some (tH.mk l [] n d a b c e)) (tH.mk [] [] 0 0 0 0 0 0))=[]:=rfl;rw[BL.f,e1,iP ⟨rfl,by simp;omega⟩,cm];exact TS (l:=l) hK rfl (by omega) hl l ps 0 K out rfl hr (by omega) ho
theorem rM {r:Int}:∃n,KA K r=some n:=by unfold KA;split<;>exact⟨_,rfl⟩
theorem dM {r:Int}:∃n,K9 K r=some n:=by obtain⟨n,hn⟩:=rM (K:=K) (r:=r);unfold K9;rw[hn,oB];split<;>exact⟨_,rfl⟩
theorem UA {K:Nat} {s:ByteArray} (hv:s.size<=100000):∀(m t k:Nat) (a b c d:Int),AA s m t=true->s.size<=t+m->m<k->∃r,FF.l0 K s k a b c d t=some r
 |m,t,0,a,b,c,d,_,_,hk=>by omega
 | m,t,k+1,a,b,c,d,hu,hm,hk => by
   rw[FF.l0];by_cases ht:t<s.size
   ·obtain⟨m,rfl⟩:=ug (k:=m);have hz:usz s t≠0:=λhz=>by
     rw[AA,tw,iP hz] at hu;cases hu
    have hu2:AA s m (t+usz s t)=true:=by rw[AA,tw,iN hz] at hu;exact hu
    obtain⟨c',z,h1,h2,h3,_⟩:=KC ht hz;obtain⟨n,hn⟩:=dM (K:=K) (r:=(((gj s t).1:Nat):Int));rw[iP (by simpa using ht),hn,oB,HQ,oB];rw[h1];exact UA hv m (t+z) k _ _ _ _ (by rw[show ((t+z:Nat):Int)=t+usz s t by omega];exact hu2) (by omega) (by omega)
   ·rw[iN (by simpa using ht)];exact⟨_,rfl⟩
theorem qN {p:ByteArray} (hK:100000<=K) (hv:A4 p=true) (hp:p.size<=64):∃r,LT K p=some r:=by obtain⟨r,hr⟩:=UA (K:=K) (s:=p) (by omega) p.size 0 K 0 0 0 0 hv (by omega) (by omega);rw[LT,FF,PC hK (by omega) hv,oB,hr,oB];exact⟨_,rfl⟩
def Pc (l:List ByteArray):Prop:=∀p∈l,A4 p=true/\p.size<=64
theorem WI {K:Nat} {l:List ByteArray} (hK:100000<=K) (hl:l.length<=50000) (hp:Pc l):∀(r:List ByteArray) (j k:Nat) (a b c d:Int),l.drop j=r->r.length<k->∃q,F6.l0 K l k a b c d (j:Int)=some q/\Tr 0 q l
 | [],j,k+1,a,b,c,d,h,_ => by have:=A1 h;rw[F6.l0,tt];exact⟨_,rfl,r9⟩
 | p :: r,j,k+1,a,b,c,d,h,hk => by obtain⟨h1,h2,h3⟩:=A0 h cc;have hpm:=hp p (mdr h);obtain⟨s,hs⟩:=qN hK hpm.1 hpm.2;rw[F6.l0,tq,iP ⟨by omega,by omega⟩,tN,h2,hs,oB,JI,HQ,oB,oB,up1];exact WI hK hl hp r (j+1) k _ _ _ _ h3 (by simpa using hk)
theorem iW {l:List ByteArray} (hK:100000<=K) (hl:l.length<=50000) (hp:Pc l):∃q,F6 K l=some q/\Tr 0 q l:=
 WI hK hl hp l 0 K 0 0 0 0 rfl (by omega)
theorem ZM {h:Nat}:∀{l:List (Option tH)} {ps:List ByteArray} {q:Option tH},Rw h l ps->q∈l->Option.isSome q=true
 | x :: l,ps,q,hr,hm => by
   obtain⟨a,b,rfl,⟨t,rfl,-⟩,h2⟩:=hr;rcases bv.1 hm with rfl|hm;·rfl
   ·exact ZM h2 hm
theorem VZ {K h:Nat} {l:List (Option tH)} {ps:List ByteArray} (hK:100000<=K) (hl:l.length<=50000) (hR:Rw h l ps) (hps:ps.length<=50000):∀(r:List (Option tH)) (pa pb:List ByteArray) (j k:Nat) (a b c d:Int),l.drop j=r->pa++pb=ps->Rw h r pb->r.length<k->∃q,EQ.l0 K l k ((pa.length:Nat):Int) a b c d (j:Int)=some q/\Tr (h+1) q ps
 | [],pa,pb,j,k+1,a,b,c,d,hd,he,hr,_ => by have:=A1 hd;obtain rfl:pb=[]:=hr;rw[EQ.l0,tt];exact⟨_,rfl,r8 hR hl (by rw[<-he,cm])⟩
 | q :: r,pa,pb,j,k+1,a,b,c,d,hd,he,hr,hk => by
   obtain⟨h1,h2,h3⟩:=A0 hd (none:Option tH);obtain⟨x,y,rfl,⟨t,rfl,ht,-⟩,h5⟩:=hr;have hlen:pa.length+x.length<=50000:=by rw[<-he] at hps;simp at hps;omega
   rw[EQ.l0,tq,iP ⟨by omega,by omega⟩,tN,h2,nj,iP rfl,JI,HQ,oB,oB,up1,gt,ht,w64,show ((pa.length:Nat):Int)+((x.length:Nat):Int)=(((pa++x).length:Nat):Int) by simp];exact VZ hK hl hR hps r (pa++x) y (j+1) k _ _ _ _ h3 (by rw[<-he];simp) h5 (by simpa using hk)
theorem iB {l:List (Option tH)} (hK:100000<=K) (hl:l.length<=50000) (h0:0<l.length) (hR:Rw h l ps) (hps:ps.length<=50000):∃q,EQ K l=some q/\Tr (h+1) q ps:=by rw[EQ,iP ⟨by omega,ZM hR (HY h0)⟩];exact VZ hK hl hR hps l [] ps 0 K 0 0 0 0 rfl rfl hR (by omega)
theorem wM {n:Nat} (h:n<=50000):ba .i64 (eq (ba .i64 ((ba .i64 (((n:Nat):Int)+(16:Int)))-(1:Int))) (16:Int))=(((n+15)/16:Nat):Int):=by rw[w64 (n:=(n:Int)+16),w64 (n:=(n:Int)+16-1),show (n:Int)+16-1=((n+15:Nat):Int) by omega];have:eq ((n+15:Nat):Int) (16:Int)=(((n+15)/16:Nat):Int):=rfl;rw[this,w64]
theorem wD {n t:Nat} (hn:n<=50000) (ht:t<=50000):ba .i64 (eq (ba .i64 (((n:Nat):Int)*((t:Nat):Int))) ((m:Nat):Int))=((n*t/m:Nat):Int):=by have h1:n*t<=50000*50000:=Nat.mul_le_mul hn ht;have h2:n*t/m<=n*t:=Nat.div_le_self _ _;rw[show (n:Int)*(t:Int)=((n*t:Nat):Int) by simp,w64 (n:=((n*t:Nat):Int))];have:eq ((n*t:Nat):Int) ((m:Nat):Int)=((n*t/m:Nat):Int):=rfl;have h3:(0:Int)<=((n*t/m:Nat):Int):=Int.natCast_nonneg _;rw[this,w64]
theorem XC {n t:Nat} (hm:m<=n) (ht:t<m):n*t/m<n*(t+1)/m/\n*(t+1)/m<=n:=by
 have h0:0<m:=by omega
 constructor
 ·rw[Nat.lt_iff_add_one_le,Nat.le_div_iff_mul_le h0,ey,Nat.one_mul];have:=Nat.div_mul_le_self (n*t) m;rw[Nat.mul_succ];omega
 ·refine Nat.div_le_of_le_mul ?_;rw[Nat.mul_comm];exact dl n (by omega)
theorem bH {α:Type} {l:List α} {a b:Nat} (h:a<=b):(l.drop a).drop (b-a)=l.drop b:=by rw[lq];congr 1;omega
theorem aM {K:Nat} {l:List ByteArray} {m:Nat} (hK:100000<=K) (hl:l.length<=50000) (hm:m=(l.length+15)/16) (hp:Pc l):∀(d t k:Nat) (out:List (Option tH)) (pa:List ByteArray),t+d=m->d<k->out.length=t->pa++l.drop (l.length*t/m)=l->Rw 0 out pa->
 ∃row,F8.l0 K l k out (t:Int)=some row/\row.length=m/\Rw 0 row l
 | 0,t,k+1,out,pa,ht,_,ho,he,hr => by
   refine⟨out,?_,by omega,?_⟩;·rw[F8.l0,wM hl,tt]
   ·rcases ki m with h0|h0
    ·have h1:l.length=0:=by omega
     have h2:l=[]:=bx h1;subst h2;simp at he;rw[he] at hr;exact hr
    ·rw[show l.length*t/m=l.length by rw[show t=m by omega,tv _ h0]] at he;simp at he;rw[he] at hr;exact hr
 | d+1,t,k+1,out,pa,ht,hk,ho,he,hr => by
   obtain⟨p1,p2⟩:=XC (n:=l.length) (m:=m) (t:=t) (by omega) (by omega);have wa:=wD (n:=l.length) (t:=t) (m:=m) hl (by omega);have wb:=wD (n:=l.length) (t:=t+1) (m:=m) hl (by omega);generalize l.length*t/m=x at *;generalize hy:l.length*(t+1)/m=y at *;obtain⟨q,hq,hT⟩:=iW (l:=(l.drop x).take (y-x)) hK (by simp;omega) λp hpm=>hp p (mD (List.mem_of_mem_take hpm));have hlen:((l.drop x).take (y-x)).length<=50000:=by simp;omega
   rw[F8.l0,wM hl,<-hm,tq,up1,wa,wb,iP ⟨by omega,by omega,by omega,by omega⟩,tN,tN,hq,oB,iP ⟨by omega,by simp;omega⟩];refine aM hK hl hm hp d (t+1) k (out++[q]) (pa++_) (by omega) (by omega) (by simp;omega) ?_ (hr.snoc hT);rw[hy,aA,<-bH (yl p1),dm];exact he
theorem aJ {K h:Nat} {l:List (Option tH)} {ps:List ByteArray} {m:Nat} (hK:100000<=K) (hl:l.length<=50000) (hm:m=(l.length+15)/16) (hps:ps.length<=50000):∀(d t k:Nat) (out:List (Option tH)) (pa pb:List ByteArray),t+d=m->d<k->out.length=t->pa++pb=ps->Rw h (l.drop (l.length*t/m)) pb->Rw (h+1) out pa->
 ∃row,F7.l0 K l k out (t:Int)=some row/\row.length=m/\Rw (h+1) row ps
 | 0,t,k+1,out,pa,pb,ht,_,ho,he,hb,hr => by
   refine⟨out,?_,by omega,?_⟩;·rw[F7.l0,wM hl,tt]
   ·have:l.drop (l.length*t/m)=[]:=by
     rcases ki m with h0|h0
     ·have h1:l.length=0:=by omega
      have h2:l=[]:=bx h1;subst h2;simp
     ·rw[show l.length*t/m=l.length by rw[show t=m by omega,tv _ h0],qv]
    rw[this] at hb;obtain rfl:pb=[]:=hb;rw[<-he,cm];exact hr
 | d+1,t,k+1,out,pa,pb,ht,hk,ho,he,hb,hr => by
   obtain⟨p1,p2⟩:=XC (n:=l.length) (m:=m) (t:=t) (by omega) (by omega);have wa:=wD (n:=l.length) (t:=t) (m:=m) hl (by omega);have wb:=wD (n:=l.length) (t:=t+1) (m:=m) hl (by omega);generalize l.length*t/m=a at *;generalize hc:l.length*(t+1)/m=c at *;obtain⟨x,y,rfl,h1,h2⟩:=hb.cut (c-a);rw[bH (yl p1)] at h2;have hlen:((l.drop a).take (c-a)).length<=50000:=by simp;omega
   have hx:x.length<=50000:=by rw[<-he] at hps;simp at hps;omega
   obtain⟨q,hq,hT⟩:=iB hK hlen (by simp;omega) h1 hx;rw[F7.l0,wM hl,<-hm,tq,up1,wa,wb,iP ⟨by omega,by omega,by omega,by omega⟩,tN,tN,hq,oB,iP ⟨by omega,by simp;omega⟩];exact aJ hK hl hm hps d (t+1) k (out++[q]) (pa++x) y (by omega) (by omega) (by simp;omega) (by rw[<-he,aA]) (by rw[hc];exact h2) (hr.snoc hT)
theorem WO {K:Nat} {ps:List ByteArray} (hK:100000<=K) (hps:ps.length<=50000):∀(d h k:Nat) (row:List (Option tH)),row.length<=d->0<row.length->row.length<=50000->d<k->h+d<=60000->Rw h row ps->∃q h',F5.l0 K k row=some q/\h'<=60000/\Tr h' q ps
 |0,h,k,row,hd,h0,_,_,_,_=>by omega
 | d+1,h,k+1,row,hd,h0,h1,hk,hh,hr => by
   rw[F5.l0];by_cases hl:1<row.length
   ·obtain⟨row',e1,e2,e3⟩:=aJ (K:=K) (m:=(row.length+15)/16) hK h1 rfl hps _ 0 K [] [] ps (by rw[ew]) (by omega) rfl rfl (by rw[Nat.mul_zero,Nat.zero_div];exact hr) rfl;have e1:F7 K row=some row':=e1;rw[tq,e1,oB];exact WO hK hps d (h+1) k row' (by omega) (by omega) (by omega) (by omega) (by omega) e3
   ·rw[tt,tw];obtain⟨q,hq⟩:∃q,row=[q]:=List.length_eq_one_iff.1 (by omega);subst hq;obtain⟨a,b,rfl,h2,h3⟩:=hr;obtain rfl:b=[]:=h3;rw[cm];exact⟨q,h,rfl,by omega,h2⟩
theorem jJ (hK:100000<=K) (hps:ps.length<=50000) (hp:Pc ps):∃q,F5 K ps=some q/\(ps=[]/\q=none\/∃h',h'<=60000/\Tr h' q ps):=by
 rw[F5];by_cases h:ps.length=0
 ·rw[iP (by simpa using h)];exact⟨none,rfl,.inl ⟨bx h,rfl⟩⟩
 ·rw[iN (by simpa using h)];obtain⟨row,e1,e2,e3⟩:=aM (K:=K) (m:=(ps.length+15)/16) hK hps rfl hp _ 0 K [] [] (by rw[ew]) (by omega) rfl (by simp) rfl;have e1:F8 K ps=some row:=e1;rw[e1,oB];obtain⟨q,h',e4,e5,e6⟩:=WO hK hps row.length 0 K row (bp _) (by omega) (by omega) (by omega) (by omega) e3;exact⟨q,e4,.inr ⟨h',e5,e6⟩⟩
def RS (R:Option (Option tH)) (s:ByteArray):Prop:=∀K,100000<=K->DV K R=some s
theorem P6 {a b:ByteArray} (h:tR a=tR b):a=b:=by rw[<-NN (s:=a),h,NN]
theorem oM {q:Option tH} (hps:ps.length<=50000) (hq:ps=[]/\q=none\/∃h',h'<=60000/\Tr h' q ps) (hs:C4 ps=tR s) (hsz:s.size<=100000):RS (some q) s:=by
 intro K hK;have e:M2 K q=some ps:=by
  rw[M2,OS];rcases hq with⟨rfl,rfl⟩|⟨h',hh,t,rfl,hn,ht⟩;·rfl
  ·rw[uf,nj,iP rfl,oB,gt,hn,iP ⟨by omega,by omega,by omega⟩,iP (by simp),BL];rw[ht K hK K (by omega) _ (by simp;omega),oB];rfl
 have hlen:(C4 ps).length=s.size:=by rw[hs,CB]
 have e2:=ZN (K:=K) (ps:=ps) ps 0 K [] rfl (by omega) (by omega) (by rw[cd];omega);have e2:DV.l0 K ps K [] 0=some ([]++C4 ps):=e2;rw[DV,gt,e,oB,nj,iP rfl,e2,oB,JU,cd,iP VW,oB,hs,NN]
theorem WL {K:Nat} {s:ByteArray} (h0:¬A3 (bt s 0)) (hs:s.size<=100000):∀(j k:Nat),j<s.size->j<k->BX.l1 K s k (j:Int)=some (bcF s j:Int)
 | 0,k,hj,hk => by
   obtain⟨k,rfl⟩:=ug (k:=k);have hb:=AU (s:=s) (i:=(0:Nat));have:=HN hb.1 hb.2;rw[BX.l1,tw,iN];·rfl
   ·intro e;rw[beq_iff_eq] at e;rw[e] at this;rw[bne_self_eq_false] at this;rw[decide_eq_false (show ¬A3 (bt s ((0:Nat):Int)) from h0)] at this;cases this
 | j+1,k,hj,hk => by
   obtain⟨k,rfl⟩:=ug (k:=k);have hb:=AU (s:=s) (i:=((j+1:Nat):Int));have h192:=HN hb.1 hb.2;have hw:ba .i64 (((j+1:Nat):Int)-1)=(j:Int):=by rw[w64];omega
   rw[BX.l1,tw,hw,bcF];by_cases c:A3 (bt s ((j+1:Nat):Int))
   ·rw[iP c,iP,WL h0 hs j k (by omega) (by omega)];rw[decide_eq_true c] at h192;simpa using h192
   ·rw[iN c,iN];rw[decide_eq_false c] at h192;intro e;rw[beq_iff_eq] at e;rw[e,bne_self_eq_false] at h192;cases h192
theorem PY (h:i<=s.size):s.extract 0 i++s.extract i s.size=s:=by refine P6 ?_;have hl:(tR s).length=s.size:=CB;rw[U1,IH,IH,ic,nc,fj (l:=(tR s).drop i) (by rw[cq];omega),dm]
theorem N1 (h:j<=s.size) (hi:i<=j):(s.extract i j).size=j-i:=by have:=congrArg bg (IH (s:=s) (i:=i) (j:=j));rw[CB,co,cq,CB] at this;omega
theorem hP (h:i<s.size):bt (s.extract i s.size) 0=bt s (i:Int):=by have h1:=P5 (s:=s.extract i s.size) (i:=0) (by rw[N1 (bp _) (by omega)];omega);rw[IH,List.getElem?_take_of_lt (by omega),ft,ee,P5 h] at h1;exact(fg h1).symm
theorem dW (hv:A4 s=true) (h:i<s.size) (hc:¬A3 (bt s (i:Int))):A4 (s.extract 0 i)=true/\A4 (s.extract i s.size)=true:=by have e:=PY (s:=s) (i:=i) (by omega);have h1:A4 (s.extract 0 i)=true:=sF (b:=s.extract i s.size) (by rw[e];exact hv) (.inr (by rw[hP h];exact hc));exact⟨h1,sH (a:=s.extract 0 i) (by rw[e];exact hv) h1⟩
theorem QT {K:Nat} (hK:100000<=K):∀(d k:Nat) (s:ByteArray) (out:List ByteArray),s.size<=d->d<=20000->d<k->out.length+d<=20000->A4 s=true->Pc out->
 ∃ps,BX.l0 K k s out=some ps/\Pc ps/\ps.length<=out.length+d/\C4 ps=C4 out++tR s
 |d,0,s,out,_,_,hk,_,_,_=>by omega
 | d,k+1,s,out,hd,hd2,hk,ho,hv,hp => by
   rw[BX.l0,OO];by_cases h0:s.size=0
   ·rw[iN (by simp[h0])];refine⟨out,rfl,hp,by omega,?_⟩;have:tR s=[]:=bx (by rw[CB];exact h0);rw[this,cm]
   ·rw[iP (by simp[h0])];obtain⟨d,rfl⟩:=ug (k:=d);by_cases h:s.size>64
    ·have hf:=VA hv (by omega);obtain⟨b1,b2,b3⟩:=TY (s:=s) (k:=64);have hb:1<=bcF s 64:=by
      have he:isE s 0=true:=Q9 hv (by omega) (by omega) (.inr hf);obtain⟨s1,s2⟩:=qJ he;have hu:=CK (s:=s) (a:=0);have hz:=s2 (by omega);obtain⟨-,-,-,s3⟩:=IS s1;rcases ki (bcF s 64) with hz0|hz0
      ·exfalso;have:=b3 (usz s 0).toNat (by omega) (by omega);rw[show (((usz s 0).toNat:Nat):Int)=0+usz s 0 by omega] at this;rcases s3 with s3|s3;·omega
       ·exact s3 this
      ·exact hz0
     have hc:¬A3 (bt s (bcF s 64:Int)):=b2.resolve_left (by omega);have e1:=WL (K:=K) hf (by omega) 64 K (by omega) (by omega);have e1:BX.l1 K s K (64:Int)=some (bcF s 64:Int):=e1;generalize bcF s 64=z at *;obtain⟨v1,v2⟩:=dW hv (show z<s.size by omega) hc;have z1:=N1 (s:=s) (i:=0) (j:=z) (by omega) (by omega);have z2:=N1 (s:=s) (i:=z) (j:=s.size) (by omega) (by omega);rw[tq,e1,oB,iP ⟨by omega,by omega,by simp;omega⟩,oB,tN];obtain⟨ps,q1,q2,q3,q4⟩:=QT hK d k (s.extract z s.size) (out++[s.extract 0 z]) (by omega) (by omega) (by omega) (by simp;omega) v2 (λp hpm=>by
      rcases cf.1 hpm with hpm|hpm;·exact hp p hpm
      ·simp at hpm;subst hpm;exact⟨v1,by omega⟩)
     refine⟨ps,q1,q2,by simp at q3;omega,?_⟩;rw[q4,U2,ME,aA];congr 1;rw[show C4 []=[] from rfl,cm,<-U1,PY (by omega)]
    ·have z1:=N1 (s:=s) (i:=s.size) (j:=s.size) (by omega) (by omega);have e2:s.extract 0 s.size=s:=by
      have:=PY (s:=s) (i:=s.size) (by omega);refine P6 ?_;rw[IH,ic,nc,fj (by rw[CB];omega)]
     have e3:tR (s.extract s.size s.size)=[]:=bx (by rw[CB,z1];omega);rw[tt,iP ⟨by omega,by omega,by simp;omega⟩,oB,tN,e2];obtain⟨ps,q1,q2,q3,q4⟩:=QT hK d k (s.extract s.size s.size) (out++[s]) (by omega) (by omega) (by omega) (by simp;omega) (by
      unfold A4;rw[z1,nf];rfl) (λp hpm=>by
      rcases cf.1 hpm with hpm|hpm;·exact hp p hpm
      ·simp at hpm;subst hpm;exact⟨hv,by omega⟩)
     refine⟨ps,q1,q2,by simp at q3;omega,?_⟩;rw[q4,U2,ME,show C4 []=[] from rfl,cm,e3,cm]
theorem YV (hK:100000<=K) (hs:s.size<=20000) (hv:A4 s=true):∃R,JH K s=some (some R,0)/\RS (some R) s:=by obtain⟨ps,q1,q2,q3,q4⟩:=QT hK s.size K s [] (bp _) hs (by omega) (by simp;omega) hv (λp hp=>(gu hp).elim);simp at q3;have q4:C4 ps=tR s:=q4;obtain⟨q,m1,m2⟩:=jJ hK (by omega) q2;refine⟨q,?_,oM (by omega) m2 q4 (by omega)⟩;rw[JH,PC hK (by omega) hv,oB,tt,BX,q1,oB,m1,oB,oB]
theorem PT {c:Nat} (hc:c<=1114111/\¬(55296<=c/\c<57344)):0<(gi (c:Int)).size/\usz (gi (c:Int)) 0=((gi (c:Int)).size:Int):=by
 have hv:kr (c:Int)=true:=by unfold kr;simp only[fl,bq,dE];omega
 have key:∀s:ByteArray,0<s.size->usz s 0=s.size->0<s.size/\usz s 0=s.size:=λ_ h k=>⟨h,k⟩;have b:∀n:Nat,n<256->((cw n).toNat:Int)=n:=λn hn=>by rw[pz];omega
 unfold gi;simp only[hv,if_true,tN];by_cases h1:c<128
 ·rw[iP h1];refine key _ (by show 0<1;omega) ?_;have e0:bt ⟨#[cw c]⟩ 0=c:=b c (by omega);unfold usz;rw[iN (by show ¬((0:Int)<0\/(0:Int)>=((1:Nat):Int));omega),e0];unfold B6;rw[tw];rfl
 ·rw[iN h1];by_cases h2:c<2048
  ·rw[iP h2];refine key _ (by show 0<2;omega) ?_;have e0:bt ⟨#[cw (192+c/64),cw (128+c%64)]⟩ 0=((192+c/64:Nat):Int):=b _ (by omega);have e1:bt ⟨#[cw (192+c/64),cw (128+c%64)]⟩ (0+1)=((128+c%64:Nat):Int):=b _ (by omega);unfold usz;rw[iN (by show ¬((0:Int)<0\/(0:Int)>=((2:Nat):Int));omega),e0,e1];unfold B6 A3;rw[tz,tw,iP];·rfl
   ·refine⟨?_,by omega,by omega⟩;show (2:Int)<=((2:Nat):Int)-0;omega
  ·rw[iN h2];by_cases h3:c<65536
   ·rw[iP h3];refine key _ (by show 0<3;omega) ?_;have e0:bt ⟨#[cw (224+c/4096),cw (128+c/64%64),cw (128+c%64)]⟩ 0=((224+c/4096:Nat):Int):=b _ (by omega);have e1:bt ⟨#[cw (224+c/4096),cw (128+c/64%64),cw (128+c%64)]⟩ (0+1)=((128+c/64%64:Nat):Int):=b _ (by omega);have e2:bt ⟨#[cw (224+c/4096),cw (128+c/64%64),cw (128+c%64)]⟩ (0+2)=((128+c%64:Nat):Int):=b _ (by omega);unfold usz;rw[iN (by show ¬((0:Int)<0\/(0:Int)>=((3:Nat):Int));omega),e0,e1,e2];unfold B6 A3;rw[tz,tz,tw,iP];·rfl
    ·refine⟨?_,by omega,by omega,by omega,by omega⟩;show (3:Int)<=((3:Nat):Int)-0;omega
   ·rw[iN h3];refine key _ (by show 0<4;omega) ?_;have e0:bt ⟨#[cw (240+c/262144),cw (128+c/4096%64),cw (128+c/64%64),cw (128+c%64)]⟩ 0=((240+c/262144:Nat):Int):=b _ (by omega);have e1:bt ⟨#[cw (240+c/262144),cw (128+c/4096%64),cw (128+c/64%64),cw (128+c%64)]⟩ (0+1)=((128+c/4096%64:Nat):Int):=b _ (by omega);have e2:bt ⟨#[cw (240+c/262144),cw (128+c/4096%64),cw (128+c/64%64),cw (128+c%64)]⟩ (0+2)=((128+c/64%64:Nat):Int):=b _ (by omega);have e3:bt ⟨#[cw (240+c/262144),cw (128+c/4096%64),cw (128+c/64%64),cw (128+c%64)]⟩ (0+3)=((128+c%64:Nat):Int):=b _ (by omega);unfold usz;rw[iN (by show ¬((0:Int)<0\/(0:Int)>=((4:Nat):Int));omega),e0,e1,e2,e3];unfold B6 A3;rw[tz,tz,tz,tw,iP];·rfl
    ·refine⟨?_,by omega,by omega,by omega,by omega,by omega⟩;show (4:Int)<=((4:Nat):Int)-0;omega
def Onc (s:ByteArray):Prop:=A4 s=true/\∀i:Nat,0<i->i<s.size->A3 (bt s (i:Int))
theorem X0 (h0:0<s.size) (h:usz s 0=s.size):Onc s:=by
 constructor
 ·unfold A4;obtain⟨n,hn⟩:∃n,s.size=n+1:=⟨s.size-1,by omega⟩;have e:AA s (n+1) 0=true:=by
   rw[AA,tw,tz,h,Int.zero_add];cases n with
   |zero=>rfl
   |succ n=>rw[AA,tz]
  rw[hn];exact e
 ·intro i h1 h2;exact T8 (i:=0) h1 (by rw[show (((0:Nat):Int))=0 from rfl,h];omega)
theorem gK {c:Nat}:Onc (gi (c:Int)):=by
 by_cases hc:c<=1114111/\¬(55296<=c/\c<57344);·exact X0 (PT hc).1 (PT hc).2
 ·have hv:kr (c:Int)=false:=by
   unfold kr;simp only[ml,Bool.and_eq_false_iff,decide_eq_false_iff_not];omega
  have:gi (c:Int)=gi ((65533:Nat):Int):=by
   have hv2:kr ((65533:Nat):Int)=true:=by decide
   unfold gi;simp only[hv,hv2,iq,if_false,if_true,tN,Utf8.runeError]
  rw[this];have:=PT (c:=65533) (by omega);exact X0 this.1 this.2
def Av (l:List Atm):Prop:=∀a∈l,Onc a.1
theorem TX {r:Int} {u:List Int}:∀{l:List Atm},Av l->A4 (tP (vtx r u l))=true
 |[],_=>rfl
 | a :: l,h => by
   have ih:=TX (r:=r) (u:=u) (l:=l) λb hb=>h b (mC _ hb);simp only[vtx];split
   ·rw[kG,NN];exact c6 (h a mS).1 ih
   ·exact ih
theorem TW {s:ByteArray} {w g r:Int}:∀{m t:Nat},Av (ptL s w g r m t)
 |0,_=>λa ha=>(gu ha).elim
 | m+1,t => fun a ha => by
   rw[ptL] at ha;split at ha
   ·rcases bv.1 ha with e|ha
    ·have e1:a.1=gi (((gj s t).1:Nat):Int):=by rw[e]
     rw[e1];generalize (gj s t).1=c;exact gK
    ·exact TW a ha
   ·exact(gu ha).elim
theorem P2 {base rank:Int} (h:Av l):Av (AL l us f g o base grp rank c).2.2.1:=by
 unfold AL;repeat' split
 all_goals first|exact h|skip
 intro a ha;rcases NH (show a∈spl _ _ _ from ha) with h1|⟨q,h1,h2⟩
 ·obtain⟨b,hb,e⟩:=NF h1;rcases e with rfl|rfl;·exact h _ hb
  ·exact h b hb
 ·obtain⟨x,hx,rfl⟩:=cj.1 h1;exact TW a h2
theorem cY (h:Av l):Av (C3 l us f g o x).2.2.1:=by unfold C3;split<;>exact h
theorem cX (h:Av l):Av (EW l us f g o gs).2.1:=by
 unfold EW;split
 ·intro a ha;obtain⟨b,hb,rfl⟩:=cj.1 (show a∈(l.filter (kpA gs (lsR us))).map (lfA gs (lsR us)) from ha);exact h b (ef.1 hb).1
 ·exact h
def isS (base:Int):Int->Option Bool->List El->Prop
 |_,_,[]=>True
 | to,pre,x :: r =>
   if x.2.2.size=0 then (to<=x.1/\(to<x.1\/pre≠some true)/\x.1<x.2.1/\x.2.1<=base)/\isS base x.2.1 (some true) r
   else (x.1=0/\x.2.1=0/\pre≠some false/\A4 x.2.2=true)/\isS base to (some false) r
theorem QA {base:Int}:∀{l:List El} {size to:Int} {pre:Option Bool},isL base size to pre l=true->isS base to pre l
 |[],_,_,_,_=>trivial
 | x :: r,size,to,pre,h => by
   rw[isL] at h;rw[isS];split at h
   ·rename_i hz;rw[bq,dE] at h;rw[iP hz];exact⟨⟨h.1.1,h.1.2.1,h.1.2.2.1,h.1.2.2.2.1⟩,QA h.2⟩
   ·rename_i hz;rw[bq,bq,dE] at h;rw[iN hz];exact⟨⟨h.1.1.1,h.1.1.2.1,h.1.1.2.2.1,h.1.2⟩,QA h.2⟩
theorem Q8 {base:Int} {l:List El} (h:isD base l=true):isS base 0 none l:=by unfold isD at h;rw[bq] at h;exact QA h.2
theorem L0 {p:Int} (hp:0<=p):∀{l:List El} {n w to base:Int} {pre:Option Bool},0<=to->isS base to pre l->0<=n->0<=w->n<=(mvE p n w l).1/\n+w<=(mvE p n w l).1+(mvE p n w l).2/\0<=(mvE p n w l).2
 |[],n,w,to,base,pre,h0,h,hn,hw=>by simp only[mvE];omega
 | x :: r,n,w,to,base,pre,h0,h,hn,hw => by
   rw[isS] at h;rw[mvE];split at h
   ·rename_i hz;have q1:=h.1.1;have q2:=h.1.2.2.1;rw[iP hz];split;·simp only;omega
    ·split;·simp only;omega
     ·have:=L0 hp (l:=r) (n:=n+(w+min x.2.1 p-x.1)) (w:=0) (by omega) h.2 (by omega) (by omega);omega
   ·rename_i hz;rw[iN hz];have:=L0 hp (l:=r) (n:=n) (w:=w+x.2.2.size) h0 h.2 hn (by omega);omega
theorem R5 {p q:Int} (hp:0<=p) (hpq:p<=q):∀{l:List El} {n w to base:Int} {pre:Option Bool},0<=to->isS base to pre l->0<=n->0<=w->
 (mvE p n w l).1<=(mvE q n w l).1/\(mvE p n w l).1+(mvE p n w l).2<=(mvE q n w l).1+(mvE q n w l).2
 |[],n,w,to,base,pre,h0,h,hn,hw=>⟨eo _,eo _⟩
 | x :: r,n,w,to,base,pre,h0,h,hn,hw => by
   have hall:=L0 (p:=q) (by omega) (l:=x::r) (n:=n) (w:=w) h0 h hn hw;rw[isS] at h;by_cases hz:x.2.2.size=0
   ·rw[iP hz] at h;have q1:=h.1.1;have q2:=h.1.2.2.1;by_cases c1:x.1>=p
    ·have e:mvE p n w (x::r)=(n,w):=by rw[mvE,iP hz,iP c1]
     rw[e];exact⟨hall.1,hall.2.1⟩
    ·by_cases c2:x.2.1>p
     ·have e:mvE p n w (x::r)=(n+(w+min x.2.1 p-x.1),0):=by rw[mvE,iP hz,iN c1,iP c2]
      rw[e,mvE,iP hz,tz];by_cases c3:x.2.1>q;·rw[iP c3];simp only;omega
      ·rw[iN c3];have:=L0 (p:=q) (by omega) (l:=r) (n:=n+(w+min x.2.1 q-x.1)) (w:=0) (by omega) h.2 (by omega) (by omega);simp only;omega
     ·rw[mvE,iP hz,iN c1,iN c2,mvE,iP hz,tz];by_cases c3:x.2.1>q;·omega
      ·rw[iN c3,show min x.2.1 p=x.2.1 by omega,show min x.2.1 q=x.2.1 by omega];exact R5 hp hpq (by omega) h.2 (by omega) (by omega)
   ·rw[iN hz] at h;rw[mvE,iN hz,mvE,iN hz];exact R5 hp hpq h0 h.2 hn (by omega)
theorem L1 {base:Int} (h:isD base d=true):0<=mv base d a false/\mv base d a false<=mv base d a true/\mv base d a true<=AD d+A6 d:=by obtain⟨h1,h2,h3,h4,h5⟩:=H2 h;have g:=L0 (p:=min (max a 0) base) (by omega) (l:=d) (n:=0) (w:=0) (eo 0) (Q8 h) (by omega) (by omega);have g2:=(NM (base:=base) (p:=min (max a 0) base) (by omega) (l:=d) (n:=0) (w:=0) h4 (by omega) (by omega)).2.2;unfold mv;rw[iP h,iP h,uf,iP rfl];omega
theorem WR {base:Int} {after:Bool} (h:isD base d=true) (hab:a<=b):mv base d a after<=mv base d b after:=by
 obtain⟨h1,h2,h3,h4,h5⟩:=H2 h;have:=R5 (p:=min (max a 0) base) (q:=min (max b 0) base) (by omega) (by omega) (l:=d) (n:=0) (w:=0) (eo 0) (Q8 h) (by omega) (by omega);unfold mv;rw[iP h,iP h];cases after;·rw[uf,uf];exact this.1
 ·rw[iP rfl,iP rfl];exact this.2
def goS (base:Int) (d:List El) (x:Sp):Sp:=(mv base d x.1 true,(max (mv base d x.1 true) (mv base d x.2.1 false),x.2.2))
def neI (x:Sp):Bool:=decide (x.1<x.2.1)
theorem PR {K:Nat} {l:List Sp} {base:Int} {d:List El} (hK:30000<=K) (hl:l.length<=100000):∀(rest:List Sp) (j k:Nat) (out:List Sp),l.drop j=rest->rest.length<k->out.length<=j->
 BU.l0 K l base d k out (j:Int)=some (out++(rest.map (goS base d)).filter neI)
 | [],j,k,out,hd,hk,ho => by obtain⟨k,rfl⟩:=ug (k:=k);have:=A1 hd;rw[BU.l0,tt];simp
 | x :: rest,j,k,out,hd,hk,ho => by
   obtain⟨k,rfl⟩:=ug (k:=k);obtain⟨hj,hx,hd'⟩:=A0 hd sp0;rw[lC] at hk;have hw:ba .i64 ((j:Int)+1)=((j+1:Nat):Int):=by rw[w64];omega
   rw[BU.l0,tq,tw];simp only[tN,hx,hw,iF hK,oB];rw[K5 (by omega),oB,PR hK hl rest (j+1) k _ hd' (by omega) (by rw[lA];split<;>simp<;>omega),dj,fx];unfold neI goS;simp only[dE];split<;>simp
theorem VM {base:Int} {l:List Sp} (hd:isD base d=true) (hl:AE n 0 0 l=true):(l.map (goS base d)).filter neS=(l.map (goS base d)).filter neI/\((l.map (goS base d)).filter neI).Pairwise Od/\∀x∈(l.map (goS base d)).filter neI,Fn (AD d+A6 d) x:=by
 have hm:=E7 hl (eo 0);have hod:=L5 hl (eo 0);refine⟨List.filter_congr λx hx=>?_,?_,λx hx=>?_⟩
 ·obtain⟨y,hy,rfl⟩:=cj.1 hx;have:=(hm y hy).1;unfold neS neI goS Fn at *;simp only;rw[decide_eq_decide];omega
 ·rw[List.pairwise_filter,ku];refine hod.imp λ{x y} h h1 h2=>?_;unfold Od goS neI at *;simp only[dE] at *;have a1:=WR (after:=false) hd h;have a2:=(L1 (a:=y.1) hd).2.1;omega
 ·rw[ef] at hx;obtain⟨y,hy,rfl⟩:=cj.1 hx.1;have hy':=(hm y hy).1;have b1:=L1 (a:=y.1) hd;have b2:=L1 (a:=y.2.1) hd;have h2:=hx.2;unfold Fn goS neI at *;simp only[dE] at *;omega
def dfS (r:Int) (u:List Int) (r':Int) (u':List Int) (acc:List El×Int) (a:Atm):List El×Int:=
 (if (vis r u a&&vis r' u' a)=true then CE acc.1 acc.2 (acc.2+a.1.size) else if vis r' u' a=true then CU acc.1 a.1 else acc.1,if vis r u a=true then acc.2+a.1.size else acc.2)
theorem d5 {was is:Bool} {p4 p6:Int} (hl:d.length<=100000) (hs:s.size<=1000) (ht:A6 d<=1000000) (h6:0<=p6) (h7:p6<=1000000):KH K s was is p4 d p6=some (if (was&&is)=true then CE d p6 (p6+s.size) else if is=true then CU d s else d,if was=true then p6+s.size else p6):=by
 rw[KH,w64 (n:=p6+_)];cases was with
 | true =>
   cases is with
   |true=>rw[iP rfl,oB,iP rfl,dO (by omega)];rfl
   |false=>rfl
 | false =>
   cases is with
   |true=>rw[uf,oB,uf,iP rfl,mT (by omega) (by omega)];rfl
   |false=>rfl
theorem TZ {K:Nat} {l:List Atm} {r r':Int} {u u':List Int} {n:Int} (hK:100000<=K) (hu:u.length<=50000) (hu':u'.length<=50000) (hl:Aok l):∀(rest:List Atm) (j k:Nat) (acc:List El×Int),l.drop j=rest->rest.length<k->acc.1.length+rest.length<=50000->A6 acc.1+10*rest.length<=1000000->0<=acc.2->acc.2+10*rest.length<=1000000->
 D4.l0 K l r u r' u' n k acc.1 acc.2 (j:Int)=some (0,rest.foldl (dfS r u r' u') acc)
 | [],j,k+1,acc,h,_,_,_,_,_ => by have:=A1 h;rw[D4.l0,tt];rfl
 | a :: rest,j,k+1,acc,h,hk,h1,h2,h3,h4 => by
   obtain⟨g1,g2,g3⟩:=A0 h zA;have hlen:=hl.1;have ha:=hl.2 a (mdr h);simp only[lC] at h1 h2 h4 hk;rw[D4.l0,tq,iP ⟨by omega,by omega⟩,tN,g2,K4 hK hu (by omega),oB,K4 hK hu' (by omega),oB,up1,fk];have key:dfS r u r' u' acc a=(if (vis r u a&&vis r' u' a)=true then CE acc.1 acc.2 (acc.2+a.1.size) else if vis r' u' a=true then CU acc.1 a.1 else acc.1,if vis r u a=true then acc.2+a.1.size else acc.2):=rfl;have b1:(dfS r u r' u' acc a).1.length<=acc.1.length+1:=by
    rw[key];simp only;split;·exact jS
    ·split;·exact jV
     ·omega
   have b2:A6 (dfS r u r' u' acc a).1<=A6 acc.1+10:=by
    rw[key];simp only;split;·rw[jU];omega
    ·split;·rw[jY];omega
     ·omega
   have b3:0<=(dfS r u r' u' acc a).2/\(dfS r u r' u' acc a).2<=acc.2+10:=by rw[key];simp only;split<;>omega
   have ih:=TZ hK hu hu' hl (r:=r) (r':=r') (n:=n) rest (j+1) k (dfS r u r' u' acc a) g3 (by omega) (by omega) (by omega) b3.1 (by omega);by_cases hz:vis r u a=false/\vis r' u' a=false
   ·rw[hz.1,hz.2,Bool.not_false,iP rfl,oB,iP rfl,<-ih,key,hz.1,hz.2];rfl
   ·have e:(if (!vis r u a)=true then some (!vis r' u' a) else some false)=some false:=by
     cases h5:vis r u a with
     |true=>rfl
     | false =>
       cases h6:vis r' u' a with
       |true=>rfl
       |false=>exact(hz ⟨h5,h6⟩).elim
    rw[e,oB,uf,d5 (by omega) (by omega) (by omega) h3 (by omega),oB,<-key];exact ih
def dfL (r:Int) (u:List Int) (r':Int) (u':List Int) (l:List Atm):List El×Int:=l.foldl (dfS r u r' u') ([],0)
def btR (l:List Atm) (us:List (List Int)) (f r r':Int):Int×List El×Int:=
 if lvR us f r=true/\lvR us f r'=true then
  if 60<(dfL r (unR us f r) r' (unR us f r') l).1.length then (0,[],70)
  else (((vtx r (unR us f r) l).length:Nat),(dfL r (unR us f r) r' (unR us f r') l).1,0)
 else (0,[],190)
theorem d6 {r:Int} (hK:100000<=K) (h:Ivt l us f g o):KI K l us f g o r r'=some (btR l us f r r'):=by
 have R:=h.rok;have A:=h.aok;have hu:=F9 R (r:=r);have hu':=F9 R (r:=r');have hln:=h.len;have e:=TZ (K:=K) (n:=(((G2 l us f r).1.size:Nat):Int)) (r:=r) (r':=r') hK (u:=unR us f r) (u':=unR us f r') (by omega) (by omega) A l 0 K ([],0) rfl (by omega) (by simp;omega) (by simp[A6];omega) (by simp) (by simp;omega);have e:D4.l0 K l r (unR us f r) r' (unR us f r') (((G2 l us f r).1.size:Nat):Int) K [] 0 0=some (0,dfL r (unR us f r) r' (unR us f r') l):=e;have e2:D4 K l us f g o r r' (((G2 l us f r).1.size:Nat):Int) 0=some (if lvR us f r=true/\lvR us f r'=true then (0,dfL r (unR us f r) r' (unR us f r') l) else (190,[],0)):=by
  rw[D4,GV,NA R,oB,oB];by_cases h1:lvR us f r=true
  ·rw[h1,uf,GV,NA R,oB,oB,oB];by_cases h2:lvR us f r'=true;·rw[h2,uf,FR,M3 R,oB,oB,FR,M3 R,oB,oB,HS,MG hK A,oB,oB,e,iP ⟨rfl,rfl⟩]
   ·rw[iP (by simpa using h2),iN (λh=>h2 h.2)]
  ·rw[iP (by simpa using h1),oB,iP rfl,iN (λh=>h1 h.1)]
 rw[KI,KN hK R A,oB,MJ,oB,e2,oB];unfold btR;by_cases hc:lvR us f r=true/\lvR us f r'=true
 ·rw[iP hc,iP hc,uf,MI];have hsz:(G2 l us f r).1.size=(vtx r (unR us f r) l).length:=by unfold G2;rw[iP hc.1];exact AX
  by_cases h60:60<(dfL r (unR us f r) r' (unR us f r') l).1.length;·rw[tq,oB,iP h60]
  ·rw[tt,oB,iN h60,hsz]
 ·rw[iN hc,iN hc,iP (by simp)]
def D5 (K:Nat) (base:Int) (d:List El) (l:List Sp):List Sp×Int:=(BU K l base d).getD ([],0)
theorem fF {l:List Sp} {base:Int} (hK:100000<=K) (h:¬(isD base d=true/\B0 base l=true)):BU K l base d=some ([],12):=by
 unfold BU;rw[GB (by omega),IT (by omega)];simp only[oB];have:(if (!isD base d)=true then some true else some (!B0 base l))=some true:=by
  cases h1:isD base d with
  |false=>rfl
  | true =>
    cases h2:B0 base l with
    |false=>rfl
    |true=>exact(h ⟨h1,h2⟩).elim
 rw[this,oB,iP rfl]
theorem PK {l:List Sp} {base:Int} (hK:100000<K) (hd:isD base d=true) (hi:B0 base l=true) :
 ∃C,AE (AD d+A6 d) 0 0 C=true/\(∀k,atS C k=atS ((l.map (goS base d)).filter neI) k)/\C.length<=l.length/\BU K l base d=some (C,0):=by
 obtain⟨hl60,hok⟩:=QD hi;obtain⟨p1,p2,p3⟩:=VM hd hok;have hfl:((l.map (goS base d)).filter neI).length<=l.length:=by have:=mc neI (l.map (goS base d));rw[du] at this;exact this
 obtain⟨C,Z,c1,c2,c3,c4⟩:=T3 (K:=K) hK (by omega) (J0 p2) p3;refine⟨C,c1,c2,by omega,?_⟩;unfold BU;have el:=PR (K:=K) (base:=base) (d:=d) (by omega) (by omega) l 0 K [] rfl (by omega) (by simp);rw[show ((0:Nat):Int)=0 from rfl] at el;rw[GB (by omega),oB,hd,IT (by omega),oB,hi,uf,oB,uf,el,oB,cd,c4,oB,tz]
theorem fG {l:List Sp} {base:Int} (hK:100000<K) (hl:l.length<=60):BU K l base d=some (D5 K base d l)/\(D5 K base d l).1.length<=60:=by
 unfold D5;by_cases h:isD base d=true/\B0 base l=true
 ·obtain⟨C,c1,c2,c3,c4⟩:=PK hK h.1 h.2;rw[c4];exact⟨rfl,by simp only[gt];omega⟩
 ·rw[fF (by omega) h];exact⟨rfl,by simp⟩
def G8 (base:Int) (d:List El) (l:List Int):List Int×Int:=if isD base d=true/\isB base l=true then (edB base d l,0) else ([],12)
theorem fB {l:List Int} {base:Int} (hK:100000<=K) (hl:l.length<=1000):CQ K l base d=some (G8 base d l):=by
 unfold CQ G8;rw[GB (by omega),oB,N7 (by omega) (by omega)];cases h1:isD base d with
 |false=>rfl
 | true =>
   cases h2:isB base l with
   |false=>rfl
   | true =>
     have e:=PL (K:=K) (base:=base) (e:=AD d+A6 d) (d:=d) (by omega) (by omega) l 0 K [] rfl (by omega) (by simp);rw[show ((0:Nat):Int)=0 from rfl] at e;rw[uf,oB,oB,uf,UQ (by omega),h1,iP rfl,oB,e,iP ⟨rfl,rfl⟩];rfl
def flR (K:Nat) (b:Int×List El×Int) (sel:List Rg) (sp:List Sp) (bk:List Int):Int×List Rg×List Sp×List Int:=
 if b.2.2≠0 then (b.2.2,sel,sp,bk)
 else if (mvR b.1 b.2.1 sel).2≠0 then ((mvR b.1 b.2.1 sel).2,(mvR b.1 b.2.1 sel).1,sp,bk)
 else if (D5 K b.1 b.2.1 sp).2≠0 then ((D5 K b.1 b.2.1 sp).2,(mvR b.1 b.2.1 sel).1,(D5 K b.1 b.2.1 sp).1,bk)
 else ((G8 b.1 b.2.1 bk).2,(mvR b.1 b.2.1 sel).1,(D5 K b.1 b.2.1 sp).1,(G8 b.1 b.2.1 bk).1)
theorem HL {bk:List Int} (h:Rok us f g o):CN K l us f g o R sel sp bk=some (hdR us f):=by rw[CN,MR h,oB]
theorem VG {l0:List Atm} {us0:List (List Int)} {f0:Int} {g0 o0:List Int} {R0:Option (Option tH)} {sel0:List Rg} {sp0:List Sp} {bk bk0:List Int} (hK:100000<K) (h:Ivt l us f g o) (h0:Rok us0 f0 g0 o0) (h1:sel.length<=1000) (h2:sp.length<=60) (h3:bk.length<=1000) :
 IC K l us f g o R sel sp bk l0 us0 f0 g0 o0 R0 sel0 sp0 bk0=some (flR K (btR l us f (hdR us0 f0) (hdR us f)) sel sp bk):=by
 rw[IC,HL h0,oB,HL h.rok,oB,d6 (by omega) h,oB];unfold flR;generalize btR l us f (hdR us0 f0) (hdR us f)=b;by_cases e1:b.2.2=0
 ·rw[iN (by simpa using e1),iN (by simpa using e1),k7 (by omega) h1,oB];by_cases e2:(mvR b.1 b.2.1 sel).2=0
  ·rw[iN (by simpa using e2),iN (by simpa using e2),(fG hK h2).1,oB];by_cases e3:(D5 K b.1 b.2.1 sp).2=0;·rw[iN (by simpa using e3),iN (by simpa using e3),fB (by omega) h3,oB]
   ·rw[iP (by simpa using e3),iP e3]
  ·rw[iP (by simpa using e2),iP e2]
 ·rw[iP (by simpa using e1),iP e1]
theorem r6 {bk:List Int} (hK:100000<=K) (h:Ivt l us f g o) (hv:Av l):∃R',HM K l us f g o R sel sp bk=some R'/\RS R' (tP (A7 l us f)):=by have ht:=h.vtx (rev:=hdR us f) (u:=lsR us);obtain⟨q,q1,q2⟩:=YV (K:=K) (s:=tP (A7 l us f)) hK (by rw[AX];unfold A7;omega) (TX hv);refine⟨some q,?_,q2⟩;rw[HM,HL h.rok,oB,KN hK h.rok h.aok,oB];unfold G2;rw[iP (IX h.ne),HJ h.ne];unfold A7 at q1;simp only;rw[q1,oB]
structure Vi (l:List Atm) (us:List (List Int)) (f:Int) (g o:List Int) (R:Option (Option tH)) (sel:List Rg) (sp:List Sp) (bk:List Int):Prop where
 iv:Ivt l us f g o
 av:Av l
 rs:RS R (tP (A7 l us f))
 se:sel.length<=1000
 st:sp.length<=60
 br:bk.length<=100
theorem TO {bk:List Int} (hK:100000<=K) (V:Vi l us f g o R sel sp bk):FB K l us f g o R sel sp bk=some (tP (A7 l us f)):=by rw[FB,V.rs K hK,oB]
theorem Vi.len {bk:List Int} (V:Vi l us f g o R sel sp bk):(A7 l us f).length<=16000:=V.iv.vtx
theorem cC {bk:List Int} (h:sel.length<=1000):K1 K l us f g o R sel sp bk=some sel:=by rw[K1,OX,iP ⟨by omega,by omega,by omega,by omega⟩,oB,I4 (by simp),fj (by simp)]
theorem cD {bk:List Int} (h:sp.length<=60):K2 K l us f g o R sel sp bk=some sp:=by rw[K2,OY,iP ⟨by omega,by omega,by omega,by omega⟩,oB,I4 (by simp),fj (by simp)]
theorem c7 {bk:List Int} (h:bk.length<=1000):JZ K l us f g o R sel sp bk=some bk:=by rw[JZ,OZ,iP ⟨by omega,by omega,by omega,by omega⟩,oB,I4 (by simp),fj (by simp)]
theorem sI {bk:List Int} (hK:100000<=K) (V:Vi l us f g o R sel sp bk):IB K l us f g o R sel sp bk=some (l,us,g,o,sel,sp,bk):=by rw[IB,PU hK V.iv.rok V.iv.aok,oB,cC V.se,oB,cD V.st,oB,c7 (by have:=V.br;omega),oB]
theorem Vi.anew (hK:100000<=K) (R:Option (Option tH)) {bk:List Int} (iv:Ivt l us f g o) (av:Av l) (h1:sel.length<=1000) (h2:sp.length<=60) (h3:bk.length<=100):∃R',HM K l us f g o R sel sp bk=some R'/\Vi l us f g o R' sel sp bk:=by obtain⟨R',e,h⟩:=r6 (K:=K) (R:=R) (sel:=sel) (sp:=sp) (bk:=bk) hK iv av;exact⟨R',e,iv,av,h,h1,h2,h3⟩
theorem tC (hK:100000<=K):∃R,JY K=some ([[]],[],[],R)/\Vi [] [[]] 0 [] [] R [((0:Int),(0:Int))] [] []:=by
 have hi:=k8;obtain⟨q,q1,q2⟩:=YV (K:=K) (s:=tP (A7 [] [[]] 0)) hK (by decide) (by decide);refine⟨some q,?_,hi,λa ha=>(gu ha).elim,q2,by decide,by decide,by decide⟩;have R:=Iv.r hi;have A:=Iv.k hi;have e1:M6 K [] [[]] 0 [] [] (bn 1 zP)=some (hdR [[]] 0):=by rw[M6];have:=MR (K:=K) (l:=[]) R;have this:GA K [] [[]] 0 [] []=some (hdR [[]] 0):=this;rw[this,oB]
 have e2:FQ K [] [[]] 0 [] [] (hdR [[]] 0)=some (tP (A7 [] [[]] 0),0):=KN (r:=hdR [[]] 0) hK R A;rw[JY,gL,oB,OW,e1,oB,e2,oB];simp only;rw[q1,oB,oB]
def paT (w:ByteArray):List El:=if w.size=0 then [] else [(0,0,w)]
def koT (n:Int):List El:=if n=0 then [] else [(0,n,cc)]
theorem dP {w:ByteArray} {k:Int} (hn:0<=n) (hk:0<k):CE (paT w++koT n) n (n+k)=paT w++koT (n+k):=by
 unfold koT;by_cases h0:n=0
 ·subst h0;rw[iP rfl,cm,tz];unfold paT;by_cases hw:w.size=0
  ·rw[iP hw,NJ,tz];rfl
  ·rw[iN hw];have:=KZ (l:=[]) (p:=((0:Int),((0:Int),w))) (f:=0) (t:=0+k);rw[cd] at this;rw[this,tz,iN (λh=>hw h.1)]
 ·rw[iN h0,tz,KZ,tz,iP ⟨rfl,rfl⟩]
theorem G9:ByteArray.empty.size=0:=rfl
theorem UL {w:ByteArray} {N:Nat} (hw:A4 w=true) (h:N+w.size<=20000):isD N (paT w++koT N)=true:=by
 unfold isD paT koT;by_cases h1:w.size=0
 ·rw[iP h1];by_cases h2:(N:Int)=0
  ·rw[iP h2];simp[isL];omega
  ·rw[iN h2];simp only[cd,isL,G9,if_true,lC,eb,mn,bq,dE];refine⟨⟨by omega,by omega,by omega⟩,by omega,.inr (by simp),by omega,by omega,by omega⟩
 ·rw[iN h1];by_cases h2:(N:Int)=0
  ·rw[iP h2];simp only[cm,isL,iN h1,hw,lC,eb,mn,bq,dE];refine⟨⟨by omega,by omega,by omega⟩,trivial,trivial,by simp,by omega⟩
  ·rw[iN h2];simp only[db,cd,isL,iN h1,hw,G9,if_true,lC,eb,mn,bq,dE];refine⟨⟨by omega,by omega,by omega⟩,⟨trivial,trivial,by simp,by omega⟩,by omega,.inr (by simp),by omega,by omega,by omega⟩
theorem UM {w:ByteArray} {N:Nat} (hw:A4 w=true) (h:N+w.size<=20000) (h0:0<=p) (hp:p<=N):mv N (paT w++koT N) p true=p+w.size/\(0<p->mv N (paT w++koT N) p false=p+w.size):=by
 unfold mv;rw[UL hw h,iP rfl,iP rfl,iP rfl,uf,show min (max p 0) (N:Int)=p by omega];unfold paT koT;by_cases h1:w.size=0
 ·rw[iP h1];by_cases h2:(N:Int)=0
  ·rw[iP h2];simp only[cm,mvE];omega
  ·rw[iN h2];simp only[cd,mvE,G9,if_true];by_cases h3:(0:Int)>=p;·rw[iP h3];simp only;omega
   ·rw[iN h3];by_cases h4:(N:Int)>p;·rw[iP h4];simp only;omega
    ·rw[iN h4];simp only;omega
 ·rw[iN h1];by_cases h2:(N:Int)=0
  ·rw[iP h2];simp only[cm,mvE,iN h1];omega
  ·rw[iN h2];simp only[db,cd,mvE,iN h1,G9,if_true];by_cases h3:(0:Int)>=p;·rw[iP h3];simp only;omega
   ·rw[iN h3];by_cases h4:(N:Int)>p;·rw[iP h4];simp only;omega
    ·rw[iN h4];simp only;omega
theorem cJ {r:Int} {u:List Int}:∀{l:List Atm},(∀a∈l,vis r u a=false)->vtx r u l=[]
 |[],_=>rfl
 | a :: l,h => by simp only[vtx];rw[h a mS,uf];exact cJ λb hb=>h b (mC _ hb)
theorem ZJ {g:Int} (hK:100000<=K) (hu:u.length<=50000):J3 K u g=some (!holds g u):=by
 rw[J3];unfold holds;by_cases h:g=-1;·rw[iN (by simp[h])];simp[h]
 ·rw[iP (by simpa using h),GZ hK (by omega),oB];simp[h]
theorem ZL {K:Nat} {l:List (Int×Int)} {u:List Int} {rev:Int} (hK:100000<=K) (hu:u.length<=50000) (hl:l.length<=50000):∀(r:List (Int×Int)) (j k:Nat),l.drop j=r->r.length<k->C0.l0 K l rev u k (j:Int)=some (!r.any (EV rev u))
 | [],j,k+1,h,_ => by have:=A1 h;rw[C0.l0,tt];rfl
 | c :: r,j,k+1,h,hk => by
   obtain⟨h1,h2,h3⟩:=A0 h zP;have hb:0<=(j:Int)/\(j:Int)<l.length:=⟨by omega,by omega⟩;rw[C0.l0,tq,tN,h2,ZJ hK hu,oB,up1,ZL hK hu hl r (j+1) k h3 (by simpa using hk)];simp only[iP hb,ii,EV];by_cases hc:c.1<=rev
   ·rw[iP (by simpa using hc),oB,decide_eq_true hc];cases holds c.2 u<;>simp
   ·rw[iN (by simpa using hc),oB,decide_eq_false hc];simp
theorem JK {a:Atm} (hK:100000<=K) (hu:u.length<=50000) (hl:a.2.2.2.2.length<=50000):C0 K a.1 a.2.1 a.2.2.1 a.2.2.2.1 a.2.2.2.2 rev u=some (vis rev u a):=by
 rw[C0,ZJ hK hu,oB];have e:=ZL (K:=K) (rev:=rev) hK hu hl a.2.2.2.2 0 K rfl (by omega);have e:C0.l0 K a.2.2.2.2 rev u K 0=_:=e;rw[e];unfold vis;by_cases hc:a.2.1<=rev
 ·rw[tt,oB,decide_eq_true hc];cases holds a.2.2.1 u<;>simp
 ·rw[tq,oB,decide_eq_false hc];simp
theorem RI:plc rev u p l=p::(plc rev u p l).tail:=by cases l<;>rfl
theorem S8 {K:Nat} {l:List Atm} {u:List Int} {rev:Int} (hK:100000<=K) (hu:u.length<=50000) (hl:Aok l):∀(r:List Atm) (j k:Nat) (n:Int) (x:List Int),l.drop j=r->r.length<k->x.length+r.length<=1000000->0<=n->n+10*r.length<=1000000->
 CX.l0 K l rev u k n x (j:Int)=some (x++(plc rev u n r).tail)
 | [],j,k+1,n,x,h,_,_,_,_ => by have:=A1 h;rw[CX.l0,tt];simp[plc]
 | g :: r,j,k+1,n,x,h,hk,hx,h0,hn => by
   obtain⟨h1,h2,h3⟩:=A0 h zA;have hlen:=hl.1;have hg:=hl.2 g (mdr h);simp only[lC] at hx hn;rw[CX.l0,tq,tN,h2,JK hK hu (by omega),oB,iP ⟨by omega,by omega⟩,up1];have e:(plc rev u n (g::r)).tail=plc rev u (if vis rev u g=true then n+g.1.size else n) r:=rfl;rw[e];cases hv:vis rev u g with
   | true =>
     rw[iP rfl,iP rfl,w64,tq,S8 hK hu hl r (j+1) k _ _ h3 (by simpa using hk) (by simp;omega) (by omega) (by omega),aA];congr 2;exact RI.symm
   | false =>
     simp only[iq,if_false];rw[tq,S8 hK hu hl r (j+1) k _ _ h3 (by simpa using hk) (by simp;omega) (by omega) (by omega),aA];congr 2;exact RI.symm
theorem YZ (hK:100000<=K) (hu:u.length<=50000) (hl:Aok l):CX K l rev u=some (plc rev u 0 l):=by have hlen:=hl.1;have e:=S8 (K:=K) (rev:=rev) hK hu hl l 0 K 0 [0] rfl (by omega) (by simp;omega) (by omega) (by omega);have e:CX.l0 K l rev u K 0 [0] 0=_:=e;rw[CX,e];congr 1;exact RI.symm
theorem GE (hK:s.size+10<=K) (hs:s.size<=1000000):DS K s p=some (isE s p):=by
 have hb:=AU (s:=s) (i:=p);rw[DS,JJ hK (by omega),oB];unfold isE;by_cases h0:p<0;·rw[iP (by simpa using h0),oB,iP rfl,decide_eq_false (by omega),ec]
 rw[iN (by simpa using h0)];by_cases h1:p>s.size;·rw[iP (by simpa using h1),oB,iP rfl,decide_eq_false (by omega),ec]
 rw[iN (by simpa using h1),oB,decide_eq_true ⟨by omega,by omega⟩,dq];cases A4 s with
 |false=>rfl
 | true =>
   rw[uf,dq];by_cases h2:p=s.size;·rw[iP (by simpa using h2),decide_eq_true h2];rfl
   ·rw[iN (by simpa using h2),iP ⟨by omega,by omega⟩,w64,MK hb.1 hb.2,decide_eq_false h2,mm]
theorem sZ {r:Int} {a:Atm} {g:Int} (h:r<w):vis r u (DZ a (w,g))=vis r u a:=by unfold vis DZ;simp only[List.any_append,ii,List.any_nil,EV];rw[decide_eq_false (show ¬w<=r by omega)];simp
theorem cE {r:Int} {u:List Int} {w g:Int} (h:r<w):∀{bs:List Bool} {l:List Atm},vtx r u (ctA (w,g) bs l)=vtx r u l
 |[],l=>by simp[ctA]
 |_::_,[]=>rfl
 | b :: bs,a :: l => by
   simp only[ctA,vtx,cE h];cases b with
   |false=>rfl
   | true =>
     simp only[if_true,sZ h];rfl
theorem cL {r:Int} {u:List Int} {old:List Atm}:∀{rs:List (Nat×List Atm)} {p:Nat},Inc p rs->(∀q∈rs,∀a∈q.2,vis r u a=false)->vtx r u (spl old p rs)=vtx r u (old.drop p)
 |[],p,_,_=>rfl
 | (s,x) :: rs,p,hi,hx => by
   obtain⟨hps,hi⟩:=hi;have hps:p<=s:=hps;simp only[spl];rw[M9,M9,cL hi (λq hq=>hx q (mC _ hq)),cJ (hx _ mS),cd,<-M9];congr 1;have:old.drop s=(old.drop p).drop (s-p):=by rw[lq];congr 1;omega
   rw[this,dm]
theorem tD {r:Int} {v:List Int} {g rank:Int} (h:r<w) (G:Gok s c):vtx r u (upS rev v c w g rank l)=vtx r u l:=by
 unfold upS;rw[cL (VY G.od (λx hx=>(G.bd x hx).2.1) λ_ _=>Nat.zero_le _) (λq hq a ha=>by obtain⟨y,hy,rfl⟩:=cj.1 hq;obtain⟨_,_,e⟩:=O3 (G.vt y hy) a ha;unfold vis;rw[e,decide_eq_false (by simp only;omega)];rfl),ic,cE h]
def edG (l:List Atm) (us:List (List Int)) (f:Int) (g o:List Int) (sel:List Rg) (kd base grp rank:Int) (c:List Chg) (t:ByteArray):Int×Int×List Atm×List (List Int)×List Int×List Int:=
 if kd=1 then AL l us f g o base grp rank c
 else if kd=2 then C3 l us f g o grp
 else if kd=5 then AL l us f g o (hdR us f) grp 0 (sel.map (tyC t))
 else if 0<(if isR (tP (A7 l us f)) sel=true then erC (tP (A7 l us f)) 0 sel else []).length then AL l us f g o (hdR us f) grp 0 (if isR (tP (A7 l us f)) sel=true then erC (tP (A7 l us f)) 0 sel else [])
 else (0,0,l,us,g,o)
theorem fE {base rank:Int} (h:Ivt l us f g o) (hv:Av l):Ivt (edG l us f g o sel kd base grp rank c t).2.2.1 (edG l us f g o sel kd base grp rank c t).2.2.2.1 f (edG l us f g o sel kd base grp rank c t).2.2.2.2.1 (edG l us f g o sel kd base grp rank c t).2.2.2.2.2/\Av (edG l us f g o sel kd base grp rank c t).2.2.1:=by
 unfold edG;split;·exact⟨MP h,P2 hv⟩
 ·split;·exact⟨qV h,cY hv⟩
  ·split;·exact⟨MP h,P2 hv⟩
   ·generalize (if isR (tP (A7 l us f)) sel=true then erC (tP (A7 l us f)) 0 sel else [])=cs;split;·exact⟨MP h,P2 hv⟩
    ·exact⟨h,hv⟩
theorem N0 {s:ByteArray}:∀{l:List Rg} {e:Int},∀x∈erC s e l,x.2.2=cc
 |[],e,x,h=>by simp[erC] at h
 | y :: l,e,x,h => by
   rw[erC] at h;split at h;·exact N0 x h
   ·rcases bv.1 h with rfl|h;·rfl
    ·exact N0 x h
theorem fD {bk:List Int} {base rank:Int} (hK:100000<K) (V:Vi l us f g o R sel sp bk) (hc:Cok c) (ht:t.size<=30000) :
 M7 K l us f g o R sel sp bk kd base grp rank c gs rg t x y z=some (edG l us f g o sel kd base grp rank c t).2:=by
 have hse:=V.se;have hln:=V.len;unfold M7 edG;by_cases h1:kd=1;·rw[iP (by simpa using h1),iP h1,PQ (by omega) V.iv hc,oB]
 rw[iN (by simpa using h1),iN h1];by_cases h2:kd=2;·rw[iP (by simpa using h2),iP h2,gW (by omega) V.iv,oB]
 rw[iN (by simpa using h2),iN h2];by_cases h5:kd=5
 ·rw[iP (by simpa using h5),iP h5,HL V.iv.rok,oB,rJ (by omega) (by omega),oB,PQ (by omega) V.iv ⟨by rw[du];omega,λw hw=>by obtain⟨v,_,rfl⟩:=cj.1 hw;exact ht⟩,oB]
 rw[iN (by simpa using h5),iN h5,TO (by omega) V,oB,gV (by omega) (by rw[AX];omega) (by omega),oB];have hcs:(if isR (tP (A7 l us f)) sel=true then erC (tP (A7 l us f)) 0 sel else []).length<=sel.length/\∀w∈(if isR (tP (A7 l us f)) sel=true then erC (tP (A7 l us f)) 0 sel else []),w.2.2=cc:=by
  split;·exact⟨MZ,N0⟩
  ·exact⟨by simp,λw hw=>(gu hw).elim⟩
 generalize (if isR (tP (A7 l us f)) sel=true then erC (tP (A7 l us f)) 0 sel else [])=cs at *;by_cases hp:0<cs.length;·rw[iP (decide_eq_true (by omega)),iP hp,HL V.iv.rok,oB,PQ (by omega) V.iv ⟨by omega,λw hw=>by rw[hcs.2 w hw,GU];omega⟩,oB]
 ·rw[iN (by rw[dE];omega),iN hp]
theorem YO {K:Nat} {d:List El} {base:Int} (hK:30000<=K) (hb:base<=20000) (hl:d.length<=60):∀(rest:List El) (j k:Nat) (size to:Int) (text:Bool),d.drop j=rest->rest.length<k->0<=size->size<=20000->0<=to->to<=20000->text=decide (AG d j≠some true)->
 C7.l0 K d base k to text size (j:Int)=some (isL base size to (AG d j) rest)
 | [],j,k,size,to,text,hd,hk,h0,h1,h2,h3,ht => by obtain⟨k,rfl⟩:∃m,k=m+1:=⟨k-1,by simp at hk;omega⟩;have:=A1 hd;rw[C7.l0,tt];rfl
 | x :: rest,j,k,size,to,text,hd,hk,h0,h1,h2,h3,ht => by
   obtain⟨k,rfl⟩:∃m,k=m+1:=⟨k-1,by simp at hk;omega⟩;obtain⟨hj,hgd,hd'⟩:=A0 hd el0;have hk':rest.length<k:=by simp at hk;omega
   have hw:ba .i64 ((j:Int)+1)=((j+1:Nat):Int):=by rw[w64];omega
   have hws:ba .i64 ((20000:Int)-size)=20000-size:=w64;have hps:=XG hgd;have hnext:=λ(size' to':Int) (text':Bool) (a0:0<=size') (a1:size'<=20000) (a2:0<=to') (a3:to'<=20000) (a4:text'=decide (AG d (j+1)≠some true))=>YO (K:=K) hK hb hl rest (j+1) k size' to' text' hd' hk' a0 a1 a2 a3 a4;rw[hps] at hnext;have hj0:j=0↔AG d j=none:=by unfold AG;by_cases h:j=0<;>simp[h]
   rw[C7.l0];simp only[tN,hgd,hw,hws,OO];rw[iP (by simpa using hj),iP ⟨by omega,by omega⟩,isL];by_cases hz:x.2.2.size=0
   ·rw[iN (by simpa using hz),iP hz];by_cases c1:x.1<to;·rw[iP (by simpa using c1),oB,iP rfl,decide_eq_false (by omega)];rfl
    ·rw[iN (by simpa using c1)];have tail:(if decide (x.2.1<=x.1)=true then some true else if decide (x.2.1>base)=true then some true else some (decide (ba .i64 (x.2.1-x.1)>20000-size)))=some (!decide (x.1<x.2.1/\x.2.1<=base/\size+(x.2.1-x.1)<=20000)):=by
      by_cases a1:x.2.1<=x.1;·rw[iP (by simpa using a1),decide_eq_false (by omega)];rfl
      ·rw[iN (by simpa using a1)];by_cases a2:x.2.1>base;·rw[iP (by simpa using a2),decide_eq_false (by omega)];rfl
       ·rw[iN (by simpa using a2),w64];by_cases a3:size+(x.2.1-x.1)<=20000;·rw[decide_eq_true (show x.1<x.2.1/\x.2.1<=base/\size+(x.2.1-x.1)<=20000 by omega),decide_eq_false (by omega)];rfl
        ·rw[decide_eq_false (show ¬(x.1<x.2.1/\x.2.1<=base/\size+(x.2.1-x.1)<=20000) by omega),decide_eq_true (by omega)];rfl
     rw[tail];have main:(if decide ((j:Int)>0)=true then if (!text)=true then if (x.1==to)=true then some true else some (!decide (x.1<x.2.1/\x.2.1<=base/\size+(x.2.1-x.1)<=20000)) else some (!decide (x.1<x.2.1/\x.2.1<=base/\size+(x.2.1-x.1)<=20000)) else some (!decide (x.1<x.2.1/\x.2.1<=base/\size+(x.2.1-x.1)<=20000))) =
      some (!decide (to<=x.1/\(to<x.1\/AG d j≠some true)/\x.1<x.2.1/\x.2.1<=base/\size+(x.2.1-x.1)<=20000)):=by
      by_cases hp:AG d j=some true
      ·have hjp:¬j=0:=λh=>by rw[hj0.1 h] at hp;cases hp
       have hte:text=false:=by rw[ht,hp];simp
       rw[tq,hte,iP (by simp)];by_cases a1:x.1=to
       ·rw[iP (by simpa using a1),decide_eq_false (show ¬(to<=x.1/\(to<x.1\/AG d j≠some true)/\x.1<x.2.1/\x.2.1<=base/\size+(x.2.1-x.1)<=20000) by
         intro h;rcases h.2.1 with h'|h';·omega
         ·exact h' hp)]
        rfl
       ·rw[iN (by simpa using a1)];congr 2;rw[decide_eq_decide];exact⟨λh=>⟨by omega,.inl (by omega),h⟩,λh=>h.2.2⟩
      ·have hte:text=true:=by rw[ht];exact decide_eq_true hp
       have hfin:(decide (x.1<x.2.1/\x.2.1<=base/\size+(x.2.1-x.1)<=20000))=decide (to<=x.1/\(to<x.1\/AG d j≠some true)/\x.1<x.2.1/\x.2.1<=base/\size+(x.2.1-x.1)<=20000):=by rw[decide_eq_decide];exact⟨λh=>⟨by omega,.inr hp,h⟩,λh=>h.2.2⟩
       rw[hte,hfin];simp
     rw[main,oB];by_cases c:to<=x.1/\(to<x.1\/AG d j≠some true)/\x.1<x.2.1/\x.2.1<=base/\size+(x.2.1-x.1)<=20000
     ·rw[decide_eq_true c,uf,w64 (n:=size+x.2.1),w64 (n:=size+x.2.1-x.1),hnext _ _ _ (by omega) (by omega) (by omega) (by omega) (by rw[decide_eq_true hz];simp),decide_eq_true hz,show size+x.2.1-x.1=size+(x.2.1-x.1) by omega];rfl
     ·rw[decide_eq_false c,iP (by simp)];rfl
   ·rw[iP (by simpa using hz),iN hz];have inner:(if decide ((x.2.2.size:Int)>20000-size)=true then some true else (BW K x.2.2).bind λr_33=>some (!r_33))=some (!(decide (size+(x.2.2.size:Int)<=20000)&&A4 x.2.2)):=by
     by_cases a1:(x.2.2.size:Int)>20000-size;·rw[iP (by simpa using a1),decide_eq_false (by omega)];rfl
     ·rw[iN (by simpa using a1),decide_eq_true (by omega),JJ (by omega) (by omega)];rfl
    rw[inner];by_cases c1:x.1=0
    ·rw[iN (by simpa using c1)];by_cases c2:x.2.1=0
     ·rw[iN (by simpa using c2)];have main:(if decide ((j:Int)>0)=true then if text=true then some true else some (!(decide (size+(x.2.2.size:Int)<=20000)&&A4 x.2.2)) else some (!(decide (size+(x.2.2.size:Int)<=20000)&&A4 x.2.2))) =
       some (!(decide (x.1=0/\x.2.1=0/\AG d j≠some false/\size+(x.2.2.size:Int)<=20000)&&A4 x.2.2)):=by
       by_cases hp:AG d j=some false
       ·have hjp:¬j=0:=λh=>by rw[hj0.1 h] at hp;cases hp
        have hte:text=true:=by rw[ht,hp];simp
        rw[tq,hte,iP rfl,decide_eq_false (λh=>h.2.2.1 hp)];rfl
       ·have hfin:decide (size+(x.2.2.size:Int)<=20000)=decide (x.1=0/\x.2.1=0/\AG d j≠some false/\size+(x.2.2.size:Int)<=20000):=by
         rw[decide_eq_decide];exact⟨λh=>⟨c1,c2,hp,h⟩,λh=>h.2.2.2⟩
        rw[hfin];by_cases hjp:j=0;·rw[tt]
        ·have:AG d j=some true:=by
          cases hq:AG d j with
          |none=>exact absurd (hj0.2 hq) hjp
          | some b => cases b with
            |true=>rfl
            |false=>exact absurd hq hp
         have hte:text=false:=by rw[ht,this];simp
         rw[tq,hte,uf]
      rw[main,oB];cases hb2:(decide (x.1=0/\x.2.1=0/\AG d j≠some false/\size+(x.2.2.size:Int)<=20000)&&A4 x.2.2) with
      |false=>rw[iP (by simp)];rfl
      | true =>
        rw[bq,dE] at hb2;rw[uf,w64 (n:=size+(x.2.2.size:Int)),hnext _ _ _ (by omega) hb2.1.2.2.2 h2 h3 (by rw[decide_eq_false hz];simp),decide_eq_false hz];rfl
     ·rw[iP (by simpa using c2),oB,iP rfl,decide_eq_false (λh=>c2 h.2.1)];rfl
    ·rw[iP (by simpa using c1),oB,iP rfl,decide_eq_false (λh=>c1 h.1)];rfl
theorem JG {base:Int} (hK:30000<=K):C7 K base d=some (isD base d):=by
 unfold C7 isD;by_cases h1:base<0;·rw[iP (by simpa using h1),oB,iP rfl,decide_eq_false (by omega)];rfl
 ·rw[iN (by simpa using h1)];by_cases h2:base>20000;·rw[iP (by simpa using h2),oB,iP rfl,decide_eq_false (by omega)];rfl
  ·rw[iN (by simpa using h2),oB];by_cases h3:d.length>60;·rw[tq,decide_eq_false (by omega)];rfl
   ·have h:=YO (K:=K) (d:=d) (base:=base) hK (by omega) (by omega) d 0 K 0 0 true rfl (by omega) (by omega) (by omega) (by omega) (by omega) rfl;rw[ix] at h;rw[tt,h,decide_eq_true (by omega)];rfl
def B7 (t:ByteArray):List Ce:=(txt t).map λb=>(-1,b)
def AB:Int->Nat->List Ce
 |_,0=>[]
 |f,m+1=>(f,0)::AB (f+1) m
def cells:List El->List Ce
 |[]=>[]
 |x::r=>(B7 x.2.2++AB x.1 (x.2.1-x.1).toNat)++cells r
theorem FO:(B7 t).length=t.size:=by simp[B7,DJ]
theorem ET:∀{m:Nat} {f:Int},(AB f m).length=m
 |0,_=>rfl
 |m+1,f=>by rw[AB,lC,ET]
theorem PA {base:Int}:∀{l:List El},(∀x∈l,okE base x)->((cells l).length:Int)=AD l+A6 l
 |[],_=>rfl
 | x :: r,h => by obtain⟨o1,o2,o3,o4⟩:=h x (by simp);have:=PA (l:=r) λy hy=>h y (by simp[hy]);simp only[cells,AD,A6,lA,FO,ET];omega
theorem dD {x:El} (hx:d.getD i el0=x) (hs:x.2.2.size<=1000000):∀(n j k:Nat) (out:List Ce),j+n=x.2.2.size->n<k->out.length<=10000000+j->
 AS.l1 K d (i:Int) k out (j:Int)=some (out++(B7 x.2.2).drop j):=by
 have htl:=DJ (s:=x.2.2);have hcl:=FO (t:=x.2.2);intro n;induction n with
 | zero =>
   intro j k out hj hk ho;obtain⟨k,rfl⟩:=ug (k:=k);rw[AS.l1,tN,hx,tt,lx (by omega)];simp
 | succ n ih =>
   intro j k out hj hk ho;obtain⟨k,rfl⟩:=ug (k:=k);have hw:ba .i64 ((j:Int)+1)=((j+1:Nat):Int):=by rw[w64];omega
   have hjt:j<(txt x.2.2).length:=by omega
   have hjc:j<(B7 x.2.2).length:=by omega
   have hg:(B7 x.2.2)[j]=(-1,(txt x.2.2)[j]):=by
    have:∀(l:List Ce) (h:j<l.length),l=(txt x.2.2).map (λb=>(-1,b))->l[j]=(-1,(txt x.2.2)[j]):=by intro l h e;subst e;rw[qx]
    exact this _ hjc rfl
   rw[AS.l1,tN,hx,tq,IG hjt,iP ⟨by omega,by omega,by simp;omega⟩,hw,ih (j+1) k _ (by omega) (by omega) (by simp;omega),ij hjc,hg];simp only[aA,jD]
theorem dB {x:El} (hx:d.getD i el0=x) (h1:x.2.1<=1000000):∀(n k:Nat) (f:Int) (out:List Ce),0<=f->f+n=x.2.1\/n=0/\x.2.1<=f->n<k->out.length+n<=100000000->
 AS.l2 K d (i:Int) k out f=some (out++AB f n):=by
 intro n;induction n with
 | zero =>
   intro k f out h0 hf hk ho;obtain⟨k,rfl⟩:=ug (k:=k);rw[AS.l2,tN,hx,tt];simp[AB]
 | succ n ih =>
   intro k f out h0 hf hk ho;obtain⟨k,rfl⟩:=ug (k:=k);rw[AS.l2,tN,hx,tq,tq,w64,ih k (f+1) _ (by omega) (by omega) (by omega) (by simp;omega),AB];simp only[aA,jD]
theorem U5 {K:Nat} {d:List El} {base:Int} (hK:100000<=K) (hb:base<=20000) (hl:d.length<=1000):∀(rest:List El) (j k:Nat) (out:List Ce),d.drop j=rest->rest.length<k->(∀x∈rest,okE base x)->out.length+AD rest+A6 rest<=20000->
 AS.l0 K d k out (j:Int)=some (out++cells rest)
 | [],j,k,out,hd,hk,hx,ho => by obtain⟨k,rfl⟩:∃m,k=m+1:=⟨k-1,by simp at hk;omega⟩;have:=A1 hd;rw[AS.l0,tt];simp[cells]
 | x :: rest,j,k,out,hd,hk,hx,ho => by
   obtain⟨k,rfl⟩:∃m,k=m+1:=⟨k-1,by simp at hk;omega⟩;obtain⟨hj,hgd,hd'⟩:=A0 hd el0;have hk':rest.length<k:=by simp at hk;omega
   have hw:ba .i64 ((j:Int)+1)=((j+1:Nat):Int):=by rw[w64];omega
   obtain⟨o1,o2,o3,o4⟩:=hx x (by simp);have hr:∀y∈rest,okE base y:=λy hy=>hx y (by simp[hy]);have hnn:=GM hr;simp only[AD,A6] at ho;have e1:=dD (K:=K) (d:=d) (i:=j) hgd (by omega) x.2.2.size 0 K out (by omega) (by omega) (by omega);rw[ix,ic] at e1;have hcl:=FO (t:=x.2.2);have e2:=dB (K:=K) (d:=d) (i:=j) hgd (by omega) (x.2.1-x.1).toNat K x.1 (out++B7 x.2.2) o1 (by omega) (by omega) (by simp;omega);rw[AS.l0,iP (by simpa using hj),iP ⟨by omega,by omega⟩,e1,oB,tN,hgd,e2,oB,hw,U5 hK hb hl rest (j+1) k _ hd' hk' hr (by simp[ET];omega),cells];simp only[aA]
theorem U4 {base:Int} (hK:100000<=K) (h:isD base d=true):AS K base d=some (cells d):=by obtain⟨h1,h2,h3,h4,h5⟩:=H2 h;unfold AS;have e:=U5 (K:=K) hK h2 (by omega) d 0 K [] rfl (by omega) h4 (by simp;omega);rw[ix] at e;rw[e];rfl
def D8:Int->List El->Int
 |to,[]=>to
 |to,x::r=>D8 (if x.2.2.size=0 then x.2.1 else to) r
def IU:Option Bool->List El->Option Bool
 |p,[]=>p
 |_,x::r=>IU (some (decide (x.2.2.size=0))) r
theorem FV {base:Int}:∀{l r:List El} {to:Int} {pre:Option Bool},isS base to pre (l++r)↔isS base to pre l/\isS base (D8 to l) (IU pre l) r
 |[],r,to,pre=>by simp[isS,D8,IU]
 | x :: l,r,to,pre => by
   rw[db,isS,isS,D8,IU];by_cases h:x.2.2.size=0
   ·rw[iP h,iP h,iP h,decide_eq_true h,FV];exact⟨λh=>⟨⟨h.1,h.2.1⟩,h.2.2⟩,λh=>⟨h.1.1,h.1.2,h.2⟩⟩
   ·rw[iN h,iN h,iN h,decide_eq_false h,FV];exact⟨λh=>⟨⟨h.1,h.2.1⟩,h.2.2⟩,λh=>⟨h.1.1,h.1.2,h.2⟩⟩
theorem H3:∀{l:List El} {x:El} {to:Int},D8 to (l++[x])=if x.2.2.size=0 then x.2.1 else D8 to l
 |[],_,_=>rfl
 |y::l,x,to=>by rw[db,D8,H3,D8]
theorem QQ:∀{l:List El} {x:El} {p:Option Bool},IU p (l++[x])=some (decide (x.2.2.size=0))
 |[],_,_=>rfl
 |y::l,x,p=>by rw[db,IU,QQ]
def FK (base:Int) (acc:List El) (a:Int):Prop:=isS base 0 none acc/\D8 0 acc<=a/\0<=a/\a<=base
theorem j8 {base:Int} {acc:List El} (h:FK base acc a) (h1:a<=f) (h2:f<=base):FK base (CE acc a f) f:=by
 obtain⟨m1,m2,m3,m4⟩:=h;by_cases he:acc=[]
 ·subst he;rw[NJ];by_cases hf:a=f;·rw[iP hf];exact⟨m1,by rw[D8];omega,by omega,h2⟩
  ·rw[iN hf];refine⟨?_,?_,by omega,h2⟩
   ·rw[isS,iP GU];exact⟨⟨m3,.inr (by simp),by simp only;omega,h2⟩,trivial⟩
   ·rw[D8,iP GU,D8];simp
 ·obtain⟨l,p,rfl⟩:=EO he;rw[KZ];by_cases hf:a=f;·rw[iP hf];exact⟨m1,by omega,by omega,h2⟩
  ·rw[iN hf];have m1':=m1;rw[FV] at m1';obtain⟨i1,i2⟩:=m1';rw[H3] at m2;by_cases hp:p.2.2.size=0/\p.2.1=a
   ·rw[iP hp];rw[isS,iP hp.1] at i2;refine⟨?_,?_,by omega,h2⟩
    ·rw[FV];refine⟨i1,?_⟩;rw[isS,iP (show (p.1,f,p.2.2).2.2.size=0 from hp.1)];have:=i2.1.2.2.1;exact⟨⟨i2.1.1,i2.1.2.1,by simp only;omega,h2⟩,trivial⟩
    ·rw[H3,iP (show (p.1,f,p.2.2).2.2.size=0 from hp.1)];simp
   ·rw[iN hp];refine⟨?_,?_,by omega,h2⟩
    ·rw[FV];refine⟨m1,?_⟩;rw[isS,iP GU,H3,QQ];refine⟨⟨by simpa using m2,?_,by simp only;omega,h2⟩,trivial⟩;by_cases hz:p.2.2.size=0
     ·rw[iP hz] at m2 ⊢;left;simp only;have:p.2.1≠a:=λe=>hp ⟨hz,e⟩;omega
     ·right;rw[decide_eq_false hz];simp
    ·rw[H3,iP GU];simp
theorem j9 {base:Int} {acc:List El} (h:FK base acc a) (hv:A4 s=true):FK base (CU acc s) a:=by
 obtain⟨m1,m2,m3,m4⟩:=h;by_cases he:acc=[]
 ·subst he;rw[QZ];by_cases hz:s.size=0;·rw[iP hz];exact⟨m1,m2,m3,m4⟩
  ·rw[iN hz];refine⟨?_,?_,m3,m4⟩
   ·rw[isS,iN hz];exact⟨⟨rfl,rfl,by simp,hv⟩,trivial⟩
   ·rw[D8,iN hz,D8];exact m3
 ·obtain⟨l,p,rfl⟩:=EO he;rw[QY];by_cases hz:s.size=0;·rw[iP hz];exact⟨m1,m2,m3,m4⟩
  ·rw[iN hz];have m1':=m1;rw[FV] at m1';obtain⟨i1,i2⟩:=m1';by_cases hp:p.2.2.size=0
   ·rw[iP hp];refine⟨?_,?_,m3,m4⟩
    ·rw[FV];refine⟨m1,?_⟩;rw[isS,iN hz,QQ,decide_eq_true hp];exact⟨⟨rfl,rfl,by simp,hv⟩,trivial⟩
    ·rw[H3,iN hz];exact m2
   ·rw[iN hp];rw[isS,iN hp] at i2;have hz2:¬(p.2.2++s).size=0:=by rw[DK];omega
    refine⟨?_,?_,m3,m4⟩
    ·rw[FV];refine⟨i1,?_⟩;rw[isS,iN hz2];exact⟨⟨i2.1.1,i2.1.2.1,i2.1.2.2.1,c6 i2.1.2.2.2 hv⟩,trivial⟩
    ·rw[H3,iN hz2];rw[H3,iN hp] at m2;exact m2
theorem P9:∀{m n:Nat} {f:Int},AB f (m+n)=AB f m++AB (f+m) n
 |0,n,f=>by simp[AB]
 | m+1,n,f => by rw[show m+1+n=(m+n)+1 by omega,AB,P9,AB,show f+1+(m:Int)=f+((m+1:Nat):Int) by omega];rfl
theorem dC {a b:ByteArray}:B7 (a++b)=B7 a++B7 b:=by unfold B7;rw[T6,rq]
theorem FE (h:t.size=0):B7 t=[]:=bx (by rw[FO];exact h)
theorem HO:∀{l r:List El},cells (l++r)=cells l++cells r
 |[],r=>rfl
 |x::l,r=>by simp only[db,cells,HO,aA]
theorem dH {base:Int} {l:List El} (hm:isS base 0 none l):cells (CU l t)=cells l++B7 t:=by
 by_cases h:l=[]
 ·subst h;rw[QZ];split;·rename_i h;rw[FE h];rfl
  ·simp[cells,AB]
 ·obtain⟨m,p,rfl⟩:=EO h;rw[QY];split;·rename_i h;rw[FE h];simp
  ·split;·rw[HO];simp[cells,AB]
   ·rename_i hp;rw[FV] at hm;have i2:=hm.2;rw[isS,iN hp] at i2;rw[HO,HO];simp[cells,dC,i2.1.1,i2.1.2.1,AB]
theorem dG {base:Int} {l:List El} (h:FK base l a) (h1:a<=f):cells (CE l a f)=cells l++AB a (f-a).toNat:=by
 obtain⟨m1,m2,m3,m4⟩:=h;have ce:B7 cc=[]:=FE rfl;by_cases he:l=[]
 ·subst he;rw[NJ];split;·rename_i h;rw[h];simp[cells,AB]
  ·simp[cells,ce]
 ·obtain⟨m,p,rfl⟩:=EO he;rw[KZ];split;·rename_i h;rw[h];simp[AB]
  ·split
   ·rename_i hp;rw[FV] at m1;have i2:=m1.2;rw[isS,iP hp.1] at i2;have q2:=i2.1.2.2.1;have htz:=FE hp.1;rw[HO,HO];simp only[cells,htz,cm,cd,aA];congr 1;rw[hp.2];rw[show (f-p.1).toNat=(a-p.1).toNat+(f-a).toNat by omega,P9,show p.1+((a-p.1).toNat:Int)=a by omega]
   ·rw[HO];simp[cells,ce]
def B3:List Ce->Nat
 |[]=>0
 |c::r=>if c.1<0 then B3 r+1 else 0
def BB:Int->List Ce->Nat
 |_,[]=>0
 |a,c::r=>if c.1=a+1 then BB c.1 r+1 else 0
theorem ZG:∀{l:List Ce},B3 l<=l.length
 |[]=>bp _
 | c :: r => by rw[B3];have:=ZG (l:=r);split<;>simp only[lC]<;>omega
theorem ZF:∀{l:List Ce} {a:Int},BB a l<=l.length
 |[],_=>bp _
 | c :: r,a => by rw[BB];have:=ZF (l:=r) (a:=c.1);split<;>simp only[lC]<;>omega
def CJ:Nat->List Ce->List El
 |0,_=>[]
 |_,[]=>[]
 | m+1,c :: r =>
   if c.1<0 then (0,0,tP (c.2::(r.take (B3 r)).map (·.2)))::CJ m (r.drop (B3 r))
   else (c.1,c.1+BB c.1 r+1,cc)::CJ m (r.drop (BB c.1 r))
theorem ZE:∀{m:Nat} {a:Int} {R:List Ce},(∀c r,R=c::r->c.1≠a+m+1)->BB a (AB (a+1) m++R)=m
 | 0,a,R,hR => by
   cases R with
   |nil=>rfl
   | cons c r =>
     have:=hR c r rfl;simp only[AB,cd,BB];rw[tz]
 | m+1,a,R,hR => by rw[AB,db,BB,iP rfl,ZE (λc r e=>by have:=hR c r e;omega)]
theorem U3 {base:Int}:∀{r:List El} {to:Int} {pre:Option Bool},0<=to->isS base to pre r->∀c R,cells r=c::R->(c.1=-1/\pre≠some false)\/(to<=c.1/\(to<c.1\/pre≠some true))
 |[],to,pre,h0,h,c,R,e=>by simp[cells] at e
 | x :: r,to,pre,h0,h,c,R,e => by
   rw[isS] at h;rw[cells] at e;split at h
   ·rename_i hz;obtain⟨m,hm⟩:∃m,(x.2.1-x.1).toNat=m+1:=⟨(x.2.1-x.1).toNat-1,by have:=h.1.2.2.1;omega⟩;rw[FE hz,hm,AB] at e;simp only[cd,db,ia] at e;right;rw[<-e.1];exact⟨h.1.1,h.1.2.1⟩
   ·rename_i hz;left;have hl:0<(txt x.2.2).length:=by rw[DJ];omega
    obtain⟨b,l,hb⟩:=pg hl;unfold B7 at e;rw[hb] at e;simp only[dj,db,ia] at e;rw[<-e.1];exact⟨rfl,h.1.2.2.1⟩
theorem jK {l:List Int}:(l.map (λb=>((-1:Int),b))).map (·.2)=l:=by
 rw[nb];have:((λx:Ce=>x.2) ∘ λb:Int=>((-1:Int),b))=id:=by funext b;rfl
 rw[this];simp
theorem T4 {base:Int}:∀{r:List El} {to:Int} {pre:Option Bool} {m:Nat},0<=to->isS base to pre r->(cells r).length<=m->CJ m (cells r)=r
 |[],to,pre,m,h0,h,hm=>by cases m<;>rfl
 | x :: r,to,pre,m,h0,h,hm => by
   rw[isS] at h;rw[cells] at hm ⊢;by_cases hz:x.2.2.size=0
   ·rw[iP hz] at h;have q1:=h.1.1;have q2:=h.1.2.2.1;obtain⟨n,hn⟩:∃n,(x.2.1-x.1).toNat=n+1:=⟨(x.2.1-x.1).toNat-1,by omega⟩;have hf:=U3 (r:=r) (to:=x.2.1) (by omega) h.2;rw[FE hz,hn,AB] at hm ⊢;simp only[cd,db,lC,lA,ET] at hm ⊢;obtain⟨m,rfl⟩:=ug (k:=m);have hrun:BB x.1 (AB (x.1+1) n++cells r)=n:=ZE λc R e=>by
     rcases hf c R e with h'|h';·omega
     ·rcases h'.2 with h2|h2;·omega
      ·exact absurd rfl h2
    rw[CJ,iN (by simp only;omega)];simp only;have hdrop:(AB (x.1+1) n++cells r).drop n=cells r:=by have:=ou (l₁:=AB (x.1+1) n) (l₂:=cells r);rwa[ET] at this
    have hx3:x.2.2=cc:=ZV.2 hz;rw[hrun,hdrop,T4 (by omega) h.2 (by omega),show x.1+(n:Int)+1=x.2.1 by omega,<-hx3]
   ·rw[iN hz] at h;have hf:=U3 (r:=r) (to:=to) h0 h.2;have hl:0<(txt x.2.2).length:=by rw[DJ];omega
    obtain⟨b,l,hb⟩:=pg hl;have hll:l.length+1=x.2.2.size:=by rw[<-DJ,hb];rfl
    have hcc:AB x.1 (x.2.1-x.1).toNat=[]:=by rw[h.1.1,h.1.2.1];rfl
    have hT:B7 x.2.2=(-1,b)::l.map (λb=>(-1,b)):=by unfold B7;rw[hb];rfl
    have hrun0:∀(l:List Int),B3 (l.map (λb=>((-1:Int),b))++cells r)=l.length:=by
     intro l;induction l with
     | nil =>
       cases hR:cells r with
       |nil=>rfl
       | cons c R =>
         simp only[List.map_nil,cd,B3];rw[iN];·rfl
         ·rcases hf c R hR with h'|h';·exact absurd rfl h'.2
          ·omega
     |cons b l ih=>simp only[dj,db,B3];rw[tw,ih];rfl
    rw[hcc,hT,cm] at hm ⊢;simp only[db,lC,lA,du] at hm ⊢;obtain⟨m,rfl⟩:=ug (k:=m);rw[CJ,iP (by simp only;omega)];simp only;have e1:(l.map (λb=>((-1:Int),b))++cells r).drop l.length=cells r:=by have:=ou (l₁:=l.map (λb=>((-1:Int),b))) (l₂:=cells r);rwa[du] at this
    have e2:(l.map (λb=>((-1:Int),b))++cells r).take l.length=l.map (λb=>((-1:Int),b)):=by have:=List.take_left (l₁:=l.map (λb=>((-1:Int),b))) (l₂:=cells r);rwa[du] at this
    have e3:tP (b::l)=x.2.2:=by rw[<-hb,WW]
    rw[hrun0,e1,e2,jK,e3,T4 h0 h.2 (by omega),<-h.1.1];obtain⟨x1,x2,x3⟩:=x;simp only at h ⊢;rw[h.1.1,h.1.2.1]
theorem bN {K:Nat} {l:List Ce} (hs:l.length<=1000000):∀(rest:List Ce) (j k:Nat) (t:List Int),l.drop j=rest->rest.length<k->t.length<=j->j<=l.length->
 AJ.l1 K l k (j:Int) t=some (((j+B3 rest:Nat):Int),t++(rest.take (B3 rest)).map (·.2))
 | [],j,k,t,hd,hk,ht,hj => by obtain⟨k,rfl⟩:∃m,k=m+1:=⟨k-1,by simp at hk;omega⟩;have:=A1 hd;rw[AJ.l1,tt,oB,uf];simp[B3]
 | c :: rest,j,k,t,hd,hk,ht,hjl => by
   obtain⟨k,rfl⟩:∃m,k=m+1:=⟨k-1,by simp at hk;omega⟩;obtain⟨hj,hgd,hd'⟩:=A0 hd zP;have hk':rest.length<k:=by simp at hk;omega
   have hw:ba .i64 ((j:Int)+1)=((j+1:Nat):Int):=by rw[w64];omega
   rw[AJ.l1];simp only[tN,hgd,hw];rw[iP (by simpa using hj),iP ⟨by omega,by omega⟩,oB,B3];by_cases h:c.1<0
   ·rw[iP (by simpa using h),iP ⟨by omega,by omega,by simp;omega⟩,iP h,bN hs rest (j+1) k _ hd' hk' (by simp;omega) (by omega),show j+1+B3 rest=j+(B3 rest+1) by omega,List.take_succ_cons,dj];simp only[aA,jD]
   ·rw[iN (by simpa using h),iN h];simp
theorem bM {K:Nat} {l:List Ce} (hs:l.length<=1000000) (hc:∀c∈l,c.1<=1000000/\-1<=c.1):∀(rest:List Ce) (j k:Nat),l.drop j=rest->rest.length<k->1<=j->j<=l.length->
 AJ.l2 K l k (j:Int)=some ((j+BB (l.getD (j-1) (0,0)).1 rest:Nat):Int)
 | [],j,k,hd,hk,h1,hj => by obtain⟨k,rfl⟩:∃m,k=m+1:=⟨k-1,by simp at hk;omega⟩;have:=A1 hd;rw[AJ.l2,tt,oB,uf];simp[BB]
 | c :: rest,j,k,hd,hk,h1,hjl => by
   obtain⟨k,rfl⟩:∃m,k=m+1:=⟨k-1,by simp at hk;omega⟩;obtain⟨hj,hgd,hd'⟩:=A0 hd zP;have hk':rest.length<k:=by simp at hk;omega
   have hw:ba .i64 ((j:Int)+1)=((j+1:Nat):Int):=by rw[w64];omega
   have hw1:ba .i64 ((j:Int)-1)=(j:Int)-1:=w64;have hn:((j:Int)-1).toNat=j-1:=by omega
   have hpm:l.getD (j-1) (0,0)∈l:=by rw[bb,bj (by omega)];simp
   have hpb:=hc _ hpm;have hnext:=bM (K:=K) hs hc rest (j+1) k hd' hk' (by omega) (by omega);rw[ky,hgd] at hnext;rw[AJ.l2];simp only[tN,hgd,hw,hw1,hn];rw[iP (by simpa using hj),iP ⟨by omega,by omega,by omega,by omega⟩,w64 (n:=(l.getD (j-1) (0,0)).1+1),oB,BB];by_cases h:c.1=(l.getD (j-1) (0,0)).1+1;·rw[iP (by simpa using h),iP h,hnext,show j+1+BB c.1 rest=j+(BB c.1 rest+1) by omega]
   ·rw[iN (by simpa using h),iN h];rfl
theorem qY {l:List Ce} (hK:l.length<K) (hs:l.length<=1000000) (hc:∀c∈l,c.1<=1000000/\-1<=c.1):∀(m:Nat) (rest:List Ce) (j k:Nat) (x:List El),rest.length<=m->l.drop j=rest->m<k->x.length<=j->j<=l.length->
 AJ.l0 K l k x (j:Int)=some (x++CJ m rest):=by
 intro m;induction m with
 | zero =>
   intro rest j k x hm hd hk hx hj;obtain⟨k,rfl⟩:=ug (k:=k);have:rest=[]:=bx (by omega);subst this;have:=A1 hd;rw[AJ.l0,tt];simp[CJ]
 | succ m ih =>
   intro rest j k x hm hd hk hx hjl;obtain⟨k,rfl⟩:=ug (k:=k);cases rest with
   | nil =>
     have:=A1 hd;rw[AJ.l0,tt];simp[CJ]
   | cons c rest =>
     obtain⟨hj,hgd,hd'⟩:=A0 hd zP;have hlr:rest.length=l.length-(j+1):=by rw[<-hd',cq]
     have hw:ba .i64 ((j:Int)+1)=((j+1:Nat):Int):=by rw[w64];omega
     simp only[lC] at hm;rw[AJ.l0];simp only[tN,hgd,hw];rw[iP (by simpa using hj),iP ⟨by omega,by omega⟩,CJ];by_cases h:c.1<0
     ·have hr:=ZG (l:=rest);rw[iP (by simpa using h),bN hs rest (j+1) K _ hd' (by omega) (by simp) (by omega),oB,tq,oB,iP h];simp only;rw[ih (rest.drop (B3 rest)) (j+1+B3 rest) k _ (by simp;omega) (by rw[<-lq,hd']) (by omega) (by simp;omega) (by omega)];simp only[aA,jD]
     ·have hr:=ZF (l:=rest) (a:=c.1);have hp:=bM (K:=K) hs hc rest (j+1) K hd' (by omega) (by omega) (by omega);rw[ky,hgd] at hp;have hw1:ba .i64 (((j+1+BB c.1 rest:Nat):Int)-1)=((j+BB c.1 rest:Nat):Int):=by rw[w64];omega
      have hlast:∀(r:List Ce) (a:Int) (i:Nat),l.drop i=r->1<=i->(l.getD (i-1) (0,0)).1=a->(l.getD (i-1+BB a r) (0,0)).1=a+BB a r:=by
       intro r;induction r with
       | nil =>
         intro a i _ h1 e;show (l.getD (i-1+0) (0,0)).1=a+((0:Nat):Int);rw[ee,e];omega
       | cons d r ihr =>
         intro a i hd1 h1 e;obtain⟨hi,hg1,hd2⟩:=A0 hd1 zP;rw[BB];split
         ·rename_i hq;have:=ihr d.1 (i+1) hd2 (by omega) (by rw[ky,hg1]);rw[show i-1+(BB d.1 r+1)=i+1-1+BB d.1 r by omega,this];omega
         ·show (l.getD (i-1+0) (0,0)).1=a+((0:Nat):Int);rw[ee,e];omega
      have hl2:=hlast rest c.1 (j+1) hd' (by omega) (by rw[ky,hgd]);rw[ky] at hl2;have hcm:c∈l:=by rw[<-hgd];simp[bb,hj]
      have hcb:=hc c hcm;rw[iN (by simpa using h),hp,oB];simp only[hw1,tN,hl2];rw[iP ⟨by omega,by omega,by simp;omega⟩,oB,iN h];simp only;rw[ih (rest.drop (BB c.1 rest)) (j+1+BB c.1 rest) k _ (by simp;omega) (by rw[<-lq,hd']) (by omega) (by simp;omega) (by omega),w64 (n:=c.1+(BB c.1 rest:Int)+1)];simp only[aA,jD]
theorem bO {K:Nat} {x:List El} (hs:x.length<=1000000) (ht:∀e∈x,e.2.2.size+10<=K/\e.2.2.size<=1000000000000):∀(rest:List El) (j k:Nat),x.drop j=rest->rest.length<k->
 AJ.l3 K x k (j:Int)=some (if JX rest=true then .inr () else .inl (0,[],12))
 | [],j,k,hd,hk => by obtain⟨k,rfl⟩:∃m,k=m+1:=⟨k-1,by simp at hk;omega⟩;have:=A1 hd;rw[AJ.l3,tt];rfl
 | c :: rest,j,k,hd,hk => by
   obtain⟨k,rfl⟩:∃m,k=m+1:=⟨k-1,by simp at hk;omega⟩;obtain⟨hj,hgd,hd'⟩:=A0 hd el0;have hk':rest.length<k:=by simp at hk;omega
   have hw:ba .i64 ((j:Int)+1)=((j+1:Nat):Int):=by rw[w64];omega
   have hc:c∈x:=by rw[<-hgd];simp[bb,hj]
   have hcs:=ht c hc;rw[AJ.l3];simp only[tN,hgd,hw];rw[iP (by simpa using hj),JJ (by omega) (by omega),oB,iP ⟨by omega,by omega⟩,bO hs ht rest (j+1) k hd' hk',show JX (c::rest)=(A4 c.2.2&&JX rest) from rfl];cases A4 c.2.2<;>simp
theorem QH {base:Int}:∀{r:List El} {to:Int} {pre:Option Bool},isS base to pre r->JX r=true
 |[],_,_,_=>rfl
 | x :: r,to,pre,h => by
   have hv0:∀t:ByteArray,t.size=0->A4 t=true:=λt h=>by unfold A4;rw[h];rfl
   rw[isS] at h;rw[show JX (x::r)=(A4 x.2.2&&JX r) from rfl];split at h;·rename_i hz;rw[hv0 _ hz,QH h.2];rfl
   ·rw[h.1.2.2.2,QH h.2];rfl
theorem qZ {base:Int} {pre:Option Bool} {r:List El} {b0:Int} (h0:0<=to) (h:isS b0 to pre r) (hb:b0<=1000000) (hK:100000<=K) (hl:(cells r).length<=20000):AJ K base (cells r)=some (if r.length>60 then (0,[],70) else (base,r,0)):=by
 unfold AJ;have hin:∀{r:List El} {to:Int} {pre:Option Bool},0<=to->isS b0 to pre r->(∀c∈cells r,c.1<=1000000/\-1<=c.1)/\r.length<=(cells r).length/\∀e∈r,e.2.2.size<=(cells r).length:=by
  intro r;induction r with
  |nil=>intro to pre _ _;exact⟨by simp[cells],by simp[cells],by simp⟩
  | cons x r ih =>
    intro to pre h0 h;rw[isS] at h;have key:∀(m:Nat) (f:Int) (c:Ce),c∈AB f m->f<=c.1/\c.1<f+m:=by
     intro m;induction m with
     |zero=>intro f c h;simp[AB] at h
     | succ m ih =>
       intro f c h;rw[AB] at h;rcases bv.1 h with rfl|h;·simp only;omega
       ·have:=ih (f+1) c h;omega
    split at h
    ·rename_i hz;have q1:=h.1.1;have q2:=h.1.2.2.1;have q3:=h.1.2.2.2;obtain⟨e1,e2,e3⟩:=ih (to:=x.2.1) (pre:=some true) (by omega) h.2;have hlc:(AB x.1 (x.2.1-x.1).toNat).length=(x.2.1-x.1).toNat:=ET;refine⟨λc hc=>?_,?_,λe he=>?_⟩
     ·rw[cells,FE hz,cd] at hc;rcases cf.1 hc with hc|hc;·have:=key _ _ c hc;omega
      ·exact e1 c hc
     ·simp only[cells,FE hz,cd,lA,lC];omega
     ·simp only[cells,FE hz,cd,lA];rcases bv.1 he with rfl|he;·omega
      ·have:=e3 e he;omega
    ·rename_i hz;obtain⟨e1,e2,e3⟩:=ih (to:=to) (pre:=some false) h0 h.2;have hcc:AB x.1 (x.2.1-x.1).toNat=[]:=by rw[h.1.1,h.1.2.1];rfl
     have hlt:=FO (t:=x.2.2);refine⟨λc hc=>?_,?_,λe he=>?_⟩
     ·rw[cells,hcc,cm] at hc;rcases cf.1 hc with hc|hc
      ·obtain⟨b,_,rfl⟩:=cj.1 hc;simp
      ·exact e1 c hc
     ·simp only[cells,hcc,cm,lA,lC];omega
     ·simp only[cells,hcc,cm,lA];rcases bv.1 he with rfl|he;·omega
      ·have:=e3 e he;omega
 obtain⟨e1,e2,e3⟩:=hin h0 h;have ht:=qY (K:=K) (l:=cells r) (by omega) (by omega) e1 (cells r).length (cells r) 0 K [] (bp _) rfl (by omega) (by simp) (by omega);rw[ix,cd,T4 h0 h (bp _)] at ht;have hv:=bO (K:=K) (x:=r) (by omega) (λe he=>by have:=e3 e he;omega) r 0 K rfl (by omega);rw[ix,QH h,iP rfl] at hv;rw[ht,oB,hv,oB];simp only[gq];by_cases h6:r.length>60;·rw[tq,iP h6]
 ·rw[tt,iN h6]
def mvC (p:Int):Int->Int->List Ce->Int
 |_,acc,[]=>acc
 |i,acc,c::r=>mvC p (i+1) (if 0<=c.1/\c.1<p then i+1 else acc) r
theorem R4 {p:Int} {R:List Ce} {acc:Int}:∀{l:List Int} {i:Int},mvC p i acc (l.map (λb=>((-1:Int),b))++R)=mvC p (i+l.length) acc R
 |[],i=>by simp
 | b :: l,i => by rw[dj,db,mvC,uf,R4];congr 1;simp only[lC];omega
theorem R3 {p:Int} {R:List Ce}:∀{m:Nat} {f i acc:Int},0<=f->mvC p i acc (AB f m++R)=mvC p (i+m) (if f<p/\1<=m then i+min (m:Int) (p-f) else acc) R
 |0,f,i,acc,h=>by simp[AB]
 | m+1,f,i,acc,h => by
   rw[AB,db,mvC,R3 (by omega),show i+1+(m:Int)=i+((m+1:Nat):Int) by omega];congr 1;by_cases h1:f<p
   ·rw[iP (show f<p/\1<=m+1 from ⟨h1,by omega⟩),iP (show 0<=((f,(0:Int)):Ce).1/\((f,(0:Int)):Ce).1<p from ⟨h,h1⟩)];by_cases h2:f+1<p/\1<=m;·rw[iP h2];omega
    ·rw[iN h2];omega
   ·rw[iN (show ¬(f<p/\1<=m+1) from λh'=>h1 h'.1),iN (show ¬(0<=((f,(0:Int)):Ce).1/\((f,(0:Int)):Ce).1<p) from λh'=>h1 h'.2),tz]
theorem NL {base p:Int}:∀{l:List El} {to:Int} {pre:Option Bool} {i acc:Int},0<=to->isS base to pre l->p<=to->mvC p i acc (cells l)=acc
 |[],to,pre,i,acc,h0,h,hp=>rfl
 | x :: r,to,pre,i,acc,h0,h,hp => by
   rw[isS] at h;rw[cells];split at h
   ·rename_i hz;rw[FE hz,cd,R3 (by have:=h.1.1;omega),iN (by have:=h.1.1;omega)];exact NL (by have:=h.1.1;have:=h.1.2.2.1;omega) h.2 (by have:=h.1.1;have:=h.1.2.2.1;omega)
   ·have hcc:AB x.1 (x.2.1-x.1).toNat=[]:=by rw[h.1.1,h.1.2.1];rfl
    rw[hcc,cm,show B7 x.2.2=(txt x.2.2).map (λb=>((-1:Int),b)) from rfl,R4];exact NL h0 h.2 hp
theorem ZH {A R:List Ce} (h:∀c∈A,c.1<0):B3 (A++R)=A.length+B3 R:=by
 induction A with
 |nil=>simp
 | cons c A ih =>
   rw[db,B3,iP (h c (by simp)),ih λd hd=>h d (by simp[hd])];simp only[lC];omega
theorem ZI {c:Ce} {R:List Ce} (h:0<=c.1):B3 (c::R)=0:=by rw[B3,tz]
theorem dF:∀c∈B7 t,c.1<0:=by intro c hc;obtain⟨b,_,rfl⟩:=cj.1 hc;simp
theorem R6 {base p:Int} (hp:0<=p):∀{l:List El} {to:Int} {pre:Option Bool} {A B:List Ce} {n w:Nat},0<=to->isS base to pre l->A.length=n->B.length=w->(∀c∈B,c.1<0)->
 ∃n' w':Nat,mvE p n w l=((n':Int),(w':Int))/\mvC p (n+w:Nat) n (cells l)=n'/\B3 ((A++(B++cells l)).drop n')=w'/\n'<=n+w+(cells l).length
 | [],to,pre,A,B,n,w,h0,h,hA,hB,hB2 => by refine⟨n,w,rfl,rfl,?_,by omega⟩;rw[<-hA,ou];simp only[cells,cm];have:=ZH (R:=[]) hB2;rw[cm] at this;rw[this,hB];rfl
 | x :: r,to,pre,A,B,n,w,h0,h,hA,hB,hB2 => by
   rw[isS] at h;rw[mvE,cells];by_cases hz:x.2.2.size=0
   ·rw[iP hz] at h;rw[iP hz,FE hz,cd];have q1:=h.1.1;have q2:=h.1.2.2.1;obtain⟨m,hm⟩:∃m:Nat,(x.2.1-x.1).toNat=m:=⟨_,rfl⟩;rw[hm,R3 (by omega)];by_cases c1:x.1>=p
    ·rw[iP c1];refine⟨n,w,rfl,?_,?_,by omega⟩;·rw[tz,NL (by omega) h.2 (by omega)]
     ·obtain⟨m,rfl⟩:=ug (k:=m);rw[<-hA,ou,ZH hB2,AB,db,ZI (by simp only;omega),hB];omega
    ·rw[iN c1];by_cases c2:x.2.1>p
     ·rw[iP c2];refine⟨n+w+(p-x.1).toNat,0,?_,?_,?_,by simp only[lA,ET];omega⟩
      ·congr 1;omega
      ·rw[iP ⟨by omega,by omega⟩,NL (by omega) h.2 (by omega)];omega
      ·obtain⟨k,hk⟩:∃k:Nat,(p-x.1).toNat=k:=⟨_,rfl⟩;obtain⟨j,hj⟩:∃j:Nat,m=k+(j+1):=⟨m-k-1,by omega⟩;rw[hk,hj,P9,<-hA,<-hB];have e:A++(B++(AB x.1 k++AB (x.1+k) (j+1)++cells r))=(A++B++AB x.1 k)++(AB (x.1+k) (j+1)++cells r):=by simp only[aA]
       have e2:A.length+B.length+k=(A++B++AB x.1 k).length:=by simp[ET];omega
       rw[e,e2,ou,AB,db,ZI (by simp only;omega)]
     ·rw[iN c2];have hmin:min x.2.1 p=x.2.1:=by omega
      obtain⟨n',w',e1,e2,e3,e4⟩:=R6 hp (l:=r) (to:=x.2.1) (pre:=some true) (A:=A++B++AB x.1 m) (B:=[]) (n:=n+w+m) (w:=0) (by omega) h.2 (by simp[ET,hA,hB];omega) rfl (by simp);refine⟨n',w',?_,?_,?_,by simp only[lA,ET];omega⟩
      ·rw[hmin,show ((n:Int)+((w:Int)+x.2.1-x.1))=((n+w+m:Nat):Int) by omega];exact e1
      ·rw[iP ⟨by omega,by omega⟩];rw[<-e2];congr 1<;>omega
      ·rw[<-e3];simp only[aA,cd]
   ·rw[iN hz] at h;have hcc:AB x.1 (x.2.1-x.1).toNat=[]:=by rw[h.1.1,h.1.2.1];rfl
    rw[iN hz,hcc,cm];obtain⟨n',w',e1,e2,e3,e4⟩:=R6 hp (l:=r) (to:=to) (pre:=some false) (A:=A) (B:=B++B7 x.2.2) (n:=n) (w:=w+x.2.2.size) h0 h.2 hA (by simp[hB,FO]) (by
     intro c hc;rcases cf.1 hc with hc|hc;·exact hB2 c hc
     ·exact dF c hc)
    refine⟨n',w',?_,?_,?_,by simp only[lA,FO];omega⟩;·rw[<-e1];congr 1
    ·rw[show B7 x.2.2=(txt x.2.2).map (λb=>((-1:Int),b)) from rfl,R4,<-e2,DJ];congr 1;omega
    ·rw[<-e3];simp only[aA]
theorem OF {K:Nat} {l:List Ce} {a base p:Int} (hp:mx2 0 (mn2 a base)=p) (hs:l.length<=1000000):∀(rest:List Ce) (j k:Nat) (n:Int),l.drop j=rest->rest.length<k->B1.l0 K l a base k n (j:Int)=some (mvC p j n rest)
 | [],j,k,n,hd,hk => by obtain⟨k,rfl⟩:∃m,k=m+1:=⟨k-1,by simp at hk;omega⟩;have:=A1 hd;rw[B1.l0,tt];rfl
 | c :: rest,j,k,n,hd,hk => by
   obtain⟨k,rfl⟩:∃m,k=m+1:=⟨k-1,by simp at hk;omega⟩;obtain⟨hj,hgd,hd'⟩:=A0 hd zP;have hk':rest.length<k:=by simp at hk;omega
   have hw:ba .i64 ((j:Int)+1)=((j+1:Nat):Int):=by rw[w64];omega
   have hin:0<=(j:Int)/\(j:Int)<((l.length:Nat):Int):=⟨by omega,by omega⟩;rw[B1.l0];simp only[tN,hgd,hw,hp,iP hin];rw[iP (by simpa using hj),mvC,show (j:Int)+1=((j+1:Nat):Int) by omega];by_cases h1:c.1>=0
   ·rw[iP (by simpa using h1),oB];by_cases h2:c.1<p
    ·rw[iP (by simpa using h2),iP ⟨h1,h2⟩];exact OF hp hs rest (j+1) k _ hd' hk'
    ·rw[iN (by simpa using h2),iN (λh=>h2 h.2)];exact OF hp hs rest (j+1) k _ hd' hk'
   ·rw[iN (by simpa using h1),oB,uf,iN (λh=>h1 h.1)];exact OF hp hs rest (j+1) k _ hd' hk'
theorem Z5 {K:Nat} {l:List Ce} (hs:l.length<=1000000):∀(rest:List Ce) (j k:Nat),l.drop j=rest->rest.length<k->j<=l.length->B1.l1 K l k (j:Int)=some ((j+B3 rest:Nat):Int)
 | [],j,k,hd,hk,hj => by obtain⟨k,rfl⟩:∃m,k=m+1:=⟨k-1,by simp at hk;omega⟩;have:=A1 hd;rw[B1.l1,tt,oB,uf];rfl
 | c :: rest,j,k,hd,hk,hjl => by
   obtain⟨k,rfl⟩:∃m,k=m+1:=⟨k-1,by simp at hk;omega⟩;obtain⟨hj,hgd,hd'⟩:=A0 hd zP;have hk':rest.length<k:=by simp at hk;omega
   have hw:ba .i64 ((j:Int)+1)=((j+1:Nat):Int):=by rw[w64];omega
   rw[B1.l1];simp only[tN,hgd,hw];rw[iP (by simpa using hj),iP ⟨by omega,by omega⟩,oB,B3];by_cases h:c.1<0;·rw[iP (by simpa using h),iP h,Z5 hs rest (j+1) k hd' hk' (by omega),show j+1+B3 rest=j+(B3 rest+1) by omega]
   ·rw[iN (by simpa using h),iN h];rfl
theorem OE {base:Int} {after:Bool} (hK:100000<=K):B1 K base d a after=some (mv base d a after):=by
 unfold B1 mv;rw[JG (by omega),oB];by_cases h:isD base d=true
 ·obtain⟨h1,h2,h3,h4,h5⟩:=H2 h;have hS:=Q8 h;have hcl:=PA h4;have hn:=GM h4;obtain⟨n',w',e1,e2,e3,e4⟩:=R6 (base:=base) (p:=min (max a 0) base) (by omega) (l:=d) (to:=0) (pre:=none) (A:=[]) (B:=[]) (n:=0) (w:=0) (by omega) hS rfl rfl (by simp);simp only[cd,ew] at e3 e4;have em:mvE (min (max a 0) base) 0 0 d=((n':Int),(w':Int)):=e1;have l1:=OF (K:=K) (l:=cells d) (a:=a) (base:=base) (p:=min (max a 0) base) (by rw[I1,IZ];omega) (by omega) (cells d) 0 K 0 rfl (by omega);have e2':mvC (min (max a 0) base) ((0:Nat):Int) 0 (cells d)=n':=e2;rw[e2',ix] at l1;have l2:=Z5 (K:=K) (l:=cells d) (by omega) ((cells d).drop n') n' K rfl (by simp;omega) (by omega);rw[e3] at l2;rw[h,uf,iP rfl,U4 hK h,oB,l1,oB,em];cases after with
  |false=>simp
  | true =>
    rw[uf,l2,iP rfl];congr 1
 ·rw[iP (by simpa using h),iN h]
theorem o6 {base:Int} (hK:100000<=K):L7 K base d a b=some (mv base d a true,max (mv base d a true) (mv base d b false)):=by
 unfold L7;rw[JG (by omega),oB];by_cases h:isD base d=true;·rw[h,uf,OE hK,oB,OE hK,oB,I1]
 ·have hm:∀a b,mv base d a b=0:=by intro a b;unfold mv;rw[iN h]
  rw[iP (by simpa using h),hm,hm];rfl
def nrm:Option El->List El->Prop
 |_,[]=>True
 |pre,x::r=>((x.2.2.size=0/\0<=x.1/\x.1<x.2.1/\ ∀p,pre=some p->p.2.2.size=0->p.2.1≠x.1)\/(x.2.2.size≠0/\x.1=0/\x.2.1=0/\ ∀p,pre=some p->p.2.2.size=0))/\nrm (some x) r
theorem QE {base:Int}:∀{l:List El} {to:Int} {pre:Option Bool} {q:Option El},0<=to->isS base to pre l->pre=q.map (λp=>decide (p.2.2.size=0))->(∀p,q=some p->p.2.2.size=0->p.2.1=to)->nrm q l
 |[],_,_,_,_,_,_,_=>trivial
 | x :: r,to,pre,q,h0,h,hq,ht => by
   rw[isS] at h;split at h
   ·rename_i hz;refine⟨.inl ⟨hz,by have:=h.1.1;omega,h.1.2.2.1,λp hp hpz=>?_⟩,QE (by have:=h.1.1;have:=h.1.2.2.1;omega) h.2 (by rw[fy,decide_eq_true hz]) (λp hp hpz=>by cases hp;rfl)⟩;have h3:=ht p hp hpz;rcases h.1.2.1 with h4|h4;·omega
    ·subst hp;exact absurd (by rw[hq,fy,decide_eq_true hpz]) h4
   ·rename_i hz;refine⟨.inr ⟨hz,h.1.1,h.1.2.1,λp hp=>?_⟩,QE h0 h.2 (by rw[fy,decide_eq_false hz]) (λp hp hpz=>by cases hp;exact absurd hpz hz)⟩;have h4:=h.1.2.2.1;subst hp;by_cases hpz:p.2.2.size=0;·exact hpz
    ·exact absurd (by rw[hq,fy,decide_eq_false hpz]) h4
theorem WV:∀{r:List El} {pre:Option El},nrm pre r->r.length<=(cells r).length/\(∀e∈r,e.2.2.size<=(cells r).length)/\A6 r<=(cells r).length/\AD r+A6 r=(cells r).length/\0<=AD r
 |[],_,_=>⟨bp _,by simp,by simp[A6],by simp[AD,A6,cells],by simp[AD]⟩
 | x :: r,pre,h => by
   obtain⟨h1,h2,h3,h4,h5⟩:=WV h.2;have e1:=FO (t:=x.2.2);have e2:=ET (m:=(x.2.1-x.1).toNat) (f:=x.1);have hl:(cells (x::r)).length=x.2.2.size+(x.2.1-x.1).toNat+(cells r).length:=by rw[cells,lA,lA,e1,e2]
   have h0:x.1<=x.2.1/\(x.2.2.size=0->x.1<x.2.1):=by
    rcases h.1 with h1|h1;·exact⟨by omega,λ_=>h1.2.2.1⟩
    ·exact⟨by omega,λhz=>absurd hz h1.1⟩
   refine⟨?_,λe he=>?_,?_,?_,?_⟩
   ·rw[lC,hl];by_cases hz:x.2.2.size=0;·have:=h0.2 hz;omega
    ·omega
   ·rw[hl];rcases bv.1 he with rfl|he;·omega
    ·have:=h2 e he;omega
   ·rw[A6,hl];omega
   ·rw[AD,A6,hl];omega
   ·rw[AD];omega
theorem GI {x:Rg}:CG K x.1 x.2=some (loR x,hiR x):=by unfold CG;rw[GC,H5];rfl
theorem YL {K:Nat} {x:Rg}:∀(n:Nat) (S S2:List Rg) (k:Nat),S.length=n->n<k->S.length+S2.length<=100000->
 ∃S1 S3,AF.l1 K (S++S2) (loR x,hiR x) k (S.length:Int)=some (S1.length:Int)/\S=S1++S3/\D6 x S=S1++x::S3
 | 0,S,S2,k,hn,hk,hl => by obtain⟨k,rfl⟩:=ug (k:=k);have:S=[]:=bx hn;subst this;rw[AF.l1,uf,oB,uf];exact⟨[],[],rfl,rfl,rfl⟩
 | n+1,S,S2,k,hn,hk,hl => by
   obtain⟨k,rfl⟩:=ug (k:=k);obtain⟨S',z,rfl⟩:=EO (l:=S) (by intro e;rw[e] at hn;simp at hn);rw[lA,ck] at hn hl;have eD:(S'++[z])++S2=S'++z::S2:=by simp
   have g2:(S'++z::S2).getD S'.length rg0=z:=FU rfl;have hw:ba .i64 (((S'.length+1:Nat):Int)-1)=(S'.length:Int):=by rw[w64];omega
   have hDl:(S'++z::S2).length=S'.length+1+S2.length:=by simp only[lA,lC];omega
   rw[lA,ck,AF.l1,eD];have hc:(0:Int)<=(S'.length:Int)/\(S'.length:Int)<(((S'++z::S2).length:Nat):Int):=by omega
   simp only[hw,tN,g2,GI,oB,iP hc];rw[iP (by rw[dE];omega)];have e:(if decide (loR z>loR x)=true then some true else if (loR z==loR x)=true then some (decide (hiR z>hiR x)) else some false)=some (ltR x z):=by
    unfold ltR;by_cases h1:loR z>loR x;·rw[iP (by simpa using h1)];congr 1;symm;rw[dE];omega
    ·rw[iN (by simpa using h1)];by_cases h2:loR z=loR x;·rw[iP (by simpa using h2)];congr 1;rw[decide_eq_decide];omega
     ·rw[iN (by simpa using h2)];congr 1;symm;rw[decide_eq_false_iff_not];omega
   rw[e,oB,N4];cases hlt:ltR x z with
   | true =>
     rw[iP rfl,iP rfl];obtain⟨S1,S3,e1,e2,e3⟩:=YL (K:=K) (x:=x) n S' (z::S2) k (by omega) (by omega) (by simp only[lC];omega);exact⟨S1,S3++[z],e1,by rw[e2];simp,by rw[e3];simp⟩
   | false =>
     rw[uf,uf];exact⟨S'++[z],[],by simp,by simp,by simp⟩
theorem Z7 {K:Nat} {l:List Rg} (hK:100000<=K) (hl:l.length<=10000):∀(rest:List Rg) (j k:Nat) (S:List Rg),l.drop j=rest->rest.length<k->S.length<=j->
 AF.l0 K l k S (j:Int)=some (AO rest S)
 | [],j,k,S,hd,hk,hS => by obtain⟨k,rfl⟩:=ug (k:=k);have:=A1 hd;rw[AF.l0,tt];rfl
 | x :: rest,j,k,S,hd,hk,hS => by
   obtain⟨k,rfl⟩:=ug (k:=k);obtain⟨hj,hx,hd'⟩:=A0 hd rg0;rw[lC] at hk;have hw:ba .i64 ((j:Int)+1)=((j+1:Nat):Int):=by rw[w64];omega
   obtain⟨S1,S3,e1,e2,e3⟩:=YL (K:=K) (x:=x) S.length S [] K rfl (by omega) (by simp;omega);rw[cm] at e1;have hl13:S.length=S1.length+S3.length:=by rw[e2,lA]
   have t1:cu (S1.length-0) (List.drop 0 S)=S1:=by rw[e2,ic,nc,wi rfl]
   have t2:cu (S.length-S1.length) (List.drop S1.length S)=S3:=by rw[e2,wj rfl,fj (by simp)]
   rw[AF.l0,tq];simp only[tN,hx,hw,GI,oB];rw[tw,e1,oB];simp only[tN,t1,t2];rw[iP (by simp only[ck];omega),iP (by simp only[lA,ck];omega),oB,Z7 hK hl rest (j+1) k _ hd' (by omega) (by simp only[lA,ck];omega)];have:S1++[(x.1,x.2)]++S3=D6 x S:=by rw[e3];simp
   rw[this];rfl
theorem S5 {K:Nat} {l:List Rg} (hl:l.length<=10000):∀(rest:List Rg) (j k:Nat) (O:List Rg) (c:Rg),l.drop j=rest->rest.length<k->O.length+1<=j->
 AF.l2 K l k (O++[c]) (j:Int)=some (O++B8 c rest)
 | [],j,k,O,c,hd,hk,hO => by obtain⟨k,rfl⟩:=ug (k:=k);have:=A1 hd;rw[AF.l2,tt];rfl
 | x :: rest,j,k,O,c,hd,hk,hO => by
   obtain⟨k,rfl⟩:=ug (k:=k);obtain⟨hj,hx,hd'⟩:=A0 hd rg0;rw[lC] at hk;have hw:ba .i64 ((j:Int)+1)=((j+1:Nat):Int):=by rw[w64];omega
   have hol:(O++[c]).length=O.length+1:=by simp
   have hw2:ba .i64 ((((O++[c]).length:Nat):Int)-1)=(O.length:Int):=by rw[w64];omega
   have g:(O++[c]).getD O.length rg0=c:=FU rfl;have hc:(0:Int)<=(O.length:Int)/\(O.length:Int)<(((O++[c]).length:Nat):Int):=by omega
   have st:∀v:Rg,(O++[c]).set O.length v=O++[v]:=λv=>HF rfl;rw[AF.l2,tq];simp only[hw2,tN,hx,hw,GI,oB,g,iP hc];rw[tw,iN (by rw[beq_iff_eq];omega),oB];simp only[dE];rw[B8];by_cases h:loR x>hiR c
   ·rw[iP h,iP h,iP (by simp only[ck];omega)];have e:=S5 (K:=K) hl rest (j+1) k (O++[c]) x hd' (by omega) (by omega);rw[e];simp
   ·rw[iN h,iN h];have e:=S5 (K:=K) hl rest (j+1) k O (mgR c x) hd' (by omega) (by omega);rw[<-e];unfold mgR;simp only[H5,st];split<;>rfl
theorem YP {l:List Rg} (hK:100000<=K) (hl:l.length<=1000):AF K l=some (jnR (AO l [])):=by
 unfold AF;have e:=Z7 (K:=K) hK (by omega) l 0 K [] rfl (by omega) (by simp);rw[show ((0:Nat):Int)=0 from rfl] at e;rw[e,oB];have hlen:(AO l []).length=l.length:=by rw[ON.length_eq,cm]
 obtain⟨k,rfl⟩:∃m,K=m+1:=⟨K-1,by omega⟩;cases hS:AO l [] with
 |nil=>rw[AF.l2,uf];rfl
 | cons x S =>
   rw[hS,lC] at hlen;have e2:=S5 (K:=k+1) (l:=x::S) (by rw[lC];omega) S 1 k [] x rfl (by omega) (by simp);rw[cd,cd] at e2;rw[AF.l2,iP (by simp)];simp only[show bc 0=0 from rfl,lv,GI,oB];rw[iP (by simp),iP (by simp),oB,iP rfl,iP (by simp),show ba .i64 ((0:Int)+1)=((1:Nat):Int) by decide];exact e2
theorem YQ {K:Nat} {l:List Rg} {s:ByteArray} (hl:l.length<=1000000):∀(rest:List Rg) (j k:Nat),l.drop j=rest->rest.length<k->
 BS.l0 K l s k (j:Int)=some (if rest.all (inR s.size)=true then .inr () else .inl ([],10))
 | [],j,k,hd,hk => by obtain⟨k,rfl⟩:=ug (k:=k);have:=A1 hd;rw[BS.l0,tt];rfl
 | x :: rest,j,k,hd,hk => by
   obtain⟨k,rfl⟩:=ug (k:=k);obtain⟨hj,hx,hd'⟩:=A0 hd rg0;rw[lC] at hk;have hw:ba .i64 ((j:Int)+1)=((j+1:Nat):Int):=by rw[w64];omega
   rw[BS.l0,tq];simp only[tN,hx,hw,GI,oB];rw[tw,YQ hl rest (j+1) k hd' (by omega),kj];unfold inR;by_cases h1:loR x<0;·rw[iP (by simpa using h1),oB,iP rfl,decide_eq_false (show ¬(0<=loR x/\hiR x<=s.size) by omega),ec];rfl
   ·rw[iN (by simpa using h1)];by_cases h2:hiR x>s.size;·rw[decide_eq_true h2,oB,iP rfl,decide_eq_false (show ¬(0<=loR x/\hiR x<=s.size) by omega),ec];rfl
    ·rw[decide_eq_false h2,oB,uf,decide_eq_true (show (0<=loR x/\hiR x<=s.size) by omega),dq]
theorem YR {K:Nat} {l:List Rg} {s:ByteArray} (hK:s.size+10<=K) (hs:s.size<=1000000) (hl:l.length<=1000000):∀(rest:List Rg) (j k:Nat),l.drop j=rest->rest.length<k->
 BS.l1 K l s k (j:Int)=some (if rest.all (edR s)=true then .inr () else .inl ([],11))
 | [],j,k,hd,hk => by obtain⟨k,rfl⟩:=ug (k:=k);have:=A1 hd;rw[BS.l1,tt];rfl
 | x :: rest,j,k,hd,hk => by
   obtain⟨k,rfl⟩:=ug (k:=k);obtain⟨hj,hx,hd'⟩:=A0 hd rg0;rw[lC] at hk;have hw:ba .i64 ((j:Int)+1)=((j+1:Nat):Int):=by rw[w64];omega
   have hb:(0:Int)<=(j:Int)/\(j:Int)<((l.length:Nat):Int):=by omega
   rw[BS.l1,tq];simp only[tN,hx,hw,GE hK hs,oB,iP hb];rw[YR hK hs hl rest (j+1) k hd' (by omega),kj];unfold edR;cases isE s x.1 with
   |false=>rfl
   | true =>
     rw[uf,oB,dq];cases isE s x.2 with
     |false=>rfl
     |true=>rw[uf,dq]
theorem o9 {l:List Rg} (hK:100000<=K) (hs:s.size<=50000) (hl:l.length<=1000):BS K l s=some (mkR s l):=by
 unfold BS mkR;have e1:=YQ (K:=K) (l:=l) (s:=s) (by omega) l 0 K rfl (by omega);have e2:=YR (K:=K) (l:=l) (s:=s) (by omega) (by omega) (by omega) l 0 K rfl (by omega);rw[show ((0:Nat):Int)=0 from rfl] at e1 e2;by_cases h:l.length=0;·rw[iP (by rw[beq_iff_eq];omega),iP h]
 ·rw[iN (by rw[beq_iff_eq];omega),iN h];by_cases h2:l.length>8;·rw[iP (by rw[dE];omega),iP h2]
  ·rw[iN (by rw[dE];omega),iN h2,e1,oB];cases h3:l.all (inR s.size) with
   |false=>rfl
   | true =>
     rw[iP rfl,gq,e2,oB,iN (show ¬(true=false) by simp)];cases h4:l.all (edR s) with
     |false=>rfl
     |true=>rw[iP rfl,gq,YP hK (by omega),oB,iN (show ¬(true=false) by simp)]
theorem YS {K:Nat} {l:List Rg} {base:Int} {d:List El} (hK:100000<=K) (hl:l.length<=10000):∀(rest:List Rg) (j k:Nat) (out:List Rg),l.drop j=rest->rest.length<k->out.length<=j->
 BT.l1 K l base d k out (j:Int)=some (out++rest.map (goR base d))
 | [],j,k,out,hd,hk,ho => by obtain⟨k,rfl⟩:=ug (k:=k);have:=A1 hd;rw[BT.l1,tt];simp
 | x :: rest,j,k,out,hd,hk,ho => by
   obtain⟨k,rfl⟩:=ug (k:=k);obtain⟨hj,hx,hd'⟩:=A0 hd rg0;rw[lC] at hk;have hw:ba .i64 ((j:Int)+1)=((j+1:Nat):Int):=by rw[w64];omega
   rw[BT.l1,tq];simp only[tN,hx,hw,OE hK,oB];rw[iP (by simp only[ck];omega),YS hK hl rest (j+1) k _ hd' (by omega) (by simp;omega),dj];simp[goR]
theorem YT {K:Nat} {l:List Rg} {base:Int} (hl:l.length<=1000000):∀(rest:List Rg) (j k:Nat),l.drop j=rest->rest.length<k->
 BT.l0 K l base k (j:Int)=some (if rest.all (inR base)=true then .inr () else .inl ([],12))
 | [],j,k,hd,hk => by obtain⟨k,rfl⟩:=ug (k:=k);have:=A1 hd;rw[BT.l0,tt];rfl
 | x :: rest,j,k,hd,hk => by
   obtain⟨k,rfl⟩:=ug (k:=k);obtain⟨hj,hx,hd'⟩:=A0 hd rg0;rw[lC] at hk;have hw:ba .i64 ((j:Int)+1)=((j+1:Nat):Int):=by rw[w64];omega
   rw[BT.l0,tq];simp only[tN,hx,hw,GI,oB];rw[tw,YT hl rest (j+1) k hd' (by omega),kj];unfold inR;by_cases h1:loR x<0;·rw[iP (by simpa using h1),oB,iP rfl,decide_eq_false (show ¬(0<=loR x/\hiR x<=base) by omega),ec];rfl
   ·rw[iN (by simpa using h1)];by_cases h2:hiR x>base;·rw[decide_eq_true h2,oB,iP rfl,decide_eq_false (show ¬(0<=loR x/\hiR x<=base) by omega),ec];rfl
    ·rw[decide_eq_false h2,oB,uf,decide_eq_true (show (0<=loR x/\hiR x<=base) by omega),dq]
theorem oA {l:List Rg} {base:Int} (hK:100000<=K) (hl:l.length<=1000):BT K l base d=some (mvR base d l):=by
 unfold BT mvR;have e1:=YS (K:=K) (l:=l) (base:=base) (d:=d) (by omega) (by omega) l 0 K [] rfl (by omega) (by simp);have e2:=YT (K:=K) (l:=l) (base:=base) (by omega) l 0 K rfl (by omega);rw[show ((0:Nat):Int)=0 from rfl] at e1 e2;rw[cd] at e1;rw[JG (by omega),oB];cases h1:isD base d with
 |false=>rfl
 | true =>
   rw[uf,oB];by_cases h2:l.length=0;·rw[iP (by rw[beq_iff_eq];omega),iP (.inr (.inl h2))]
   ·rw[iN (by rw[beq_iff_eq];omega),e2,oB];cases h3:l.all (inR base) with
    | false =>
      rw[iN (show ¬(false=true) by simp),Sum.elim_inl,iP (.inr (.inr rfl))]
    | true =>
      rw[iP rfl,gq,iN (show ¬(true=false\/l.length=0\/true=false) from λh=>by rcases h with h|h|h;cases h;exact h2 h;cases h)];by_cases h4:l.length>8;·rw[iP (by rw[dE];omega),iP h4]
      ·rw[iN (by rw[dE];omega),iN h4,e1,oB,YP hK (by rw[du];omega),oB]
theorem YN {K:Nat} {l:List Rg} {s:ByteArray} (hK:s.size+10<=K) (hs:s.size<=1000000) (hl:l.length<=100000):∀(rest:List Rg) (j k:Nat) (p:Rg),l.drop j=rest->rest.length<k->0<j->l.getD (j-1) rg0=p->
 DU.l0 K l s k (j:Int)=some (rest.all (edR s)&&chR p rest)
 | [],j,k,p,hd,hk,h0,hp => by obtain⟨k,rfl⟩:=ug (k:=k);have:=A1 hd;rw[DU.l0,tt];rfl
 | x :: rest,j,k,p,hd,hk,h0,hp => by
   obtain⟨k,rfl⟩:=ug (k:=k);obtain⟨hj,hx,hd'⟩:=A0 hd rg0;rw[lC] at hk;have hw:ba .i64 ((j:Int)+1)=((j+1:Nat):Int):=by rw[w64];omega
   have hw2:ba .i64 ((j:Int)-1)=((j-1:Nat):Int):=by rw[w64];omega
   have hb:(0:Int)<=(j:Int)/\(j:Int)<((l.length:Nat):Int):=by omega
   rw[DU.l0,tq];simp only[hw,hw2,tN,hx,hp,GI,GE hK hs,oB,iP hb];rw[YN hK hs hl rest (j+1) k x hd' (by omega) (by omega) (by rw[ky];exact hx),chR,kj];unfold edR;cases isE s x.1 with
   |false=>rfl
   | true =>
     rw[uf];cases isE s x.2 with
     |false=>rfl
     | true =>
       rw[uf,iP (by rw[dE];omega),tw,oB];by_cases h:loR x<=hiR p;·rw[iP (by simpa using h),decide_eq_false (show ¬hiR p<loR x by omega),ec,Bool.and_false]
       ·rw[iN (by simpa using h),decide_eq_true (show hiR p<loR x by omega),dq,dq];rfl
theorem o7 {l:List Rg} (hK:100000<=K) (hs:s.size<=50000) (hl:l.length<=1000):DU K l s=some (isR s l):=by
 unfold DU;cases l with
 |nil=>rfl
 | cons x r =>
   rw[iN (by rw[dE,lC];omega),oB];obtain⟨k,rfl⟩:∃m,K=m+1:=⟨K-1,by omega⟩;have e:=YN (K:=k+1) (l:=x::r) (s:=s) (by omega) (by omega) (by omega) r 1 k x rfl (by rw[lC] at hl;omega) (by omega) rfl;have hb:(0:Int)<=0/\(0:Int)<(((x::r).length:Nat):Int):=by rw[lC];omega
   rw[isR];by_cases h:(x::r).length>8;·rw[iP (by rw[dE];omega),decide_eq_false (by omega),ec]
   ·rw[iN (by rw[dE];omega),decide_eq_true (by omega),dq,DU.l0,iP (by simp)];simp only[show bc 0=0 from rfl,lv,GE (show s.size+10<=k+1 by omega) (show s.size<=1000000 by omega),oB,iP hb,show ba .i64 ((0:Int)+1)=((1:Nat):Int) by decide,e];rw[kj];unfold edR;cases isE s x.1 with
    |false=>rfl
    | true =>
      cases isE s x.2 with
      |false=>rfl
      |true=>simp
theorem XW {K:Nat} {s:ByteArray} (hs:s.size<=100000):∀(j k:Nat),j<s.size->j<k->E9.l0 K s k (j:Int)=some (bcF s j:Int)
 | 0,k,hj,hk => by obtain⟨k,rfl⟩:=ug (k:=k);rw[E9.l0,uf,oB,uf];rfl
 | j+1,k,hj,hk => by
   obtain⟨k,rfl⟩:=ug (k:=k);have hb:=AU (s:=s) (i:=((j+1:Nat):Int));have h64:=MK hb.1 hb.2;have hw:ba .i64 (((j+1:Nat):Int)-1)=(j:Int):=by rw[w64];omega
   rw[E9.l0,iP (by rw[dE];omega),tw,oB,hw,bcF,w64 (n:=bt s ((j+1:Nat):Int))];by_cases c:A3 (bt s ((j+1:Nat):Int))
   ·rw[iP c,iP,XW hs j k (by omega) (by omega)];rw[decide_eq_true c] at h64;simpa using h64
   ·rw[iN c,iN];rw[decide_eq_false c] at h64;simpa using h64
theorem mY (hs:s.size<=100000) (hK:s.size+10<=K):E9 K s p=some (bkP s p):=by
 unfold E9 bkP;rw[GE hK (by omega)];by_cases h:p<1;·rw[iP (by simpa using h),oB,iP rfl,tz]
 ·rw[iN (by simpa using h)];by_cases h2:p>s.size
  ·rw[iP (by simpa using h2),oB,iP rfl,iN];intro h3;have:=(IS h3.2).2.1;omega
  ·rw[iN (by simpa using h2),oB,oB];cases he:isE s p with
   |false=>rw[iP (show (!false)=true from rfl),uf]
   | true =>
     obtain⟨e0,e1,e2,-⟩:=IS he;have e:=XW (K:=K) hs (p-1).toNat K (by omega) (by omega);rw[uf,iP ⟨by omega,rfl⟩,w64 (n:=p-1),<-e];congr 1;omega
theorem ZD {K:Nat} {l:List Rg} {t:ByteArray} (hl:l.length<=10000):∀(rest:List Rg) (j n:Nat) (out:List El),l.drop j=rest->rest.length<n->out.length<=j->
 EY.l0 K l t n out (j:Int)=some (out++rest.map (tyC t))
 | [],j,n,out,hd,hn,ho => by obtain⟨n,rfl⟩:=ug (k:=n);have:=A1 hd;rw[EY.l0,tt];simp
 | x :: rest,j,n,out,hd,hn,ho => by
   obtain⟨n,rfl⟩:=ug (k:=n);obtain⟨hj,hx,hd'⟩:=A0 hd rg0;rw[lC] at hn;have hw:ba .i64 ((j:Int)+1)=((j+1:Nat):Int):=by rw[w64];omega
   rw[EY.l0,tq];simp only[tN,hx,hw,GI,oB];rw[tw,iP (by simp only[ck];omega),ZD hl rest (j+1) n _ hd' (by omega) (by simp;omega),dj];simp[tyC]
theorem oS {l:List Rg} (hl:l.length<=10000) (hK:l.length<K):EY K l t=some (l.map (tyC t)):=by have e:=ZD (K:=K) (t:=t) hl l 0 K [] rfl hK (by simp);rw[cd] at e;exact e
theorem RV {K:Nat} {l:List Rg} {s:ByteArray} (hs:s.size<=100000) (hK:s.size+10<=K) (hl:l.length<=10000):∀(rest:List Rg) (j n:Nat) (out:List El) (e:Int),l.drop j=rest->rest.length<n->out.length<=j->
 DT.l0 K l s n out e (j:Int)=some (out++erC s e rest)
 | [],j,n,out,e,hd,hn,ho => by obtain⟨n,rfl⟩:=ug (k:=n);have:=A1 hd;rw[DT.l0,tt];simp[erC]
 | x :: rest,j,n,out,e,hd,hn,ho => by
   obtain⟨n,rfl⟩:=ug (k:=n);obtain⟨hj,hx,hd'⟩:=A0 hd rg0;rw[lC] at hn;have hw:ba .i64 ((j:Int)+1)=((j+1:Nat):Int):=by rw[w64];omega
   rw[DT.l0,tq];simp only[tN,hx,hw,GI,mY hs hK,oB,H5];have e0:(if (loR x==hiR x)=true then some (bkP s (hiR x)) else some (loR x))=some (if loR x=hiR x then bkP s (loR x) else loR x):=by
    by_cases c:loR x=hiR x;·rw[iP (by simpa using c),iP c,c]
    ·rw[iN (by simpa using c),iN c]
   rw[tw,e0,oB,show max (if loR x=hiR x then bkP s (loR x) else loR x) e=frC s e x from rfl,erC];by_cases c:frC s e x>=hiR x;·rw[iN (by rw[dE];omega),iP c,RV hs hK hl rest (j+1) n out e hd' (by omega) (by omega)]
   ·rw[iP (by rw[dE];omega),iN c,iP (by simp only[ck];omega),RV hs hK hl rest (j+1) n _ (hiR x) hd' (by omega) (by simp;omega)];simp
theorem nP {l:List Rg} (hK:100000<=K) (hs:s.size<=50000) (hl:l.length<=1000):DT K l s=some (if isR s l=true then erC s 0 l else []):=by
 unfold DT;rw[o7 hK hs hl,oB];cases h:isR s l with
 |false=>rfl
 | true =>
   have e:=RV (K:=K) (l:=l) (s:=s) (by omega) (by omega) (by omega) l 0 K [] 0 rfl (by omega) (by simp);rw[show ((0:Nat):Int)=0 from rfl,cd] at e;rw[uf,e,iP rfl]
theorem XS {K:Nat} {l:List Sp} {n:Int} (hl:l.length<=60):∀(rest:List Sp) (j k:Nat),l.drop j=rest->rest.length<k->0<=(AI l j).1->
 DN.l0 K l n k (AI l j).1 (AI l j).2 (j:Int)=some (AE (min n 20000) (AI l j).1 (AI l j).2 rest)
 | [],j,k,hd,hk,h0 => by obtain⟨k,rfl⟩:=ug (k:=k);have:=A1 hd;rw[DN.l0,tt];rfl
 | x :: rest,j,k,hd,hk,h0 => by
   obtain⟨k,rfl⟩:=ug (k:=k);obtain⟨hj,hx,hd'⟩:=A0 hd sp0;rw[lC] at hk;have hw:ba .i64 ((j:Int)+1)=((j+1:Nat):Int):=by rw[w64];omega
   rw[DN.l0,tq,tw];simp only[tN,hx,hw,GC];have e1:(if decide (x.2.2<1)=true then some true else if decide (x.2.2>100)=true then some true else if decide (x.1<(AI l j).1)=true then some true else if decide (x.2.1<=x.1)=true then some true else if decide (x.2.1>min n 20000)=true then some true else if decide ((j:Int)>0)=true then if (x.1==(AI l j).1)=true then some (x.2.2==(AI l j).2) else some false else some false)=some (decide (¬(1<=x.2.2/\x.2.2<=100/\(AI l j).1<=x.1/\x.1<x.2.1/\x.2.1<=min n 20000/\¬(x.1=(AI l j).1/\x.2.2=(AI l j).2)))):=by
    by_cases h1:x.2.2<1;·rw[iP (by simpa using h1)];congr 1;symm;rw[dE];omega
    rw[iN (by simpa using h1)];by_cases h2:x.2.2>100;·rw[iP (by simpa using h2)];congr 1;symm;rw[dE];omega
    rw[iN (by simpa using h2)];by_cases h3:x.1<(AI l j).1;·rw[iP (by simpa using h3)];congr 1;symm;rw[dE];omega
    rw[iN (by simpa using h3)];by_cases h4:x.2.1<=x.1;·rw[iP (by simpa using h4)];congr 1;symm;rw[dE];omega
    rw[iN (by simpa using h4)];by_cases h5:x.2.1>min n 20000;·rw[iP (by simpa using h5)];congr 1;symm;rw[dE];omega
    rw[iN (by simpa using h5)];by_cases h6:j=0
    ·subst h6;rw[uf];congr 1;symm;rw[decide_eq_false_iff_not,show AI l 0=(0,0) from rfl];rw[show AI l 0=(0,0) from rfl] at h3;simp only at h3 ⊢;omega
    rw[tq];by_cases h7:x.1=(AI l j).1;·rw[iP (by simpa using h7)];congr 1;rw[jj,beq_iff_eq,dE];omega
    ·rw[iN (by simpa using h7)];congr 1;symm;rw[decide_eq_false_iff_not];omega
   rw[e1,oB,AE];by_cases h:1<=x.2.2/\x.2.2<=100/\(AI l j).1<=x.1/\x.1<x.2.1/\x.2.1<=min n 20000/\¬(x.1=(AI l j).1/\x.2.2=(AI l j).2)
   ·have ih:=XS (K:=K) (n:=n) hl rest (j+1) k hd' (by omega) (by rw[O1 hx];omega);rw[O1 hx] at ih;rw[iN (by simp only[dE];exact λh'=>h' h),ih,decide_eq_true h,dq]
   ·rw[iP (by simp only[dE];exact h),decide_eq_false h,ec]
theorem O4 {l:List Sp} (hK:1000<=K):DN K l n=some (B0 n l):=by
 unfold DN B0;by_cases h:l.length<=60
 ·rw[tt,decide_eq_true h,dq];exact XS h l 0 K rfl (by omega) (by simp[AI])
 ·rw[tq,decide_eq_false h,ec]
theorem PZ {K:Nat} {l:List Sp} (hl:l.length<=100000):∀(rest:List Sp) (j k:Nat) (out:List Sp),l.drop j=rest->rest.length<k->out.length<=j->
 DB.l0 K l k out (j:Int)=some ((rest.filter neS).foldl AT out)
 | [],j,k,out,hd,hk,ho => by obtain⟨k,rfl⟩:=ug (k:=k);have:=A1 hd;rw[DB.l0,tt];rfl
 | x :: rest,j,k,out,hd,hk,ho => by
   obtain⟨k,rfl⟩:=ug (k:=k);obtain⟨hj,hx,hd'⟩:=A0 hd sp0;rw[lC] at hk;have hw:ba .i64 ((j:Int)+1)=((j+1:Nat):Int):=by rw[w64];omega
   have hb:(0:Int)<=(j:Int)/\(j:Int)<(l.length:Int):=by omega
   rw[DB.l0,tq];simp only[tN,hx,hw,HX];rw[iP hb,iP hb];have e1:(if decide (x.2.1<=x.1)=true then some true else some (x.2.2==0))=some (!neS x):=by
    unfold neS;by_cases h:x.2.1<=x.1;·rw[iP (by simpa using h),decide_eq_false (by omega)];rfl
    ·rw[iN (by simpa using h)];congr 1;rw[jj,beq_iff_eq,Bool.not_eq_true',decide_eq_false_iff_not];omega
   rw[e1,oB];cases hn:neS x with
   | false =>
     rw[iP (show (!false)=true from rfl),PZ hl rest (j+1) k out hd' (by omega) (by omega),List.filter_cons_of_neg (by simp[hn])]
   | true =>
     rw[uf,List.filter_cons_of_pos hn,fk,<-PZ (K:=K) hl rest (j+1) k (AT out x) hd' (by omega) (by have:=SR (l:=out) (x:=x);omega)];cases ho':out with
     | nil =>
       rw[uf,oB,uf,tq];rfl
     | cons y out' =>
       have hne:out≠[]:=by rw[ho'];simp
       rw[<-ho'];have hlen:1<=out.length:=by rw[ho'];simp
       have hw2:ba .i64 ((out.length:Int)-1)=((out.length-1:Nat):Int):=by rw[w64];omega
       rw[hw2];simp only[tN];rw[tq];have hb2:(0:Int)<=((out.length-1:Nat):Int)/\((out.length-1:Nat):Int)<(out.length:Int)/\(0:Int)<=(j:Int)/\(j:Int)<(l.length:Int):=by omega
       rw[iP hb2,iP hb2,iP (show (0:Int)<=(j:Int)/\(j:Int)<(l.length:Int)/\(0:Int)<=((out.length-1:Nat):Int)/\((out.length-1:Nat):Int)<(out.length:Int) by omega)];unfold AT;by_cases h1:(out.getD (out.length-1) sp0).2.1=x.1
       ·rw[iP (by simpa using h1),oB];by_cases h2:(out.getD (out.length-1) sp0).2.2=x.2.2;·rw[iP (by simpa using h2),iP ⟨hne,h2,h1⟩]
        ·rw[iN (by simpa using h2),tq,iN (λh=>h2 h.2.1)]
       ·rw[iN (by simpa using h1),oB,uf,tq,iN (λh=>h1 h.2.2)]
theorem V3 {l:List Sp} (hl:l.length<=100000) (hK:l.length<K):DB K l=some ((l.filter neS).foldl AT []):=PZ hl l 0 K [] rfl hK (by simp)
theorem Z0 {K:Nat} {l:List Sp} {a:Int} (hl:l.length<=100000):∀(rest:List Sp) (j k:Nat) (out:List Sp),l.drop j=rest->rest.length<k->out.length<=1000000+j->
 BG.l0 K l a k out (j:Int)=some (out++rest.map (C5 a))
 | [],j,k,out,hd,hk,ho => by obtain⟨k,rfl⟩:=ug (k:=k);have:=A1 hd;rw[BG.l0,tt];simp
 | x :: rest,j,k,out,hd,hk,ho => by
   obtain⟨k,rfl⟩:=ug (k:=k);obtain⟨hj,hx,hd'⟩:=A0 hd sp0;rw[lC] at hk;have hw:ba .i64 ((j:Int)+1)=((j+1:Nat):Int):=by rw[w64];omega
   rw[BG.l0,tq];simp only[tN,hx,hw,GC];rw[tq,Z0 hl rest (j+1) k _ hd' (by omega) (by simp;omega)];simp[C5]
theorem Z3 {K:Nat} {l:List Sp} {b:Int} (hl:l.length<=100000):∀(rest:List Sp) (j k:Nat) (out:List Sp),l.drop j=rest->rest.length<k->out.length<=1000000+j->
 BG.l1 K l b k out (j:Int)=some (out++rest.map (CH b))
 | [],j,k,out,hd,hk,ho => by obtain⟨k,rfl⟩:=ug (k:=k);have:=A1 hd;rw[BG.l1,tt];simp
 | x :: rest,j,k,out,hd,hk,ho => by
   obtain⟨k,rfl⟩:=ug (k:=k);obtain⟨hj,hx,hd'⟩:=A0 hd sp0;rw[lC] at hk;have hw:ba .i64 ((j:Int)+1)=((j+1:Nat):Int):=by rw[w64];omega
   rw[BG.l1,tq];simp only[tN,hx,hw,H5];rw[tq,Z3 hl rest (j+1) k _ hd' (by omega) (by simp;omega)];simp[CH]
theorem oL {l:List Sp} {s:Int} (hK:100000<K) (hll:l.length<=100):∃r:List Sp×Int,C2 K l a b s=some r/\BG K l a b s=some r/\r.1.length<=60:=by
 by_cases h:B0 20000 l=true/\0<=s/\s<=100/\0<=a/\a<=b/\b<=20000
 ·obtain⟨hi,h1,h2,h3,h4,h5⟩:=h;obtain⟨hl60,hok⟩:=QD hi;rw[show min (20000:Int) 20000=20000 by decide] at hok;obtain⟨C,c1,c2,c3,c4⟩:=XK (K:=K) (a:=a) (b:=b) (s:=s) hK hl60 hok (eo _) ⟨h1,h2⟩ h3 h4 h5;refine⟨_,c4,?_,by split<;>simp;omega⟩;unfold BG;rw[O4 (by omega),oB,hi];have e1:(if (!true)=true then some true else if decide (s<0)=true then some true else if decide (s>100)=true then some true else if decide (a<0)=true then some true else if decide (b<a)=true then some true else some (decide (b>20000)))=some false:=by
   rw[uf,tt,tt,tt,tt];congr 1;rw[decide_eq_false_iff_not];omega
  rw[e1,oB,uf];by_cases hab:a=b
  ·have:C=l:=L6 c1 hok (eo _) (eo _) λk=>by rw[c2];unfold JW;rw[tz]
   subst this;rw[iP (by simpa using hab),tz]
  ·obtain⟨p1,p2⟩:=oK (s:=s) hok h3 (by omega:a<b) h5 ⟨h1,h2⟩;have hlen:(l.map (C5 a)++[(a,b,s)]++l.map (CH b)).length=2*l.length+1:=by simp;omega
   have r0:=Z0 (K:=K) (a:=a) (by omega) l 0 K [] rfl (by omega) (by simp);have r1:=Z3 (K:=K) (b:=b) (by omega) l 0 K (l.map (C5 a)++[(a,b,s)]) rfl (by omega) (by simp;omega);rw[show ((0:Nat):Int)=0 from rfl] at r0 r1;rw[iN (by simpa using hab),r0,oB,cd,tq,r1,oB,V3 (by omega) (by omega),oB];rw[L6 p1 c1 (eo _) (eo _) λk=>by rw[p2,c2]];by_cases hC:C.length>60;·rw[iP (by simp only[dE];omega),iP hC]
   ·rw[iN (by simp only[dE];omega),iN hC]
 ·refine⟨_,XJ hK h,?_,by simp⟩;unfold BG;rw[O4 (by omega),oB];have:(if (!B0 20000 l)=true then some true else if decide (s<0)=true then some true else if decide (s>100)=true then some true else if decide (a<0)=true then some true else if decide (b<a)=true then some true else some (decide (b>20000)))=some true:=by
   cases hi:B0 20000 l with
   |false=>rfl
   | true =>
     rw[uf];by_cases h1:s<0;·rw[iP (by simpa using h1)]
     rw[iN (by simpa using h1)];by_cases h2:s>100;·rw[iP (by simpa using h2)]
     rw[iN (by simpa using h2)];by_cases h3:a<0;·rw[iP (by simpa using h3)]
     rw[iN (by simpa using h3)];by_cases h4:b<a;·rw[iP (by simpa using h4)]
     rw[iN (by simpa using h4)];congr 1;rw[dE];rcases nu 20000 b with h5|h5;·exact h5
     ·exact(h ⟨hi,by omega,by omega,by omega,by omega,h5⟩).elim
  rw[this,oB,iP rfl]
theorem Y6 {K:Nat} {l:List Sp} {base:Int} {d:List El} (hK:100000<=K) (hl:l.length<=100000):∀(rest:List Sp) (j k:Nat) (out:List Sp),l.drop j=rest->rest.length<k->out.length<=j->
 CW.l0 K l base d k out (j:Int)=some (out++rest.map (goS base d))
 | [],j,k,out,hd,hk,ho => by obtain⟨k,rfl⟩:=ug (k:=k);have:=A1 hd;rw[CW.l0,tt];simp
 | x :: rest,j,k,out,hd,hk,ho => by
   obtain⟨k,rfl⟩:=ug (k:=k);obtain⟨hj,hx,hd'⟩:=A0 hd sp0;rw[lC] at hk;have hw:ba .i64 ((j:Int)+1)=((j+1:Nat):Int):=by rw[w64];omega
   rw[CW.l0,tq];simp only[tN,hx,hw,o6 hK,oB];rw[tw,tq,Y6 hK hl rest (j+1) k _ hd' (by omega) (by simp;omega),dj];simp[goS]
theorem fH {l:List Sp} {base:Int} (hK:100000<=K) (h:¬(isD base d=true/\B0 base l=true)):BU K l base d=some ([],12)/\CW K l base d=some ([],12):=by
 unfold BU CW;rw[GB (by omega),JG (by omega),IT (by omega),O4 (by omega)];simp only[oB];have:(if (!isD base d)=true then some true else some (!B0 base l))=some true:=by
  cases h1:isD base d with
  |false=>rfl
  | true =>
    cases h2:B0 base l with
    |false=>rfl
    |true=>exact(h ⟨h1,h2⟩).elim
 rw[this,oB,oB,iP rfl,iP rfl];exact⟨rfl,rfl⟩
theorem fI {l:List Sp} {base:Int} (hK:100000<K) (hd:isD base d=true) (hi:B0 base l=true) :
 ∃C,AE (AD d+A6 d) 0 0 C=true/\(∀k,atS C k=atS ((l.map (goS base d)).filter neI) k)/\C.length<=l.length/\BU K l base d=some (C,0)/\CW K l base d=some (C,0):=by
 obtain⟨hl60,hok⟩:=QD hi;obtain⟨p1,p2,p3⟩:=VM hd hok;have hfl:((l.map (goS base d)).filter neI).length<=l.length:=by have:=mc neI (l.map (goS base d));rw[du] at this;exact this
 obtain⟨C,Z,c1,c2,c3,c4⟩:=T3 (K:=K) hK (by omega) (J0 p2) p3;refine⟨C,c1,c2,by omega,?_,?_⟩
 ·unfold BU;have el:=PR (K:=K) (base:=base) (d:=d) (by omega) (by omega) l 0 K [] rfl (by omega) (by simp);rw[show ((0:Nat):Int)=0 from rfl] at el;rw[GB (by omega),oB,hd,IT (by omega),oB,hi,uf,oB,uf,el,oB,cd,c4,oB,tz]
 ·unfold CW;have el:=Y6 (K:=K) (base:=base) (d:=d) (by omega) (by omega) l 0 K [] rfl (by omega) (by simp);rw[show ((0:Nat):Int)=0 from rfl] at el;rw[JG (by omega),oB,hd,O4 (by omega),oB,hi,uf,oB,uf,el,oB,cd,V3 (by rw[du];omega) (by rw[du];omega),oB,p1];have hf:=N2 (n:=AD d+A6 d) (r:=(l.map (goS base d)).filter neI) (acc:=[]) rfl p3 p2 (λx hx=>by cases hx);rw[L6 hf.1 c1 (eo _) (eo _) λk=>by rw[hf.2,c2,cd]]
theorem XR {K:Nat} {l:List Int} {n:Int} (hl:l.length<=1000000000000):∀(rest:List Int) (j k:Nat),l.drop j=rest->rest.length<k->0<=C9 l j->
 E8.l0 K l n k (j:Int)=some (okB (min n 20000) (C9 l j) rest&&decide (l.length<=60))
 | [],j,k,hd,hk,h0 => by obtain⟨k,rfl⟩:=ug (k:=k);have:=A1 hd;rw[E8.l0,tt,okB,dq];congr 1;rw[decide_eq_decide];omega
 | x :: rest,j,k,hd,hk,h0 => by
   obtain⟨k,rfl⟩:=ug (k:=k);obtain⟨hj,hx,hd'⟩:=A0 hd (0:Int);rw[lC] at hk;have hw:ba .i64 ((j:Int)+1)=((j+1:Nat):Int):=by rw[w64];omega
   have hb:(0:Int)<=(j:Int)/\(j:Int)<((l.length:Nat):Int):=by omega
   rw[E8.l0,tq];simp only[tN,hx,hw,GC];have e:(if decide (x<1)=true then if (0:Int)<=(j:Int)/\(j:Int)<((l.length:Nat):Int) then some true else none else if decide (x>=min n 20000)=true then if (0:Int)<=(j:Int)/\(j:Int)<((l.length:Nat):Int) then some true else none else if decide ((j:Int)>0)=true then if 0<=(j:Int)/\(j:Int)<((l.length:Nat):Int)/\0<=ba .i64 ((j:Int)-1)/\ba .i64 ((j:Int)-1)<((l.length:Nat):Int) then some (decide (x<=l.getD (ba .i64 ((j:Int)-1)).toNat 0)) else none else if (0:Int)<=(j:Int)/\(j:Int)<((l.length:Nat):Int) then some false else none)=some (decide (¬(C9 l j<x/\x<min n 20000))):=by
    simp only[iP hb];by_cases h1:x<1;·rw[iP (by simpa using h1)];congr 1;symm;rw[dE];omega
    rw[iN (by simpa using h1)];by_cases h2:x>=min n 20000;·rw[iP (by simpa using h2)];congr 1;symm;rw[dE];omega
    rw[iN (by simpa using h2)];by_cases h3:j=0
    ·subst h3;rw[uf];congr 1;symm;rw[decide_eq_false_iff_not];rw[show C9 l 0=0 from rfl];omega
    ·have hw2:ba .i64 ((j:Int)-1)=((j-1:Nat):Int):=by rw[w64];omega
     rw[tq,hw2,tw,tN];have:C9 l j=l.getD (j-1) 0:=by unfold C9;rw[iN h3]
     rw[this];congr 1;rw[decide_eq_decide];omega
   rw[e,oB,okB];by_cases h:C9 l j<x/\x<min n 20000
   ·have ih:=XR (K:=K) (n:=n) hl rest (j+1) k hd' (by omega) (by rw[NZ hx];omega);rw[NZ hx] at ih;rw[iN (by simp only[dE];exact λh'=>h' h),ih,decide_eq_true h,dq]
   ·rw[iP (by simp only[dE];exact h),decide_eq_false h,ec,ec]
theorem RL {l:List Int} (hl:l.length<=1000000000000) (hK:l.length<K):E8 K l n=some (isB n l):=
 XR hl l 0 K rfl hK (by simp[C9])
theorem Z4 {K:Nat} {l:List Int} {t:Int} {r:Nat} (hl:l.length<=100000) (hr:r<=l.length) (h1:∀x∈l.take r,x<t) (h2:∀x∈l.drop r,t<=x):∀(d j k:Nat),j+d=r->d<k->DO.l0 K l t k (j:Int)=some (r:Int)
 | 0,j,k,hj,hk => by
   obtain⟨k,rfl⟩:=ug (k:=k);obtain rfl:j=r:=by omega
   rw[DO.l0];by_cases h:j<l.length
   ·have:=h2 _ (VI h (bp j));rw[tq,tw,oB];simp only[tN];rw[iN (by simp only[dE];omega)]
   ·rw[tt,oB,uf]
 | d+1,j,k,hj,hk => by
   obtain⟨k,rfl⟩:=ug (k:=k);have hw:ba .i64 ((j:Int)+1)=((j+1:Nat):Int):=by rw[w64];omega
   have hm:l.getD j 0∈l.take r:=by rw[lb];exact⟨j,by rw[co];omega,by rw[mi];simp[bb,bj (show j<l.length by omega)]⟩
   have:=h1 _ hm;rw[DO.l0,tq,tw,oB];simp only[tN,hw];rw[iP (by simp only[dE];omega),Z4 hl hr h1 h2 d (j+1) k (by omega) (by omega)]
theorem oI {l:List Int} {t:Int} (hK:100000<K) (hl:l.length<=100):∃r:List Int×Int,FN K l t=some r/\DO K l t=some r/\r.1.length<=61:=by
 by_cases h:isB 20000 l=true/\0<t/\t<20000
 ·obtain⟨hi,h1,h2⟩:=h;obtain⟨hok,hl60⟩:=WA hi;have hs:=H6 hok;obtain⟨r,r1,r2,r3,r4⟩:=ZT (K:=K) (t:=t) hK (by omega) hs;have hmem:=WN r3 r4 hs;refine⟨_,XL hK hi h1 h2,?_,?_⟩
  ·unfold DO;have e:=Z4 (K:=K) (by omega) r1 r3 r4 r 0 K (by omega) (by omega);rw[show ((0:Nat):Int)=0 from rfl] at e;rw[RL (by omega) (by omega),oB,hi,uf,tt,oB,tt,e,oB];have e2:(if decide ((r:Int)<((l.length:Nat):Int))=true then if (0:Int)<=(r:Int)/\(r:Int)<((l.length:Nat):Int) then some (l.getD (r:Int).toNat 0==t) else none else some false)=some (decide (t∈l)):=by
    by_cases hr:r<l.length
    ·rw[tq,tw,tN];congr 1;rw[jj,beq_iff_eq,dE,<-hmem];exact⟨λh=>⟨hr,h⟩,λh=>h.2⟩
    ·rw[tt];congr 1;symm;rw[decide_eq_false_iff_not,<-hmem];exact λh=>hr h.1
   rw[e2,oB];by_cases hm:t∈l;·rw[iP (by simpa using hm),iP hm]
   ·rw[iN (by simpa using hm),iN hm];by_cases h60:60<=l.length;·rw[tq,iP h60]
    ·rw[tt,iN h60,tq,tN,XP hm r3 r4];simp
  ·split;·simp only;omega
   ·split;·simp
    ·rename_i hm _;simp only;rw[XM hs hm];omega
 ·refine⟨_,mP (by omega) hl h,?_,by simp⟩;unfold DO;rw[RL (by omega) (by omega),oB];have:(if (!isB 20000 l)=true then some true else if decide (t<1)=true then some true else some (decide (t>=20000)))=some true:=by
   cases hi:isB 20000 l with
   |false=>rfl
   | true =>
     rw[uf];by_cases h1:t<1;·rw[iP (by simpa using h1)]
     ·rw[iN (by simpa using h1)];congr 1;rw[dE];rcases nu t 20000 with h2|h2;·exact(h ⟨hi,by omega,h2⟩).elim
      ·exact h2
  rw[this,oB,iP rfl]
theorem Y5 {K:Nat} {l:List Int} {base:Int} {d:List El} {cs:List Ce} (hK:100000<=K) (hl:l.length<=100000):∀(rest:List Int) (j k:Nat) (out:List Int),l.drop j=rest->rest.length<k->out.length<=j->
 D9.l0 K l base d cs k out (j:Int)=some ((rest.map λx=>mv base d x false).foldl (stB cs.length) out,0)
 | [],j,k,out,hd,hk,ho => by obtain⟨k,rfl⟩:=ug (k:=k);have:=A1 hd;rw[D9.l0,tt];rfl
 | x :: rest,j,k,out,hd,hk,ho => by
   obtain⟨k,rfl⟩:=ug (k:=k);obtain⟨hj,hx,hd'⟩:=A0 hd (0:Int);rw[lC] at hk;have hw:ba .i64 ((j:Int)+1)=((j+1:Nat):Int):=by rw[w64];omega
   have ih:=λo h=>Y5 (base:=base) (cs:=cs) (d:=d) hK hl rest (j+1) k o hd' (by omega) h;have hs:=SQ (e:=(cs.length:Int)) (x:=mv base d x false) (out:=out);rw[D9.l0,tq];simp only[tN,hx,hw,OE hK,oB];rw[tw,aV (by omega),oB,dj,fk,<-ih (stB cs.length out (mv base d x false)) (by omega)];by_cases h:0<mv base d x false/\mv base d x false<cs.length/\(out.length=0\/out.getD (out.length-1) 0≠mv base d x false);·rw[iP (by rw[dE];exact h),tq];unfold stB;rw[iP h]
   ·rw[iN (by rw[dE];exact h)];unfold stB;rw[iN h]
theorem fJ {l:List Int} {base:Int} (hK:100000<=K) (hl:l.length<=1000):CQ K l base d=some (if isD base d=true/\isB base l=true then (edB base d l,0) else ([],12))/\
 D9 K l base d=some (if isD base d=true/\isB base l=true then (edB base d l,0) else ([],12)):=by
 unfold CQ D9;rw[GB (by omega),JG (by omega),N7 (by omega) (by omega),RL (by omega) (by omega)];simp only[oB];by_cases h:isD base d=true/\isB base l=true
 ·rw[iP h,h.1,h.2,uf,oB,uf,UQ (by omega),oB,iP h.1,oB,uf,U4 hK h.1,oB];have e1:=PL (K:=K) (base:=base) (d:=d) (e:=AD d+A6 d) (by omega) (by omega) l 0 K [] rfl (by omega) (by simp);have e2:=Y5 (K:=K) (base:=base) (d:=d) (cs:=cells d) (by omega) (by omega) l 0 K [] rfl (by omega) (by simp);rw[show ((0:Nat):Int)=0 from rfl] at e1 e2;rw[e1,e2,PA (H2 h.1).2.2.2.1];exact⟨rfl,rfl⟩
 ·have:(if (!isD base d)=true then some true else some (!isB base l))=some true:=by
   cases h1:isD base d with
   |false=>rfl
   | true =>
     cases h2:isB base l with
     |false=>rfl
     |true=>exact(h ⟨h1,h2⟩).elim
  rw[this,oB,oB,iP rfl,iP rfl,iN h];exact⟨rfl,rfl⟩
def EG (s:ByteArray):Nat->Nat->List ByteArray
 |0,_=>[]
 |d+1,t=>if t<s.size then s.extract t (t+(usz s t).toNat)::EG s d (t+(usz s t).toNat) else []
theorem XF {K:Nat} {s:ByteArray} (hK:10<=K) (hs:s.size<=100000):∀(d t k m:Nat) (l:List ByteArray),s.size<=t+d->t<=s.size->d<k->d<=m->AA s m t=true->l.length<=t->
 EA.l0 K s k l t=some (l++EG s d t)
 | 0,t,k,m,l,hd,ht,hk,hm,hv,hl => by obtain⟨k,rfl⟩:=ug (k:=k);rw[EA.l0,tt];simp[EG]
 | d+1,t,k,m,l,hd,ht,hk,hm,hv,hl => by
   obtain⟨k,rfl⟩:=ug (k:=k);obtain⟨m,rfl⟩:=ug (k:=m);rw[EA.l0,EG];by_cases h:t<s.size
   ·rw[AA,iP (show (t:Int)<s.size by omega)] at hv;have hz:usz s t≠0:=λe=>by rw[iP e] at hv;cases hv
    rw[iN hz] at hv;obtain⟨c,z,e1,e2,e3,e4⟩:=KC h hz;have hu:=CK (s:=s) (a:=(t:Int));rw[e2] at hv hz hu;have hu3:=hu.2.2 (by omega) (by omega);rw[show (t:Int)+(z:Int)=((t+z:Nat):Int) by omega] at hv;rw[tq,Z6 hK (by omega),oB,e2,w64 (n:=(t:Int)+(z:Int)),show (t:Int)+(z:Int)=((t+z:Nat):Int) by omega];simp only[tN];rw[iP (by simp only[ck];omega),XF hK hs d (t+z) k m _ (by omega) (by omega) (by omega) (by omega) hv (by simp;omega),iP h,aA];rfl
   ·rw[tt,iN h,cm]
theorem mL (hK:s.size+10<=K) (hs:s.size<=100000) (hv:A4 s=true):EA K s=some (EG s s.size 0):=by unfold EA FW;rw[JJ hK (by omega),oB,hv,iP rfl,oB];have e:=XF (K:=K) (by omega) hs s.size 0 K s.size [] (by omega) (by omega) (by omega) (by omega) hv (by simp);rw[show ((0:Nat):Int)=0 from rfl] at e;rw[e,cd]
theorem XH {s:ByteArray}:∀{d t:Nat},(EG s d t).length<=d
 |0,_=>bp _
 | d+1,t => by
   rw[EG];split;·rw[lC];have:=XH (s:=s) (d:=d) (t:=t+(usz s t).toNat);omega
   ·simp
theorem EX {α:Type} {l:List α} {a:α} {r:List α} (h:l.drop j=a::r):a∈l:=mD (i:=j) (by rw[h];exact mS)
theorem SC {K:Nat} {l:List Atm} {u:List Int} {rev:Int} (hK:100000<=K) (hu:u.length<=50000) (hl:Aok l):∀(r:List Atm) (j k:Nat) (x:List Int),l.drop j=r->r.length<k->x.length+10*r.length<=1000000->
 BQ.l0 K l rev u k x (j:Int)=some (tP (x++vtx rev u r))
 | [],j,k+1,x,h,_,_ => by have:=A1 h;rw[BQ.l0,tt];simp[vtx]
 | g :: r,j,k+1,x,h,hk,hx => by
   obtain⟨h1,h2,h3⟩:=A0 h zA;have hlen:=hl.1;have hg:=hl.2 g (EX h);simp only[lC] at hx;rw[BQ.l0,tq,tN,h2,JK hK hu (by omega),oB,iP ⟨by omega,by omega⟩,up1];cases hv:vis rev u g with
   | true =>
     rw[iP rfl,iP (by rw[CB];omega),SC hK hu hl r (j+1) k _ h3 (by simpa using hk) (by simp[CB];omega)];simp[vtx,hv]
   | false =>
     rw[uf,SC hK hu hl r (j+1) k _ h3 (by simpa using hk) (by omega)];simp[vtx,hv]
theorem LU (hK:100000<=K) (hu:u.length<=50000) (hl:Aok l):BQ K l rev u=some (tP (vtx rev u l)):=
 SC hK hu hl l 0 K [] rfl (by have:=hl.1;omega) (by have:=hl.1;simp;omega)
theorem XX {K:Nat} {s:ByteArray} {c:List Chg} (hl:c.length<=1000):∀(r:List Chg) (j k:Nat),c.drop j=r->r.length<k->A9.l0 K c s k (j:Int)=some (if r.any (bdC s)=true then .inl 10 else .inr ())
 | [],j,k+1,h,_ => by have:=A1 h;rw[A9.l0,tt];rfl
 | x :: r,j,k+1,h,hk => by
   obtain⟨h1,h2,h3⟩:=A0 h zC;have hb:0<=(j:Int)/\(j:Int)<c.length:=⟨by omega,by omega⟩;rw[A9.l0,tq,tN,h2,up1,XX hl r (j+1) k h3 (by simpa using hk),ii];simp only[iP hb];have e:(if decide (x.1<0)=true then some true else if decide (x.2.1<x.1)=true then some true else some (decide (x.2.1>((s.size:Nat):Int))))=some (bdC s x):=by
    unfold bdC;by_cases c1:x.1<0;·simp[c1]
    ·by_cases c2:x.2.1<x.1;·simp[c2]
     ·simp[c1,c2]
   rw[e,oB];cases bdC s x<;>rfl
theorem XY {K:Nat} {s:ByteArray} {c:List Chg} (hK:100000<=K) (hs:s.size<=50000) (hl:c.length<=1000):∀(r:List Chg) (j k:Nat),c.drop j=r->r.length<k->A9.l1 K c s k (j:Int)=some (if r.any (egC s)=true then .inl 11 else .inr ())
 | [],j,k+1,h,_ => by have:=A1 h;rw[A9.l1,tt];rfl
 | x :: r,j,k+1,h,hk => by
   obtain⟨h1,h2,h3⟩:=A0 h zC;have hb:0<=(j:Int)/\(j:Int)<c.length:=⟨by omega,by omega⟩;rw[A9.l1,tq,tN,h2,up1,XY hK hs hl r (j+1) k h3 (by simpa using hk),ii,GE (by omega) (by omega),oB,GE (by omega) (by omega),oB];simp only[iP hb];have e:(if (!isE s x.1)=true then some true else some (!isE s x.2.1))=some (egC s x):=by unfold egC;cases isE s x.1<;>simp
   rw[e,oB];cases egC s x<;>rfl
theorem YY {K:Nat} {c:List Chg} (hl:c.length<=1000):∀(r:List Chg) (j k:Nat) (a:Chg),c.drop j=a::r->r.length<k->C8.l0 K c k ((j+1:Nat):Int)=some (!orC (a::r))
 | [],j,k+1,a,h,_ => by obtain⟨h1,h2,h3⟩:=A0 h zC;have:=A1 h3;rw[C8.l0,tt];rfl
 | b :: r,j,k+1,a,h,hk => by
   obtain⟨h1,h2,h3⟩:=A0 h zC;obtain⟨g1,g2,g3⟩:=A0 h3 zC;have e0:ba .i64 (((j+1:Nat):Int)-1)=(j:Int):=by rw[w64];omega
   rw[C8.l0,e0,tq,tN,tN,h2,g2,up1,YY hl r (j+1) k b h3 (by simpa using hk),iP ⟨by omega,by omega,by omega,by omega⟩];have e:(if decide (b.1<a.2.1)=true then some true else if (b.1==a.1)=true then some (a.1==a.2.1) else some false)=some (decide (b.1<a.2.1)||(a.1==b.1&&a.2.1==b.1)):=by
    by_cases c1:b.1<a.2.1;·simp[c1]
    ·by_cases c2:b.1=a.1
     ·rw[iN (by simpa using c1),iP (by simpa using c2),decide_eq_false c1,<-c2];congr 1;rw[jj];simp only[beq_iff_eq,mm,beq_self_eq_true,dq];exact eq_comm
     ·have:¬a.1=b.1:=λh=>c2 h.symm;simp[c1,c2,this]
   rw[e,oB,orC];cases (decide (b.1<a.2.1)||(a.1==b.1&&a.2.1==b.1))<;>rfl
theorem oG (hK:100000<=K) (hl:c.length<=1000):C8 K c=some (!orC c):=by
 unfold C8;cases c with
 | nil =>
   obtain⟨k,rfl⟩:∃k,K=k+1:=⟨K-1,by omega⟩;rw[C8.l0,uf];rfl
 |cons a r=>exact YY hl r 0 K a rfl (by simp at hl;omega)
theorem XZ {K:Nat} {c:List Chg} (hK:100000<=K) (hc:Cok c):∀(r:List Chg) (j k:Nat),c.drop j=r->r.length<k->A9.l2 K c k (j:Int)=some (if r.any (λx=>!A4 x.2.2)=true then .inl 12 else .inr ())
 | [],j,k+1,h,_ => by have:=A1 h;rw[A9.l2,tt];rfl
 | x :: r,j,k+1,h,hk => by obtain⟨h1,h2,h3⟩:=A0 h zC;have hl:=hc.1;have hx:=hc.2 x (EX h);rw[A9.l2,tq,tN,h2,up1,XZ hK hc r (j+1) k h3 (by simpa using hk),ii,JJ (by omega) (by omega),oB,iP ⟨by omega,by omega⟩];cases A4 x.2.2<;>rfl
theorem Y0 {K:Nat} {s:ByteArray} {c:List Chg} (hs:s.size<=50000) (hl:c.length<=1000):∀(r:List Chg) (j k:Nat) (n:Int),c.drop j=r->r.length<k->r.any (bdC s)=false->n<=1000000->-1000000000<=n-r.length*(s.size:Int)->
 A9.l3 K c k n (j:Int)=some (n-lgA s.size r)
 | [],j,k+1,n,h,_,_,_,_ => by have:=A1 h;rw[A9.l3,tt];simp[lgA]
 | x :: r,j,k+1,n,h,hk,hb,h4,h5 => by
   obtain⟨h1,h2,h3⟩:=A0 h zC;have e:((r.length+1:Nat):Int)*(s.size:Int)=r.length*(s.size:Int)+s.size:=by rw[Int.natCast_add,Int.add_mul];simp
   have e0:0<=(r.length:Int)*(s.size:Int):=Int.mul_nonneg (by omega) (by omega);simp only[lC,e] at h5;rw[ii,ml] at hb;have hx:=hb.1;simp only[bdC,ml,decide_eq_false_iff_not] at hx;have hm:mn2 (mx2 (ba .i64 (x.2.1-x.1)) 0) s.size=x.2.1-x.1:=by rw[w64,I1,IZ];omega
   rw[A9.l3,tq,iP ⟨by omega,by omega⟩,tN,h2,up1,w64 (n:=x.2.1-x.1),w64 (n:=n-_),Y0 hs hl r (j+1) k _ h3 (by simpa using hk) hb.2 (by omega) (by omega)];simp only[lgA,List.foldr_cons,hm];congr 1;omega
theorem iY:∀{c:List Chg} {left:Int},left<0->lgB left c=13
 |[],_,h=>by simp[lgB,h]
 |x::c,_,h=>by rw[lgB,tw]
theorem Y1 {K:Nat} {c:List Chg} (hc:Cok c):∀(r:List Chg) (j k:Nat) (n:Int),c.drop j=r->r.length<k->n<=20000->-1000000000<=n->
 A9.l4 K c k n (j:Int)=some (lgB (20000-n) r)
 | [],j,k+1,n,h,_,h4,_ => by have:=A1 h;rw[A9.l4,tt,lgB,tz]
 | x :: r,j,k+1,n,h,hk,h4,h5 => by
   obtain⟨h1,h2,h3⟩:=A0 h zC;have hl:=hc.1;have hx:=hc.2 x (EX h);rw[A9.l4,tq,iP ⟨by omega,by omega⟩,tN,h2,up1,w64 (n:=20000-n),lgB];by_cases e:(x.2.2.size:Int)>20000-n;·rw[iP (by simpa using e),iP e]
   ·rw[iN (by simpa using e),iN e,w64,Y1 hc r (j+1) k _ h3 (by simpa using hk) (by omega) (by omega)];congr 2;omega
theorem RN (hK:100000<=K) (hs:s.size<=50000) (hc:Cok c):A9 K s c=some (BV s c):=by
 have hl:=hc.1;rw[A9,JJ (by omega) (by omega),oB];unfold BV;cases hv:A4 s with
 |false=>rfl
 | true =>
   rw[uf,iN (show ¬(true=false) by simp)];by_cases h8:8<c.length;·rw[tq];simp[h8]
   ·have hn:((c.length:Nat):Int)*(s.size:Int)<=8*50000:=Int.mul_le_mul (by omega) (by omega) (by omega) (by omega);have ha:=QR (n:=s.size) (by omega) (r:=c);have e0:A9.l0 K c s K 0=_:=XX (K:=K) (s:=s) hl c 0 K rfl (by omega);have e1:A9.l1 K c s K 0=_:=XY (K:=K) hK hs hl c 0 K rfl (by omega);have e2:A9.l2 K c K 0=_:=XZ (K:=K) hK hc c 0 K rfl (by omega);rw[tt,iN h8,e0,oB];cases b0:c.any (bdC s) with
    |true=>rfl
    | false =>
      have e3:A9.l3 K c K s.size 0=_:=Y0 (K:=K) hs hl c 0 K s.size rfl (by omega) b0 (by omega) (by omega);rw[uf,uf,gq,e1,oB];cases b1:c.any (egC s) with
      |true=>rfl
      | false =>
        rw[uf,uf,gq,oG hK hl,oB];cases b2:orC c with
        |true=>rfl
        | false =>
          rw[uf,uf,e2,oB];cases b3:c.any (λx=>!A4 x.2.2) with
          |true=>rfl
          | false =>
            rw[uf,uf,gq,e3,oB];by_cases b4:(s.size:Int)-lgA s.size c>20000;·rw[iP (by simpa using b4),iY (by omega)];rfl
            ·have e4:A9.l4 K c K ((s.size:Int)-lgA s.size c) 0=_:=Y1 (K:=K) hc c 0 K ((s.size:Int)-lgA s.size c) rfl (by omega) (by omega) (by omega);rw[iN (by simpa using b4),e4,show 20000-((s.size:Int)-lgA s.size c)=20000-s.size+lgA s.size c by omega];simp only[f5,if_true];split;·rename_i h;rw[h]
             ·rfl
theorem R7:∀{l:List Chg} {a:Chg},orC (a::l)=false->(∀x∈a::l,x.1<=x.2.1)->∀y∈l,a.2.1<=y.1
 | b :: l,a,h,hb,y,hy => by
   obtain⟨h1,h2⟩:=H7 h;rcases bv.1 hy with rfl|hy;·exact h1
   ·have:=R7 h2 (λx hx=>hb x (mC _ hx)) y hy;have:=hb b (mC _ mS);omega
def cvN (p:Int) (c:List Chg):List Chg:=c.filter λx=>decide (p>=x.1)&&decide (p<x.2.1)
theorem UK {p:Int}:∀{c:List Chg},orC c=false->(∀x∈c,x.1<=x.2.1)->(cvN p c).map (λ_=>(0:Int))=if cvr p c=true then [0] else []
 |[],_,_=>rfl
 | a :: l,h,hb => by
   have ht:orC l=false:=by
    cases l with
    |nil=>rfl
    |cons b l=>exact(H7 h).2
   have ih:=UK (p:=p) ht λx hx=>hb x (mC _ hx);unfold cvN cvr at *;rw[fx,ii];by_cases hq:(decide (p>=a.1)&&decide (p<a.2.1))=true
   ·rw[iP hq,hq,Bool.true_or,iP rfl];have:l.filter (λx=>decide (p>=x.1)&&decide (p<x.2.1))=[]:=by
     rw[ko];intro y hy;have:=R7 h hb y hy;simp only[bq,dE] at hq ⊢;omega
    rw[this];rfl
   ·rw[iN hq,ih];have hq:(decide (p>=a.1)&&decide (p<a.2.1))=false:=by simpa using hq
    rw[hq,mm]
theorem RQ {K:Nat} {c:List Chg} {ps:List Int} {t p:Int} (hc:c.length<=1000) (hp:ps.getD t.toNat 0=p) (ht:t<ps.length):∀(r:List Chg) (j k:Nat) (x:List Int),c.drop j=r->r.length<k->x.length+r.length<=1000000->
 AV.l1 K c ps t k x (j:Int)=some (x++(cvN p r).map λ_=>t)
 | [],j,k+1,x,h,_,_ => by have:=A1 h;rw[AV.l1,tt];simp[cvN]
 | y :: r,j,k+1,x,h,hk,hx => by
   obtain⟨h1,h2,h3⟩:=A0 h zC;simp only[lC] at hx;have hb:t<ps.length/\0<=(j:Int)/\(j:Int)<c.length:=⟨ht,by omega,by omega⟩;rw[AV.l1,tq,tN,h2,hp,up1,RQ hc hp ht r (j+1) k _ h3 (by simpa using hk) (by simp;omega),RQ hc hp ht r (j+1) k _ h3 (by simpa using hk) (by omega)];simp only[iP hb];have e:(if decide (p>=y.1)=true then some (decide (p<y.2.1)) else some false)=some (decide (p>=y.1)&&decide (p<y.2.1)):=by by_cases h:p>=y.1<;>simp[h]
   rw[e,oB];unfold cvN;rw[fx];cases (decide (p>=y.1)&&decide (p<y.2.1)) with
   |true=>rw[iP rfl,tq,iP rfl];simp
   |false=>rfl
theorem RP {K:Nat} {l:List Atm} {u:List Int} {rev:Int} {c:List Chg} {ps:List Int} (hK:100000<=K) (hu:u.length<=50000) (hl:Aok l) (hc:c.length<=1000) (ho:orC c=false) (hb:∀x∈c,x.1<=x.2.1) (hps:ps.length<=30000):∀(r:List Atm) (j k:Nat) (x:List Int) (p:Int),l.drop j=r->ps.drop j=plc rev u p r->r.length<k->x.length+r.length<=100000->
 AV.l0 K l rev u c ps k x (j:Int)=some (x++AR j (ctB rev u c p r))
 | [],j,k+1,x,p,h,_,_,_ => by have:=A1 h;rw[AV.l0,tt];simp[ctB,AR]
 | a :: r,j,k+1,x,p,h,hp,hk,hx => by
   obtain⟨h1,h2,h3⟩:=A0 h zA;have hg:=hl.2 a (EX h);obtain⟨h4,h5,h6⟩:=A0 hp (0:Int);simp only[lC] at hx;have hlen:=hl.1;have e1:AV.l1 K c ps j K x 0=_:=RQ (K:=K) (ps:=ps) (t:=(j:Int)) (p:=p) hc (by rw[tN];exact h5) (by omega) c 0 K x rfl (by omega) (by omega);have e2:(cvN p c).map (λ_=>(j:Int))=if cvr p c=true then [(j:Int)] else []:=by
    have:=congrArg (List.map λ_=>(j:Int)) (UK (p:=p) ho hb);rw[nb] at this;refine Eq.trans ?_ (this.trans ?_);·rfl
    ·split<;>rfl
   rw[AV.l0,tq,tN,h2,JK hK hu (by omega),oB,iP ⟨by omega,by omega⟩,up1,e1,e2];cases hv:vis rev u a with
   | false =>
     rw[iP (by simp),oB,RP hK hu hl hc ho hb hps r (j+1) k x p h3 (by rw[h6,hv];simp) (by simpa using hk) (by omega)];simp[ctB,hv,AR]
   | true =>
     rw[uf,oB,RP hK hu hl hc ho hb hps r (j+1) k _ (p+a.1.size) h3 (by rw[h6,hv];simp) (by simpa using hk) (by split<;>simp<;>omega)];simp only[ctB,hv,if_true,AR];cases cvr p c<;>simp
theorem n9 (hK:100000<=K) (hu:u.length<=50000) (hl:Aok l) (hc:Cok c) (ht:(vtx rev u l).length<=50000) (h0:BV (tP (vtx rev u l)) c=0):AV K l rev u c=some (AR 0 (ctB rev u c 0 l)):=by have hlen:=hl.1;have G:=II h0;rw[AV,LU hK hu hl,oB,RN hK (by rw[AX];exact ht) hc,oB,h0,uf,YZ hK hu hl,oB];have:=RP (K:=K) (rev:=rev) hK hu hl hc.1 G.od (λx hx=>(G.bd x hx).2.1) (ps:=plc rev u 0 l) (by rw[LH];omega) l 0 K [] 0 rfl rfl (by omega) (by simp;omega);simpa using this
theorem Z8 {K:Nat} {l:List Atm} {u:List Int} {rev f t:Int} {c:List Chg} {ps:List Int} (hK:100000<=K) (hu:u.length<=50000) (hl:Aok l) (hps:ps.length<=30000) (ht:0<=t/\t<c.length) (hf:(c.getD t.toNat zC).1=f):∀(r:List Atm) (j k:Nat) (x p:Int),l.drop j=r->ps.drop j=plc rev u p r->r.length<k->
 AH.l1 K l rev u ps t c k x (j:Int)=some (if spA rev u f p r=0 then x else ((j+spA rev u f p r:Nat):Int))
 | [],j,k+1,x,p,h,_,_ => by have:=A1 h;rw[AH.l1,tt];rfl
 | a :: r,j,k+1,x,p,h,hp,hk => by
   obtain⟨h1,h2,h3⟩:=A0 h zA;have hg:=hl.2 a (EX h);obtain⟨h4,h5,h6⟩:=A0 hp (0:Int);have hlen:=hl.1;have ih:=λx=>Z8 (f:=f) hK hu hl hps ht hf r (j+1) k x _ h3 h6 (by simpa using hk);have hj:0<=(j:Int)/\(j:Int)<l.length/\(j:Int)<ps.length/\0<=t/\t<c.length:=⟨by omega,by omega,by omega,ht⟩;have hj2:0<=(j:Int)/\(j:Int)<l.length:=⟨by omega,by omega⟩;rw[AH.l1,tq,tN,h2,h5,hf,JK hK hu (by omega),oB,up1,ih,ih];simp only[iP hj,iP hj2];rw[JR];generalize spA rev u f (if vis rev u a=true then p+(a.1.size:Int) else p) r=n;have e:(if vis rev u a=true then some (decide (p<f)) else some false)=some (decide (p<f)&&vis rev u a):=by cases vis rev u a<;>simp
   rw[e,oB];cases (decide (p<f)&&vis rev u a)<;>by_cases hn:n=0<;>simp[hn]<;>omega
theorem Z9 {K:Nat} {l:List Atm} {rev rank:Int} {out:List Int} (hl:Aok l) (ho:out.length<=100000):∀(r:List Atm) (j k:Nat),l.drop j=r->j<=l.length->r.length<k->AH.l2 K l rev rank out k (j:Int)=some (out++[((j+skp rev rank r:Nat):Int)])
 | [],j,k+1,h,hj,_ => by have:=A1 h;rw[AH.l2,tt,oB,uf,tq];rfl
 | a :: r,j,k+1,h,hj,hk => by
   obtain⟨h1,h2,h3⟩:=A0 h zA;have hlen:=hl.1;have hb:0<=(j:Int)/\(j:Int)<l.length:=⟨by omega,by omega⟩;rw[AH.l2,tq,tN,h2,up1,Z9 hl ho r (j+1) k h3 (by omega) (by simpa using hk),iP (show (out.length+[(j:Int)].length)*8<=140737488355328 by simp;omega)];simp only[iP hb];by_cases e1:a.2.1>rev
   ·by_cases e2:a.2.2.2.1<=rank
    ·rw[iP (by simpa using e1),oB,iP (by simpa using e2)];simp only[skp,jv,decide_eq_true e1,decide_eq_true e2];simp;omega
    ·rw[iP (by simpa using e1),oB,iN (by simpa using e2)];simp only[skp,jv,decide_eq_false e2];simp
   ·rw[iN (by simpa using e1),oB,uf];simp only[skp,jv,decide_eq_false e1];simp
theorem ZA {K:Nat} {l:List Atm} {u:List Int} {rev rank:Int} {c:List Chg} (hK:100000<=K) (hu:u.length<=50000) (hl:Aok l) (hc:c.length<=1000):∀(r:List Chg) (j k:Nat) (x:List Int),c.drop j=r->r.length<k->x.length+r.length<=100000->
 AH.l0 K c l rev u (plc rev u 0 l) rank k x (j:Int)=some (x++r.map λy=>((spt rev u rank y.1 l:Nat):Int))
 | [],j,k+1,x,h,_,_ => by have:=A1 h;rw[AH.l0,tt];simp
 | y :: r,j,k+1,x,h,hk,hx => by
   obtain⟨h1,h2,h3⟩:=A0 h zC;have hlen:=hl.1;simp only[lC] at hx;have e:AH.l1 K l rev u (plc rev u 0 l) j c K 0 0=_:=Z8 (K:=K) (rev:=rev) (f:=y.1) (t:=(j:Int)) (c:=c) hK hu hl (ps:=plc rev u 0 l) (by rw[LH];omega) ⟨by omega,by omega⟩ (by rw[tN,h2]) l 0 K 0 0 rfl rfl (by omega);have hle:=OL (rev:=rev) (u:=u) (f:=y.1) (l:=l) (p:=0);have e2:(if spA rev u y.1 0 l=0 then (0:Int) else ((0+spA rev u y.1 0 l:Nat):Int))=((spA rev u y.1 0 l:Nat):Int):=by split<;>omega
   rw[AH.l0,tq,e,oB,e2,Z9 hl (by omega) _ _ K rfl hle (by simp;omega),oB,up1,ZA hK hu hl hc r (j+1) k _ h3 (by simpa using hk) (by simp;omega),aA];rfl
theorem oN {rank:Int} (hK:100000<=K) (hu:u.length<=50000) (hl:Aok l) (hc:Cok c) (ht:(vtx rev u l).length<=50000) (h0:BV (tP (vtx rev u l)) c=0):AH K l rev u c rank=some (c.map λy=>((spt rev u rank y.1 l:Nat):Int)):=by have hlen:=hl.1;have hcl:=hc.1;rw[AH,LU hK hu hl,oB,RN hK (by rw[AX];exact ht) hc,oB,h0,uf,YZ hK hu hl,oB];have:=ZA (K:=K) (rev:=rev) (rank:=rank) hK hu hl hc.1 c 0 K [] rfl (by omega) (by simp;omega);simpa using this
theorem MQ {c:Nat} (hc:c<=1114111/\¬(55296<=c/\c<57344)):tR (gi (c:Int))=if c<128 then [(c:Int)] else if c<2048 then [((192+c/64:Nat):Int),((128+c%64:Nat):Int)] else if c<65536 then [((224+c/4096:Nat):Int),((128+c/64%64:Nat):Int),((128+c%64:Nat):Int)] else [((240+c/262144:Nat):Int),((128+c/4096%64:Nat):Int),((128+c/64%64:Nat):Int),((128+c%64:Nat):Int)]:=by
 have hv:kr (c:Int)=true:=by unfold kr;simp only[fl,bq,dE];omega
 have b:∀n:Nat,n<256->((cw n).toNat:Int)=n:=λn hn=>by rw[pz];omega
 unfold gi;simp only[hv,if_true,tN];repeat' split
 ·rw[show tR ⟨#[cw c]⟩=[((cw c).toNat:Int)] from rfl,b _ (by omega)]
 ·rw[show tR ⟨#[cw (192+c/64),cw (128+c%64)]⟩=[((cw (192+c/64)).toNat:Int),((cw (128+c%64)).toNat:Int)] from rfl,b _ (by omega),b _ (by omega)]
 ·rw[show tR ⟨#[cw (224+c/4096),cw (128+c/64%64),cw (128+c%64)]⟩=[((cw (224+c/4096)).toNat:Int),((cw (128+c/64%64)).toNat:Int),((cw (128+c%64)).toNat:Int)] from rfl,b _ (by omega),b _ (by omega),b _ (by omega)]
 ·rw[show tR ⟨#[cw (240+c/262144),cw (128+c/4096%64),cw (128+c/64%64),cw (128+c%64)]⟩=[((cw (240+c/262144)).toNat:Int),((cw (128+c/4096%64)).toNat:Int),((cw (128+c/64%64)).toNat:Int),((cw (128+c%64)).toNat:Int)] from rfl,b _ (by omega),b _ (by omega),b _ (by omega),b _ (by omega)]
theorem dZ {n t b0 b1 b2 b3 c z:Nat} (h0:b0<256) (h:dcd n t b0 b1 b2 b3=(c,z)) (hz:(gi (c:Int)).size=z):tR (gi (c:Int))=[(b0:Int),b1,b2,b3].take z:=by
 have bad:¬(65533,1)=(c,z):=λe=>by obtain⟨rfl,rfl⟩:=zz e;rw[KM (by omega),tz,tz,tw] at hz;omega
 unfold dcd at h;have hv:∀c:Nat,kr (c:Int)=true->c<=1114111/\¬(55296<=c/\c<57344):=λc h=>by unfold kr at h;simp only[fl,bq,dE] at h;omega
 repeat' split at h
 all_goals first|exact absurd h bad|skip
 all_goals
  rename_i g;obtain⟨rfl,rfl⟩:=zz h;simp only[bq,dE,beq_iff_eq] at *
 ·rw[MQ (by omega),tw];rfl
 ·rw[MQ (by omega),tz,tw];simp only[cu,ia,and_true];omega
 ·have:=hv _ g.2;rw[MQ this,tz,tz,tw];simp only[cu,ia,and_true];omega
 ·have:=hv _ g.2;rw[MQ this,tz,tz,tz];simp only[cu,ia,and_true];omega
theorem qS {L:List Int} {d:Int}:∀{z t:Nat},z<=4->t+z<=L.length->(L.drop t).take z=[L.getD t d,L.getD (t+1) d,L.getD (t+2) d,L.getD (t+3) d].take z:=by
 intro z t hz h;apply List.ext_getElem;·simp;omega
 ·intro i h1 h2;simp at h1;rw[mi,mi,List.getElem_drop];have:i=0\/i=1\/i=2\/i=3:=by omega
  rcases this with rfl|rfl|rfl|rfl<;>simp[bu]<;>rw[bj (by omega)]<;>rfl
theorem eF {t:Nat} (ht:t<s.size) (hz:usz s t≠0):(gj s t).2=(usz s t).toNat/\gi (((gj s t).1:Nat):Int)=s.extract t (t+(usz s t).toNat):=by
 obtain⟨c,z,h1,h2,h3,_⟩:=KC ht hz;have hu:=CK (s:=s) (a:=(t:Int));have hu3:=hu.2.2 (by omega) (by omega);rw[h2] at hu hu3;rw[h1,h2,tN];refine⟨rfl,P6 ?_⟩;rw[UN] at h1;rw[dZ VJ h1 h3,IH,show t+z-t=z by omega,qS (d:=0) (by omega) (by rw[CB];omega),<-E5,<-E5,<-E5,<-E5];have e:∀i:Nat,bt s (i:Int)=(tR s).getD i 0:=λi=>by
  by_cases h:i<s.size;·rw[bu,P5 h];rfl
  ·rw[E5,bu,List.getElem?_eq_none (by rw[CB];omega)];show (((s.data[i]!).toNat:Nat):Int)=0;rw[getElem!_neg s.data i h];rfl
 rw[e,e,e,e]
theorem XI {s:ByteArray} {w g r:Int}:∀{d m t:Nat},AA s m t=true->d<=m->s.size<=t+d->(EG s d t).map (λx=>(x,w,g,r,([]:List (Int×Int))))=ptL s w g r d t
 |0,_,_,_,_,_=>rfl
 | d+1,m,t,hv,hm,hs => by
   obtain⟨m,rfl⟩:=ug (k:=m);rw[EG,ptL];by_cases h:t<s.size
   ·rw[AA,iP (show (t:Int)<s.size by omega)] at hv;have hz:usz s t≠0:=λe=>by rw[iP e] at hv;cases hv
    rw[iN hz] at hv;have hu:=CK (s:=s) (a:=(t:Int));rw[show (t:Int)+usz s t=((t+(usz s t).toNat:Nat):Int) by omega] at hv;obtain⟨e1,e2⟩:=eF h hz;rw[iP h,iP h,e1,e2,dj,XI hv (by omega) (by omega)]
   ·rw[iN h,iN h];rfl
theorem mM {g r:Int} (hv:A4 s=true):(EG s s.size 0).map (λx=>(x,w,g,r,([]:List (Int×Int))))=DE s w g r:=XI hv (bp _) (by omega)
theorem Y3 {K:Nat} {l:List Atm} (hl:l.length<=400000) (hc:∀a∈l,a.2.2.2.2.length<=100000):∀(r:List Atm) (j k:Nat) (x:List Atm),l.drop j=r->r.length<k->x.length+r.length<=400000->DP.l0 K l k x (j:Int)=some (x++r)
 | [],j,k+1,x,h,_,_ => by have:=A1 h;rw[DP.l0,tt,cm]
 | a :: r,j,k+1,x,h,hk,hx => by obtain⟨h1,h2,h3⟩:=A0 h zA;have ha:=hc a (EX h);simp only[lC] at hx;rw[DP.l0,tq,tN,h2,iP ⟨by omega,by omega,by omega⟩,tw,up1,Y3 hl hc r (j+1) k _ h3 (by simpa using hk) (by simp;omega),aA];rfl
theorem RO (hK:500000<=K) (hl:l.length<=400000) (hc:∀a∈l,a.2.2.2.2.length<=100000):DP K l=some l:=
 Y3 hl hc l 0 K [] rfl (by omega) (by simpa using hl)
theorem XT {K:Nat} {ps:List ByteArray} {l:List Atm} {w g q s:Int} {n:Nat} (hs:s=n) (hn:n<=l.length) (hl:l.length<=400000) (hp:ps.length<=100000):∀(r:List ByteArray) (j k:Nat) (x:List Atm),ps.drop j=r->r.length<k->x.length+r.length<=600000->
 DQ.l0 K ps w g q l s k x (j:Int)=some (x++(r.map (λy=>(y,w,g,q,([]:List (Int×Int))))++l.drop n))
 | [],j,k+1,x,h,_,hx => by
   have:=A1 h;have e:bc (mx2 0 (mn2 s (l.length:Nat)))=n:=by rw[I1,IZ];omega
   rw[DQ.l0,tt,e,fj (by rw[cq];omega),iP (by rw[cq];omega)];rfl
 | y :: r,j,k+1,x,h,hk,hx => by obtain⟨h1,h2,h3⟩:=A0 h cc;simp only[lC] at hx;rw[DQ.l0,tq,tN,h2,iP ⟨by omega,by omega,by simp only[ck];omega⟩,up1,XT hs hn hl hp r (j+1) k _ h3 (by simpa using hk) (by simp;omega),aA];rfl
theorem oJ {g:Int} {n:Nat} (hK:500000<=K) (hl:l.length<=400000) (hc:∀a∈l,a.2.2.2.2.length<=100000) (hn:n<=l.length) (ht:t.size<=30000) (hv:A4 t=true) :
 DQ K l n t w g q=some (l.take n++(DE t w g q++l.drop n)):=by
 have e:mx2 0 (mn2 (n:Int) (l.length:Nat))=n:=by rw[I1,IZ];omega
 have hp:=XH (s:=t) (d:=t.size) (t:=0);have e2:DQ.l0 K (EG t t.size 0) w g q l n K (l.take n) 0=_:=XT (K:=K) (ps:=EG t t.size 0) (w:=w) (g:=g) (q:=q) rfl hn hl (by omega) (EG t t.size 0) 0 K (l.take n) rfl (by omega) (by rw[co];omega);rw[DQ,RO hK hl hc,oB,mL (by omega) (by omega) hv,oB,e,tN,ic,nc,iP ⟨by omega,by omega,by rw[co];omega⟩,e2,mM hv]
theorem SD {K:Nat} {ts:List Int} {w g:Int} {n:Nat} (hts:ts.length<=50000) (hn:n<=50000):∀(bs:List Bool) (r pre:List Atm) (i j k:Nat),ts.drop j=AR i bs->pre.length=i->bs.length=r.length->i+r.length=n->(AR i bs).length<k->(∀a∈r,a.2.2.2.2.length<=1000)->
 AW.l0 K ts w g k (pre++r) (j:Int)=some (pre++ctA (w,g) bs r)
 | [],[],pre,i,j,k,h,_,_,_,hk,_ => by obtain⟨k,rfl⟩:=ug (k:=k);have:=A1 h;rw[AW.l0,tt];rfl
 |[],a::r,pre,i,j,k,h,_,hl,_,hk,_=>by simp at hl
 |b::bs,[],pre,i,j,k,h,_,hl,_,hk,_=>by simp at hl
 | false :: bs,a :: r,pre,i,j,k,h,hp,hl,hi,hk,ha => by simp only[AR,iq,if_false,lC] at *;have:=SD (K:=K) (w:=w) (g:=g) hts hn bs r (pre++[a]) (i+1) j k h (by simp[hp]) (by omega) (by omega) hk (λx hx=>ha x (mC _ hx));rw[aA,aA] at this;exact this
 | true :: bs,a :: r,pre,i,j,k,h,hp,hl,hi,hk,ha => by
   simp only[AR,if_true,lC] at *;obtain⟨k,rfl⟩:=ug (k:=k);obtain⟨h1,h2,h3⟩:=A0 h (0:Int);have hga:(pre++a::r).getD i zA=a:=by rw[bu,List.getElem?_append_right (by omega),hp,nf];rfl
   have hca:=ha a mS;have es:uZ (pre++a::r) i (a.2.2.2.2++[(w,g)])=(pre++[DZ a (w,g)])++r:=by unfold uZ;rw[hga,List.set_append_right _ _ (by omega),hp,nf];simp[DZ]
   have:=SD (K:=K) (w:=w) (g:=g) hts hn bs r (pre++[DZ a (w,g)]) (i+1) (j+1) k h3 (by simp[hp]) (by omega) (by omega) (by omega) (λx hx=>ha x (mC _ hx));rw[AW.l0,tq,tN,h2,tN,hga,iP ⟨by omega,by omega,by omega,by simp;omega,by simp;omega,by simp;omega,rfl⟩,up1,es,this,aA];rfl
theorem qB {p q:Nat} {r:List (Nat×List Atm)} (h:p<=q) (hr:∀y,r.head? =some y->q<=y.1):spl old p r=(old.drop p).take (q-p)++spl old q r:=by
 cases r with
 | nil =>
   have e:old.drop q=(old.drop p).drop (q-p):=by rw[lq];congr 1;omega
   rw[spl,spl,e,dm]
 | cons y r =>
   have:=hr y rfl;have e:old.drop q=(old.drop p).drop (q-p):=by rw[lq];congr 1;omega
   have e2:y.1-p=(q-p)+(y.1-q):=by omega
   rw[spl,spl,<-aA ((old.drop p).take (q-p)),e,e2,List.take_add]
theorem aL {old:List Atm} {n:Nat}:∀{r:List (Nat×List Atm)} {p:Nat},(∀y∈r,p<=y.1/\y.1<=old.length/\y.2.length<=n)->r.Pairwise (λa b=>a.1<=b.1)->(spl old p r).length+p<=max p old.length+r.length*n
 |[],p,_,_=>by simp[spl];omega
 | y :: r,p,h,hp => by have hy:=h y mS;obtain⟨h1,h2⟩:=dz.1 hp;have:=aL (n:=n) (r:=r) (p:=y.1) (λz hz=>⟨h1 z hz,(h z (mC _ hz)).2⟩) h2;rw[spl,lA,lA,co,cq,lC,ey];omega
theorem X1:∀{c:List Chg} {j:Nat},orC c=false->orC (c.drop j)=false
 |[],_,_=>by simp[orC]
 |_::_,0,h=>h
 |[a],j+1,_=>by simp[orC]
 |a::b::l,j+1,h=>X1 (c:=b::l) (j:=j) (H7 h).2
theorem aQ {rev rank:Int} {u:List Int} {l:List Atm}:∀{c:List Chg},orC c=false->(∀x∈c,x.1<=x.2.1)->c.Pairwise λa b=>spt rev u rank a.1 l<=spt rev u rank b.1 l
 |[],_,_=> .nil
 | a :: c,h,hb => by
   refine dz.2 ⟨λb hm=>?_,aQ (by
    cases c with
    |nil=>rfl
    |cons b c=>exact(H7 h).2) λx hx=>hb x (mC _ hx)⟩
   have:=R7 h hb b hm;have:=hb a mS;exact SO (by omega)
theorem ZK {K:Nat} {l old:List Atm} {u:List Int} {rev rank w g:Int} {c:List Chg} (hK:500000<=K) (hl:l.length<=20000) (ho:old.length=l.length) (hoc:∀a∈old,a.2.2.2.2.length<=2000) (hc:c.length<=8) (hv:∀x∈c,A4 x.2.2=true) (hz:∀x∈c,x.2.2.size<=30000) (hb:∀x∈c,x.1<=x.2.1) (hod:orC c=false) :
 ∀(j k:Nat),j<=c.length->j<k->
 AW.l1 K (c.map λy=>((spt rev u rank y.1 l:Nat):Int)) c w g rank k (spl old 0 ((c.drop j).map λy=>(spt rev u rank y.1 l,DE y.2.2 w g rank))) ((j:Int)-1)=some (spl old 0 (c.map λy=>(spt rev u rank y.1 l,DE y.2.2 w g rank)))
 | 0,k+1,_,_ => by rw[AW.l1,uf];rfl
 | j+1,k+1,hj,hk => by
   obtain⟨y,hy⟩:∃y,c.drop j=y::c.drop (j+1):=⟨c[j],ij (by omega)⟩;obtain⟨h1,h2,h3⟩:=A0 hy zC;have hm:=EX hy;have hle:=SN (rev:=rev) (u:=u) (rank:=rank) (f:=y.1) (l:=l);have hg:(c.map λy=>((spt rev u rank y.1 l:Nat):Int)).getD j 0=((spt rev u rank y.1 l:Nat):Int):=by
    rw[bu,List.getElem?_map];have:c[j]? =some y:=by rw[<-h2,bu,bj h1];rfl
    rw[this];rfl
   have inc:=aQ (rev:=rev) (rank:=rank) (u:=u) (l:=l) (c:=c.drop j) (X1 hod) λx hx=>hb x (mD hx);rw[hy] at inc;obtain⟨i1,i2⟩:=dz.1 inc;have hzy:=hz y hm;have hpl:∀x:Chg,(DE x.2.2 w g rank).length<=x.2.2.size:=λx=>O2 (s:=x.2.2) (w:=w) (g:=g) (r:=rank) (m:=x.2.2.size) (t:=0);have L:=aL (old:=old) (n:=30000) (p:=0) (r:=(c.drop (j+1)).map λy=>(spt rev u rank y.1 l,DE y.2.2 w g rank)) (λz hzm=>by obtain⟨x,hx,rfl⟩:=cj.1 hzm;have hx:=mD hx;have:=hz x hx;have:=hpl x;exact⟨by omega,by rw[ho];exact SN,by show (DE x.2.2 w g rank).length<=30000;omega⟩) (ku.2 i2)
   rw[du,cq] at L;have e:(c.length-(j+1))*30000<=8*30000:=dl _ (by omega);have hcut:∀a∈spl old 0 ((c.drop (j+1)).map λy=>(spt rev u rank y.1 l,DE y.2.2 w g rank)),a.2.2.2.2.length<=100000:=λa ha=>by
    rcases NH ha with h|⟨q,hq,h⟩;·have:=hoc a h;omega
    ·obtain⟨x,hx,rfl⟩:=cj.1 hq;have:=(O3 (hv x (mD hx)) a h).2.2;rw[this];simp
   have sa:=qB (old:=old) (p:=0) (q:=spt rev u rank y.1 l) (r:=(c.drop (j+1)).map λy=>(spt rev u rank y.1 l,DE y.2.2 w g rank)) (by omega) λz hz=>by
    cases hd:c.drop (j+1) with
    |nil=>rw[hd] at hz;cases hz
    | cons x r =>
      rw[hd] at hz;obtain rfl:=fg hz;exact i1 x (by rw[hd];exact mS)
   rw[ic,nc] at sa;have tl:(old.take (spt rev u rank y.1 l)).length=spt rev u rank y.1 l:=by rw[co];omega
   have P:=oJ (K:=K) (t:=y.2.2) (w:=w) (g:=g) (q:=rank) (n:=spt rev u rank y.1 l) hK (by omega) hcut (by rw[sa,lA];omega) hzy (hv y hm);have ih:=ZK (w:=w) (g:=g) hK hl ho hoc hc hv hz hb hod (u:=u) (rev:=rev) (rank:=rank) j k (by omega) (by omega);rw[AW.l1,iP (decide_eq_true (by omega)),show ((j+1:Nat):Int)-1=(j:Int) by omega,tN,hg,h2,P,oB,iP ⟨by omega,by simp;omega,by omega⟩,w64];refine Eq.trans ?_ ih;congr 1;rw[sa,wi tl,wj tl,hy,dj,spl,ic,nc]
theorem oT {rank g:Int} (hK:500000<=K) (hu:u.length<=50000) (hl:Aok l) (hc:Cok c) (ht:(vtx rev u l).length<=50000) (h0:BV (tP (vtx rev u l)) c=0):AW K l rev u c w g rank=some (upS rev u c w g rank l):=by
 have hlen:=hl.1;have G:=II h0;have hbl:=PG (rev:=rev) (u:=u) (c:=c) (l:=l) (p:=0);have htl:=T5 (bs:=ctB rev u c 0 l) (i:=0);have e0:AW.l0 K (AR 0 (ctB rev u c 0 l)) w g K l 0=_:=SD (K:=K) (ts:=AR 0 (ctB rev u c 0 l)) (w:=w) (g:=g) (n:=l.length) (by omega) (by omega) (ctB rev u c 0 l) l [] 0 0 K rfl rfl hbl (by omega) (by omega) (λa ha=>(hl.2 a ha).2);have e1:=ZK (K:=K) (l:=l) (old:=ctA (w,g) (ctB rev u c 0 l) l) (u:=u) (rev:=rev) (rank:=rank) (w:=w) (g:=g) (c:=c) hK hlen PF (λa ha=>by
  obtain⟨b,hb,h⟩:=NF ha;have:=(hl.2 b hb).2;rcases h with rfl|rfl;·omega
  ·simp[DZ];omega) G.len G.vt hc.2 (λx hx=>(G.bd x hx).2.1) G.od c.length K (bp _) (by have:=G.len;omega)
 have e2:spl (ctA (w,g) (ctB rev u c 0 l) l) 0 ((c.drop c.length).map λy=>(spt rev u rank y.1 l,DE y.2.2 w g rank))=ctA (w,g) (ctB rev u c 0 l) l:=by rw[qv];rfl
 rw[e2] at e1;rw[AW,n9 (by omega) hu hl hc ht h0,oB,oN (by omega) hu hl hc ht h0,oB,RO hK (by omega) (λa ha=>by have:=(hl.2 a ha).2;omega),oB,e0,oB,cd,du,w64 (by have:=G.len;omega) (by have:=G.len;omega)];exact e1
structure Rr (us:List (List Int)) (f:Int) (g o:List Int) (bs:List Bool) (U:List (List Int)):Prop where
 ul:(U.length:Int)=hdR us f+1
 dr:U.drop f.toNat=us
 bl:bs.length=120
 hs:∀x:Nat,x<60->(bs.getD x false&&!bs.getD (60+x) false)=g.contains (x:Int)
 gn:∀x:Nat,x<60->bs.getD (60+x) false=o.contains (x:Int)
theorem Rr.at {bs:List Bool} (R:Rr us f g o bs U) (h0:0<=f) {r:Int} (h:f<=r):U.getD r.toNat []=us.getD (r-f).toNat []:=by rw[<-R.dr,bu,bu,ft];congr 2;omega
theorem Rr.last {bs:List Bool} (R:Rr us f g o bs U) (h:Rok us f g o):U.getD (hdR us f).toNat []=lsR us:=by have:=h.ne;have:=h.lo;rw[R.at h.lo (by unfold hdR;omega),lsR];congr 1;unfold hdR;omega
theorem OD {r:Int} {bs:List Bool}:FY K (hdR us f) f bs U r=some (lvR us f r):=by
 unfold FY lvR;by_cases h1:f<=r;·rw[iP (by simpa using h1),decide_eq_true h1,dq]
 ·rw[iN (by simpa using h1),decide_eq_false h1,ec]
theorem I8 {r:Int} {bs:List Bool} (R:Rr us f g o bs U) (h:Rok us f g o):EB K (hdR us f) f bs U r=some (unR us f r):=by
 rw[EB,OD,oB];unfold unR;cases hl:lvR us f r with
 |false=>rfl
 | true =>
   simp only[lvR,bq,dE] at hl;have:=R.ul;have:=h.lo;rw[uf,iP ⟨by omega,by omega⟩,iP rfl,R.at h.lo hl.1]
theorem ZC:J8 K x=some (decide (0<=x)&&decide (x<60)):=by
 unfold J8;by_cases h:0<=x;·rw[iP (by simpa using h),decide_eq_true h,dq]
 ·rw[iN (by simpa using h),decide_eq_false h,ec]
theorem YU {bs:List Bool} {l:List Int} (R:(U.length:Int)=hdR us f+1) (hi:hdR us f<=200) (h:Rok us f g o):HB K (hdR us f) f bs U l=some (hdR us f+1,U++[l]):=by
 have:=h.lo;have:=h.ne;have e:0<=hdR us f:=by unfold hdR;omega
 rw[HB,iP (by simp only[ck];omega),w64]
theorem KS {bs:List Bool} {v:Bool} (h:i<bs.length):(bs.set i v).getD j false=if i=j then v else bs.getD j false:=by
 rw[bu,bu,List.getElem?_set];by_cases e:i=j;·rw[iP e,iP e,iP h];rfl
 ·rw[iN e,iN e]
theorem mV {bs:List Bool} (R:Rr us f g o bs U) (hi:hdR us f<=200) (h:Rok us f g o) :
 L9 K (hdR us f) f bs U x=some (if (adR us f g o x).2.1=0 then (hdR us f+1,0,hdR us f+1,bs.set x.toNat true,U++[lsR us]) else (0,(adR us f g o x).2.1,hdR us f,bs,U)):=by
 have hu:=R.ul;have:=h.lo;have:=h.ne;have e:0<=hdR us f:=by unfold hdR;omega
 rw[L9,ZC,oB];by_cases hx:0<=x/\x<60
 ·have hg:=R.gn x.toNat (by omega);have ei:62+x.toNat*1-2=60+x.toNat:=by omega
  have ei2:2+x.toNat*1-2=x.toNat:=by omega
  rw[show ((x.toNat:Nat):Int)=x by omega] at hg;rw[tt,iP ⟨hx.1,by omega,by omega,by omega⟩,ei,ei2,hg,oB];cases ho:o.contains x with
  | true =>
    have a:adR us f g o x=(0,210,us,g):=iP (.inl ho);rw[a,iP rfl];rfl
  | false =>
    have ho:¬(o.contains x=true\/x<0\/60<=x):=by rw[ho];simp;omega
    rw[uf];by_cases h2:200<=hdR us f
    ·have a:adR us f g o x=(0,70,us,g):=(iN ho).trans (iP h2);rw[a,iP (show (hdR us f==200)=true by rw[beq_iff_eq];omega)];rfl
    ·have a:adR us f g o x=(hdR us f+1,0,us++[lsR us],tZ x g):=(iN ho).trans (iN h2);rw[a,iN (show ¬(hdR us f==200)=true by rw[beq_iff_eq];omega),iP ⟨hx.1,by omega,by omega,by omega⟩,R.last h,YU hu hi h,oB,iP ⟨e,by omega⟩,w64];rfl
 ·have a:adR us f g o x=(0,210,us,g):=iP (by omega);rw[a,tq];rfl
theorem Rr.app {bs:List Bool} {l:List Int} (R:Rr us f g o bs U) (h0:0<us.length) (h1:0<=f):Rr (us++[l]) f g o bs (U++[l]):=by
 have hu:=R.ul;refine⟨?_,?_,R.bl,R.hs,R.gn⟩;·unfold hdR at *;simp;omega
 ·unfold hdR at hu;rw[List.drop_append_of_le_length (by omega),R.dr]
theorem Rr.add {bs:List Bool} (R:Rr us f g o bs U) (h0:0<=x/\x<60) (ho:o.contains x=false):Rr us f (tZ x g) o (bs.set x.toNat true) U:=by
 have hb:=R.bl;refine⟨R.ul,R.dr,by rw[iw];exact hb,λy hy=>?_,λy hy=>?_⟩
 ·rw[KS (by omega),KS (by omega),iN (show ¬x.toNat=60+y by omega)];by_cases e:x.toNat=y
  ·have:(y:Int)=x:=by omega
   rw[iP e,R.gn y hy,this,ho];have:(tZ x g).contains x=true:=by rw[fi];exact vS.2 (.inl rfl)
   rw[this];rfl
  ·rw[iN e,R.hs y hy,jj,fi,fi,vS];exact⟨.inr,λh=>h.elim (λh=>by omega) id⟩
 ·rw[KS (by omega),tz,R.gn y hy]
theorem YM {bs:List Bool} (R:Rr us f g o bs U) (hg:∀y∈g,0<=y/\y<60):J6 K (hdR us f) f bs U x=some (g.contains x):=by
 rw[J6,ZC,oB];by_cases hx:0<=x/\x<60
 ·have h1:=R.hs x.toNat (by omega);have ei:62+x.toNat*1-2=60+x.toNat:=by omega
  have ei2:2+x.toNat*1-2=x.toNat:=by omega
  rw[show ((x.toNat:Nat):Int)=x by omega] at h1;rw[tq,ei,ei2,<-h1];cases bs.getD x.toNat false with
  |true=>rw[iP rfl,iP ⟨hx.1,by omega,by omega,by omega,by omega,by omega⟩];rfl
  |false=>rw[uf,iP ⟨hx.1,by omega,by omega,by omega⟩];rfl
 ·rw[tt];congr 1;symm;rw[Bool.eq_false_iff,ne_eq,fi];exact λh=>hx (hg x h)
theorem OR {K:Nat} {l:List Int} {x:Int} (hl:l.length<=1000):∀(r:List Int) (j k:Nat) (out:List Int),l.drop j=r->r.length<k->out.length+r.length<=20000->BI.l0 K l x k out false (j:Int)=some (out++uQ x r,false)
 | [],j,k+1,out,h,_,_ => by have:=A1 h;rw[BI.l0,tt,show uQ x []=[] from rfl,cm]
 | y :: r,j,k+1,out,h,hk,ho => by
   obtain⟨h1,h2,h3⟩:=A0 h (0:Int);simp only[lC] at ho;rw[BI.l0,tq,uf,oB,uf,oB,iP ⟨by omega,by omega⟩,tN,h2,up1,uQ,fx];by_cases e:y=x
   ·rw[iN (by simp[e]),iN (by simp[e])];exact OR hl r (j+1) k out h3 (by simpa using hk) (by omega)
   ·rw[iP (by simp[e]),iP (by simp only[ck];omega),iP (by simp[e]),OR hl r (j+1) k _ h3 (by simpa using hk) (by simp;omega),aA];rfl
theorem bK {K:Nat} {l:List Int} {x:Int} (hl:l.length<=1000):∀(r:List Int) (j k:Nat) (out:List Int),l.drop j=r->r.length<k->out.length+r.length<=10000->r.Pairwise (·< ·)->x∉r->
 ∃o p,BI.l0 K l x k out true (j:Int)=some (o,p)/\o.length<=out.length+r.length+1/\(if p=true then o++[x] else o)=out++tZ x r
 | [],j,k+1,out,h,_,_,_,_ => by have:=A1 h;exact⟨out,true,by rw[BI.l0,tt],by simp,rfl⟩
 | y :: r,j,k+1,out,h,hk,ho,hp,hx => by
   obtain⟨h1,h2,h3⟩:=A0 h (0:Int);obtain⟨p1,p2⟩:=dz.1 hp;simp only[lC] at ho;have hy:y≠x:=λe=>hx (e▸mS);have hr:x∉r:=λe=>hx (mC _ e);have hb:0<=(j:Int)/\(j:Int)<l.length:=⟨by omega,by omega⟩;have key:BI.l0 K l x (k+1) out true (j:Int)=if x<y then BI.l0 K l x k (out++[x]++[y]) false ((j+1:Nat):Int) else BI.l0 K l x k (out++[y]) true ((j+1:Nat):Int):=by
    rw[BI.l0,tq,iP rfl,iP hb,tN,h2,oB,up1];by_cases e:x<y;·rw[iP (by simpa using e),iP (by simp only[ck];omega),oB,iP hb,iP (by simp[hy]),tq,iP e]
    ·rw[iN (by simpa using e),oB,iP hb,iP (by simp[hy]),tq,iN e]
   rw[key];by_cases e:x<y
   ·have d:uQ x r=r:=ir.2 λz hz=>by
     have:z≠x:=λe=>hr (e▸hz);simpa using this
    have i1:(y::r).filter (λz=>decide (z<x))=[]:=ko.2 λz hz=>by
     rcases bv.1 hz with rfl|hz;·simp;omega
     ·have:=p1 z hz;simp;omega
    have i2:(y::r).filter (λz=>decide (x<z))=y::r:=ir.2 λz hz=>by
     rcases bv.1 hz with rfl|hz;·simpa using e
     ·have:=p1 z hz;simp;omega
    rw[iP e,OR hl r (j+1) k _ h3 (by simpa using hk) (by simp;omega),d];refine⟨_,false,rfl,by simp;omega,?_⟩;rw[uf,tZ,i1,i2];simp
   ·obtain⟨o,p,q1,q2,q3⟩:=bK hl r (j+1) k (out++[y]) h3 (by simpa using hk) (by simp;omega) p2 hr;refine⟨o,p,by rw[iN e];exact q1,by simp at q2 ⊢;omega,?_⟩;rw[q3,tZ,tZ,fx,fx,iP (show decide (y<x)=true by simp;omega),iN (show ¬decide (x<y)=true by simp;omega)];simp
theorem oR {l:List Int} (hK:100000<=K) (hl:l.length<=1000) (hp:l.Pairwise (·< ·)):BI K l x=some (tgS x l):=by
 rw[BI,GZ hK (by omega),oB];unfold tgS;cases hc:l.contains x with
 | true =>
   have e:BI.l0 K l x K [] false 0=_:=OR (K:=K) (x:=x) hl l 0 K [] rfl (by omega) (by simp;omega);rw[iP rfl];exact(congrArg (λq=>Aa q _) e).trans rfl
 | false =>
   obtain⟨o,p,q1,q2,q3⟩:=bK (K:=K) (x:=x) hl l 0 K [] rfl (by omega) (by simp;omega) hp (by simpa using hc);have q1:BI.l0 K l x K [] true 0=_:=q1;rw[uf];refine(congrArg (λq=>Aa q _) q1).trans ?_;simp at q2;cases p with
   | true =>
     rw[oB,iP rfl,iP (by simp only[ck];omega)];exact congrArg some q3
   |false=>exact congrArg some q3
theorem oQ {bs:List Bool} (hK:100000<=K) (R:Rr us f g o bs U) (hi:hdR us f<=200) (h:Rok us f g o) (hg:∀y∈g,0<=y/\y<60) (hp:(lsR us).Pairwise (·< ·)) :
 LC K (hdR us f) f bs U x=some (if (tgR us f g x).2.1=0 then (hdR us f+1,0,hdR us f+1,U++[tgS x (lsR us)]) else (0,(tgR us f g x).2.1,hdR us f,U)):=by
 have hu:=R.ul;have:=h.lo;have:=h.ne;have e:0<=hdR us f:=by unfold hdR;omega
 have hll:=KW h;rw[LC,YM R hg,oB];cases hx:g.contains x with
 | false =>
   have a:tgR us f g x=(0,210,us):=iN (by rw[hx];simp);rw[a];rfl
 | true =>
   rw[uf];by_cases h2:200<=hdR us f
   ·have a:tgR us f g x=(0,70,us):=(iP hx).trans (iP h2);rw[a,iP (show (hdR us f==200)=true by rw[beq_iff_eq];omega)];rfl
   ·have a:tgR us f g x=(hdR us f+1,0,us++[tgS x (lsR us)]):=(iP hx).trans (iN h2);rw[a,iN (show ¬(hdR us f==200)=true by rw[beq_iff_eq];omega),R.last h,oR hK (by omega) hp,oB,YU hu hi h,oB,iP ⟨e,by omega⟩,w64];rfl
theorem YJ {K:Nat} {us:List (List Int)} {f:Int} {g o gs:List Int} {bs:List Bool} {U:List (List Int)} (hK:100000<=K) (R:Rr us f g o bs U) (hg:∀y∈g,0<=y/\y<60) (hl:gs.length<=1000):∀(r:List Int) (j k:Nat) (seen:List Int),gs.drop j=r->r.length<k->(∀x,x∈seen↔x∈gs.take j)->
 AQ.l0 K gs (hdR us f) f bs U k (j:Int)=some (if okF g seen r=true then .inr () else .inl (210,f,bs,U))
 | [],j,k+1,seen,h,_,_ => by have:=A1 h;rw[AQ.l0,tt];rfl
 | x :: r,j,k+1,seen,h,hk,hs => by
   obtain⟨h1,h2,h3⟩:=A0 h (0:Int);have hc:(gs.take j).contains x=seen.contains x:=by rw[jj,fi,fi];exact(hs x).symm
   have ih:=YJ hK R hg hl r (j+1) k (tZ x seen) h3 (by simpa using hk) (λz=>by
    have e:gs.take (j+1)=gs.take j++[x]:=by rw[List.take_add_one,show gs[j]? =some x by rw[<-h2,bu,bj h1];rfl];rfl
    rw[e,vS,cf,df,hs z];exact Or.comm)
   rw[AQ.l0,tq,tN,h2,YM R hg,oB,up1,ih,okF];cases g.contains x with
   | false =>
     rw[iP (show (!false)=true from rfl),iP ⟨by omega,by omega⟩,oB,iP rfl,uf]
   | true =>
     rw[uf,GZ hK (by rw[co];omega),oB,iP ⟨by omega,by omega,by omega,by omega⟩,hc,oB];cases seen.contains x<;>rfl
theorem S4 {K:Nat} {U:List (List Int)} {h:Int} {l gs:List Int} (hK:100000<=K) (hU:U.getD h.toNat []=l) (hl:l.length<=1000) (hg:gs.length<=1000):∀(r:List Int) (j k:Nat) (out:List Int),l.drop j=r->r.length<k->out.length+r.length<=1000->
 AQ.l1 K U h gs k out (j:Int)=some (out++r.filter λx=>!gs.contains x)
 | [],j,k+1,out,h,_,_ => by have:=A1 h;rw[AQ.l1,hU,tt];simp
 | x :: r,j,k+1,out,h,hk,ho => by
   obtain⟨h1,h2,h3⟩:=A0 h (0:Int);simp only[lC] at ho;rw[AQ.l1,hU,tq,tN,h2,GZ hK (by omega),oB,iP ⟨by omega,by omega⟩,up1,fx];cases gs.contains x with
   |true=>exact S4 hK hU hl hg r (j+1) k out h3 (by simpa using hk) (by omega)
   | false =>
     rw[iP (show (!false)=true from rfl),iP (by simp only[ck];omega),iP (show (!false)=true from rfl),S4 hK hU hl hg r (j+1) k _ h3 (by simpa using hk) (by simp;omega),aA];rfl
def GX (gs:List Int) (bs:List Bool):List Bool:=gs.foldl (λb x=>b.set (60+x.toNat) true) bs
theorem YK {K:Nat} {gs:List Int} (hl:gs.length<=1000) (hg:∀x∈gs,0<=x/\x<60):∀(r:List Int) (j k:Nat) (bs:List Bool),gs.drop j=r->r.length<k->
 AQ.l2 K gs k bs (j:Int)=some (GX r bs)
 | [],j,k+1,bs,h,_ => by have:=A1 h;rw[AQ.l2,tt];rfl
 | x :: r,j,k+1,bs,h,hk => by obtain⟨h1,h2,h3⟩:=A0 h (0:Int);have hx:=hg x (EX h);rw[AQ.l2,tq,tN,h2,iP ⟨by omega,by omega,hx.1,by omega,by omega,by omega⟩,up1,YK hl hg r (j+1) k _ h3 (by simpa using hk),show 62+x.toNat*1-2=60+x.toNat by omega];rfl
theorem VN:∀{gs:List Int} {bs:List Bool},bs.length=120->(∀x∈gs,0<=x/\x<60)->(GX gs bs).length=120/\∀x:Nat,x<60->(GX gs bs).getD x false=bs.getD x false/\(GX gs bs).getD (60+x) false=(bs.getD (60+x) false||gs.contains (x:Int))
 |[],bs,h,_=>⟨h,λx _=>⟨rfl,by simp[GX]⟩⟩
 | y :: gs,bs,h,hg => by
   have hy:=hg y mS;obtain⟨h1,h2⟩:=VN (gs:=gs) (bs:=bs.set (60+y.toNat) true) (by rw[iw];exact h) λx hx=>hg x (mC _ hx);refine⟨h1,λx hx=>?_⟩;obtain⟨h3,h4⟩:=h2 x hx;refine⟨h3.trans (by rw[KS (by omega),tz]),h4.trans ?_⟩;rw[KS (by omega),List.contains_cons];by_cases e:y.toNat=x;·rw[tw,show ((x:Int)==y)=true by rw[beq_iff_eq];omega];simp
   ·rw[tz,show ((x:Int)==y)=false by rw[beq_eq_false_iff_ne];omega];simp
theorem o5 {bs:List Bool} (hK:100000<=K) (R:Rr us f g o bs U) (h:Rok us f g o) (hg:∀y∈g,0<=y/\y<60) (hl:gs.length<=1000) :
 AQ K (hdR us f) f bs U gs=some (if okF g [] gs=true then (0,hdR us f,GX gs bs,U.set (hdR us f).toNat ((lsR us).filter λx=>!gs.contains x)) else (210,f,bs,U)):=by
 have hu:=R.ul;have:=h.lo;have:=h.ne;have e:0<=hdR us f:=by unfold hdR;omega
 have hll:=KW h;have e0:AQ.l0 K gs (hdR us f) f bs U K 0=_:=YJ (K:=K) hK R hg hl gs 0 K [] rfl (by omega) (λx=>by simp);have e1:AQ.l1 K U (hdR us f) gs K [] 0=_:=S4 (K:=K) hK (R.last h) (by omega) hl (lsR us) 0 K [] rfl (by omega) (by simp;omega);rw[AQ,e0,oB];cases hok:okF g [] gs with
 |false=>rfl
 | true =>
   have e2:AQ.l2 K gs K bs 0=_:=YK (K:=K) hl (λx hx=>hg x ((J1 hok).1 x hx).1) gs 0 K bs rfl (by omega);rw[iP rfl,gq,iP ⟨e,by omega⟩,e1,oB,e2,oB,cd];rfl
theorem Rr.fgt {bs:List Bool} (R:Rr us f g o bs U) (h:Rok us f g o) (hg:∀y∈gs,0<=y/\y<60) :
 Rr (fgR (hdR us f) (fgL gs []) (lsR us) g o).2.1 (hdR us f) (fgR (hdR us f) (fgL gs []) (lsR us) g o).2.2.2.1 (fgR (hdR us f) (fgL gs []) (lsR us) g o).2.2.2.2 (GX gs bs) (U.set (hdR us f).toNat ((lsR us).filter λx=>!gs.contains x)):=by
 have hu:=R.ul;have:=h.lo;have:=h.ne;have e:0<=hdR us f:=by unfold hdR;omega
 have hc:∀x,(fgL gs []).contains x=gs.contains x:=λx=>by rw[jj,fi,fi,IY];simp
 obtain⟨h1,h2⟩:=VN R.bl hg;have ho:∀x,((fgL gs []).foldl (λl x=>tZ x l) o).contains x=(o.contains x||gs.contains x):=λx=>by rw[jj,fl,fi,fi,<-hc,fi];exact(IY (gs:=fgL gs []) (seen:=o)).trans Or.comm
 refine⟨by unfold fgR hdR;simp;unfold hdR at hu;omega,?_,h1,λx hx=>?_,λx hx=>?_⟩
 ·simp only[fgR,hc];rw[List.drop_set,tz,nf];have:U.drop (hdR us f).toNat=[U.getD (hdR us f).toNat []]:=by
   rw[ij (by omega),List.drop_of_length_le (by omega),bu,bj (by omega)];rfl
  rw[this];rfl
 ·rw[(h2 x hx).1,(h2 x hx).2];have:=R.hs x hx;simp only[fgR,hc];rw[jj] at this ⊢;rw[fi] at this;rw[fi,ef,<-this];cases bs.getD x false<;>cases bs.getD (60+x) false<;>simp
 ·rw[(h2 x hx).2,R.gn x hx];exact(ho x).symm
theorem S6 {K:Nat} {gs u:List Int} {a1:ByteArray} {a2 a3 a4:Int} {l:List (Int×Int)} (hK:100000<=K) (h1:gs.length<=1000) (h2:u.length<=1000) (hl:l.length<=1000):∀(r:List (Int×Int)) (j k:Nat) (out:List (Int×Int)),l.drop j=r->r.length<k->out.length+r.length<=1000->
 DD.l0 K l gs u a1 a2 a3 a4 k out (j:Int)=some (if r.any (λc=>DI gs u c.2)=true then .inl (a1,a2,a3,a4,l,false) else .inr (out++r.filter λc=>!B5 gs u c.2))
 | [],j,k+1,out,h,_,_ => by have:=A1 h;rw[DD.l0,tt];simp
 | c :: r,j,k+1,out,h,hk,ho => by
   obtain⟨h3,h4,h5⟩:=A0 h zP;simp only[lC] at ho;rw[DD.l0,tq,iP ⟨by omega,by omega⟩,tN,h4,GZ hK (by omega),oB,GZ hK (by omega),oB,up1,ii,fx,DI,B5];cases gs.contains c.2 with
   | false =>
     rw[iP (show (!false)=true from rfl),iP (by simp only[ck];omega),S6 hK h1 h2 hl r (j+1) k _ h5 (by simpa using hk) (by simp;omega),ec,mm,ec,iP (show (!false)=true from rfl),aA];rfl
   | true =>
     rw[uf];cases u.contains c.2 with
     |false=>rfl
     |true=>exact S6 hK h1 h2 hl r (j+1) k out h5 (by simpa using hk) (by omega)
theorem o8 {a:Atm} (hK:100000<=K) (h1:gs.length<=1000) (h2:u.length<=1000) (ha:a.2.2.2.2.length<=1000) :
 ∃t,DD K a.1 a.2.1 a.2.2.1 a.2.2.2.1 a.2.2.2.2 gs u=some t/\t.2.2.2.2.2=kpA gs u a/\(kpA gs u a=true->(t.1,t.2.1,t.2.2.1,t.2.2.2.1,t.2.2.2.2.1)=lfA gs u a):=by
 have e:∀g,DD.l0 K a.2.2.2.2 gs u a.1 a.2.1 g a.2.2.2.1 K [] 0=_:=λg=>S6 (K:=K) (a1:=a.1) (a2:=a.2.1) (a3:=g) (a4:=a.2.2.2.1) hK h1 h2 ha a.2.2.2.2 0 K [] rfl (by omega) (by simpa using ha);rw[DD,GZ hK (by omega),oB];unfold kpA lfA;have hgo:B5 gs u a.2.2.1=(gs.contains a.2.2.1&&u.contains a.2.2.1):=rfl;rw[hgo];cases gs.contains a.2.2.1 with
 | true =>
   rw[iP rfl,GZ hK (by omega),oB];cases u.contains a.2.2.1 with
   |true=>exact⟨_,rfl,rfl,λh=>by cases h⟩
   | false =>
     rw[uf,oB,gq,e];cases a.2.2.2.2.any λc=>DI gs u c.2 with
     |true=>exact⟨_,rfl,rfl,λh=>by cases h⟩
     |false=>exact⟨_,rfl,rfl,λ_=>rfl⟩
 | false =>
   rw[uf,oB,gq,e];cases a.2.2.2.2.any λc=>DI gs u c.2 with
   |true=>exact⟨_,rfl,rfl,λh=>by cases h⟩
   |false=>exact⟨_,rfl,rfl,λ_=>rfl⟩
theorem S9 {K:Nat} {gs u:List Int} {l:List Atm} (hK:100000<=K) (h1:gs.length<=1000) (h2:u.length<=1000) (hl:Aok l):∀(r:List Atm) (j k:Nat) (out:List Atm),l.drop j=r->r.length<k->out.length+r.length<=20000->
 DC.l0 K l gs u k out (j:Int)=some (out++rsL gs u r)
 | [],j,k+1,out,h,_,_ => by have:=A1 h;rw[DC.l0,tt];simp[rsL]
 | a :: r,j,k+1,out,h,hk,ho => by
   obtain⟨h3,h4,h5⟩:=A0 h zA;have hlen:=hl.1;simp only[lC] at ho;obtain⟨t,e1,e2,e3⟩:=o8 (a:=a) hK h1 h2 (hl.2 a (EX h)).2;rw[DC.l0,tq,tN,h4,e1,oB,iP ⟨by omega,by omega⟩,e2,up1,SB];cases hk':kpA gs u a with
   | true =>
     rw[iP rfl,iP (by simp only[ck];omega),e3 hk',S9 hK h1 h2 hl r (j+1) k _ h5 (by simpa using hk) (by simp;omega),aA,iP rfl];rfl
   |false=>exact S9 hK h1 h2 hl r (j+1) k out h5 (by simpa using hk) (by omega)
theorem ZB {bs:List Bool} (hK:100000<=K) (R:Rr us f g o bs U) (h:Rok us f g o) (hl:Aok l):J4 K (hdR us f) f bs U l rev=some (if lvR us f rev=true then (tP (vtx rev (unR us f rev) l),true) else (ByteArray.mk #[],false)):=by
 rw[J4,OD,oB];cases hv:lvR us f rev with
 |false=>rfl
 | true =>
   have:=F9 h (r:=rev);rw[uf,I8 R h,oB,LU hK (by omega) hl];rfl
theorem O5 {h:Int} {bs:List Bool} (hu:U.length<=1000):HA K h f bs U=some ():=by rw[HA,tw]
theorem Ivt.ul {bs:List Bool} (I:Ivt l us f g o) (R:Rr us f g o bs U):U.length<=1000:=by have:=R.ul;have:=I.hi;omega
theorem nB {bs:List Bool} {base rank:Int} (hK:500000<=K) (R:Rr us f g o bs U) (I:Ivt l us f g o) (hc:Cok c) :
 FX K (hdR us f) f bs U l base grp rank c=some (if (AL l us f g o base grp rank c).2.1=0 then (hdR us f+1,0,hdR us f+1,bs.set grp.toNat true,U++[lsR us],(AL l us f g o base grp rank c).2.2.1) else (0,(AL l us f g o base grp rank c).2.1,hdR us f,bs,U,l)):=by
 have h:=I.rok;have hl:=I.aok;have hvt:=I.vtx (rev:=base) (u:=unR us f base);have hul:=F9 h (r:=base);rw[FX,ZB (by omega) R h hl,oB];cases hv:lvR us f base with
 | false =>
   have a:AL l us f g o base grp rank c=(0,190,l,us,g,o):=iP hv;rw[a];rfl
 | true =>
   rw[uf,iP rfl,RN (by omega) (by rw[AX];omega) hc,oB];by_cases hk:BV (tP (vtx base (unR us f base) l)) c=0
   ·rw[iN (by simpa using hk),O5 (I.ul R),oB,mV R I.hi h,oB];by_cases ha:(adR us f g o grp).2.1=0
    ·obtain⟨b1,b2,b3,b4,b5⟩:=MB ha;rw[iP ha,uf];by_cases hr:rank<0\/1000000<rank
     ·have a:AL l us f g o base grp rank c=(0,10,l,us,g,o):=by
       unfold AL;rw[iN (by rw[hv];simp),iN (by simpa using hk),iN (by simpa using ha),iP hr]
      have e:(if decide (rank<0)=true then some true else some (decide (rank>1000000)))=some true:=by
       split;·rfl
       ·rename_i h;rw[decide_eq_true (by simp at h;omega)]
      rw[a,e,oB,iP rfl];rfl
     ·have e:(if decide (rank<0)=true then some true else some (decide (rank>1000000)))=some false:=by
       rw[tt,decide_eq_false (by omega)]
      rw[e,oB,uf,I8 R h,oB,oT hK (by omega) hl hc (by omega) hk,oB];have E:=MP (base:=base) (grp:=grp) (rank:=rank) (c:=c) I;by_cases hn:4000<(upS base (unR us f base) c (hdR us f+1) grp rank l).length
      ·have a:AL l us f g o base grp rank c=(0,70,l,us,g,o):=by
        unfold AL;rw[iN (by rw[hv];simp),iN (by simpa using hk),iN (by simpa using ha),iN hr,iP hn]
       rw[a,tq];rfl
      ·have a:AL l us f g o base grp rank c=(hdR us f+1,0,upS base (unR us f base) c (hdR us f+1) grp rank l,us++[lsR us],tZ grp g,o):=by
        unfold AL;rw[iN (by rw[hv];simp),iN (by simpa using hk),iN (by simpa using ha),iN hr,iN hn]
       rw[a] at E;have E:Ivt (upS base (unR us f base) c (hdR us f+1) grp rank l) (us++[lsR us]) f (tZ grp g) o:=E;have hh:hdR us f+1=hdR (us++[lsR us]) f:=by unfold hdR;simp;omega
       have R2:=(R.add ⟨b3,b4⟩ b2).app (l:=lsR us) h.ne h.lo;have hul2:=F9 E.rok (r:=hdR us f+1);have hvt2:=E.vtx (rev:=hdR us f+1) (u:=unR (us++[lsR us]) f (hdR us f+1));rw[a,tt];simp only;have ru:=I8 (K:=K) (r:=hdR us f+1) R2 E.rok;rw[<-hh] at ru;rw[ru,oB,LU (by omega) (by omega) E.aok,oB,iN (by rw[AX];simp;omega),iP trivial]
    ·have a:AL l us f g o base grp rank c=(0,(adR us f g o grp).2.1,l,us,g,o):=by
      unfold AL;rw[iN (by rw[hv];simp),iN (by simpa using hk),iP ha]
     rw[a,iN ha,iP (by simpa using ha),iN ha]
   ·have a:AL l us f g o base grp rank c=(0,BV (tP (vtx base (unR us f base) l)) c,l,us,g,o):=by
     unfold AL;rw[iN (by rw[hv];simp),iP hk]
    rw[a,iP (by simpa using hk),iN hk]
theorem oP {bs:List Bool} (hK:100000<=K) (R:Rr us f g o bs U) (I:Ivt l us f g o) :
 J5 K (hdR us f) f bs U l x=some (if (C3 l us f g o x).2.1=0 then (hdR us f+1,0,hdR us f+1,U++[tgS x (lsR us)]) else (0,(C3 l us f g o x).2.1,hdR us f,U)):=by
 have h:=I.rok;have hls:lsR us∈us:=HY (by have:=h.ne;omega);rw[J5,O5 (I.ul R),oB,oQ hK R I.hi h I.gg.2 (I.uu _ hls).1,oB];by_cases ha:(tgR us f g x).2.1=0
 ·obtain⟨b1,b2,b3⟩:=T1 ha;have a:C3 l us f g o x=(hdR us f+1,0,l,us++[tgS x (lsR us)],g,o):=iN (by simpa using ha);have E:=T2 I b2 b3;have hh:hdR us f+1=hdR (us++[tgS x (lsR us)]) f:=by unfold hdR;simp;omega
  have ru:=I8 (K:=K) (r:=hdR us f+1) (R.app (l:=tgS x (lsR us)) h.ne h.lo) E.rok;have hul2:=F9 E.rok (r:=hdR us f+1);have hvt2:=E.vtx (rev:=hdR us f+1) (u:=unR (us++[tgS x (lsR us)]) f (hdR us f+1));rw[<-hh] at ru;rw[a,iP ha,uf];simp only;rw[ru,oB,LU hK (by omega) E.aok,oB,iN (by rw[AX];simp;omega),iP trivial]
 ·have a:C3 l us f g o x=(0,(tgR us f g x).2.1,l,us,g,o):=iP ha;rw[a,iN ha,iP (by simpa using ha)]
theorem nZ {bs:List Bool} (hK:100000<=K) (R:Rr us f g o bs U) (I:Ivt l us f g o) (hg:gs.length<=1000) :
 DC K (hdR us f) f bs U l gs=some (if okF g [] gs=true then (0,hdR us f,GX gs bs,U.set (hdR us f).toNat ((lsR us).filter λx=>!gs.contains x),rsL gs (lsR us) l) else (210,f,bs,U,l)):=by
 have h:=I.rok;have hl:=I.aok;have hn:=KW h;have e:=HJ (f:=f) h.ne;have e0:DC.l0 K l gs (lsR us) K [] 0=_:=S9 (K:=K) (gs:=gs) (u:=lsR us) hK hg (by omega) hl l 0 K [] rfl (by have:=hl.1;omega) (by simpa using hl.1);rw[DC,I8 R h,oB,O5 (I.ul R),oB,o5 hK R h I.gg.2 hg,oB,e];cases hok:okF g [] gs with
 |false=>rfl
 | true =>
   rw[iP rfl,uf,e0,oB,cd,iP rfl]
theorem XU {K:Nat} {l:List Atm} {i:Nat} {a:Atm} {q:Int} (hx:l.getD i zA=a) (hs:a.1.size<=1000) (h0:0<=q) (hq:q<=1000000):∀(n j k:Nat) (out:List Ce),j+n=a.1.size->n<k->out.length+n<=1000000->
 AP.l1 K l (i:Int) true true q k out (j:Int)=some (out++AB (q+j) n)
 | 0,j,k+1,out,hj,hk,ho => by rw[AP.l1,tN,hx,tt];simp[AB]
 | n+1,j,k+1,out,hj,hk,ho => by rw[AP.l1,tN,hx,tq,iP rfl,oB,iP rfl,iP (by simp only[ck];omega),up1,w64,XU hx hs h0 hq n (j+1) k _ (by omega) (by omega) (by simp;omega),AB,aA,show q+((j+1:Nat):Int)=q+j+1 by omega];rfl
theorem mW {a:Atm} (hx:l.getD i zA=a) (hs:a.1.size<=1000):∀(n j k:Nat) (out:List Ce),j+n=a.1.size->n<k->out.length+n<=1000000->
 AP.l1 K l (i:Int) false true q k out (j:Int)=some (out++(B7 a.1).drop j):=by
 have htl:=DJ (s:=a.1);have hcl:=FO (t:=a.1);intro n;induction n with
 | zero =>
   intro j k out hj hk ho;obtain⟨k,rfl⟩:=ug (k:=k);rw[AP.l1,tN,hx,tt,lx (by omega),cm]
 | succ n ih =>
   intro j k out hj hk ho;obtain⟨k,rfl⟩:=ug (k:=k);have hjt:j<(txt a.1).length:=by omega
   have hjc:j<(B7 a.1).length:=by omega
   have hg:(B7 a.1)[j]=(-1,(txt a.1)[j]):=by
    have:∀(l:List Ce) (h:j<l.length),l=(txt a.1).map (λb=>(-1,b))->l[j]=(-1,(txt a.1)[j]):=by intro l h e;subst e;rw[qx]
    exact this _ hjc rfl
   rw[AP.l1,tN,hx,tq,uf,oB,uf,iP rfl,IG hjt,iP ⟨by omega,by omega,by simp only[ck];omega⟩,up1,ih (j+1) k _ (by omega) (by omega) (by simp;omega),ij hjc,hg,aA];rfl
theorem RM {K:Nat} {l:List Atm} {i:Nat} {a:Atm} {q:Int} {was:Bool} {out:List Ce} (hx:l.getD i zA=a) (hs:a.1.size<=1000):∀(n j k:Nat),j+n=a.1.size->n<k->
 AP.l1 K l (i:Int) was false q k out (j:Int)=some out
 | 0,j,k+1,hj,hk => by rw[AP.l1,tN,hx,tt]
 | n+1,j,k+1,hj,hk => by rw[AP.l1,tN,hx,tq,up1];cases was<;>exact RM hx hs n (j+1) k (by omega) (by omega)
theorem XV {K:Nat} {l:List Atm} {r r':Int} {u u':List Int} (hK:100000<=K) (hu:u.length<=50000) (hu':u'.length<=50000) (hl:l.length<=4000) (ha:∀a∈l,a.1.size<=4/\a.2.2.2.2.length<=1000/\A4 a.1=true):∀(rest:List Atm) (j k:Nat) (acc:List El×Int),l.drop j=rest->rest.length<k->FK 100000 acc.1 acc.2->acc.2+4*rest.length<=100000->(cells acc.1).length+4*rest.length<=20000->
 AP.l0 K l r u r' u' k (cells acc.1) acc.2 (j:Int)=some (cells (rest.foldl (dfS r u r' u') acc).1,(rest.foldl (dfS r u r' u') acc).2)/\FK 100000 (rest.foldl (dfS r u r' u') acc).1 (rest.foldl (dfS r u r' u') acc).2/\(rest.foldl (dfS r u r' u') acc).2=acc.2+(vtx r u rest).length/\(cells (rest.foldl (dfS r u r' u') acc).1).length=(cells acc.1).length+(vtx r' u' rest).length
 | [],j,k+1,acc,h,_,hm,_,hc => by have:=A1 h;rw[AP.l0,tt];exact⟨rfl,hm,by simp[vtx],by simp[vtx]⟩
 | a :: rest,j,k+1,acc,h,hk,hm,hq,hc => by
   obtain⟨g1,g2,g3⟩:=A0 h zA;obtain⟨a1,a2,a3⟩:=ha a (EX h);simp only[lC] at hq hc hk;have hm3:=hm.2.2;have key:dfS r u r' u' acc a=(if (vis r u a&&vis r' u' a)=true then CE acc.1 acc.2 (acc.2+a.1.size) else if vis r' u' a=true then CU acc.1 a.1 else acc.1,if vis r u a=true then acc.2+a.1.size else acc.2):=rfl;have wk:∀q,acc.2<=q->q<=100000->FK 100000 acc.1 q:=λq h1 h2=>⟨hm.1,by have:=hm.2.1;omega,by omega,h2⟩;have F:FK 100000 (dfS r u r' u' acc a).1 (dfS r u r' u' acc a).2/\AP.l1 K l (j:Int) (vis r u a) (vis r' u' a) acc.2 K (cells acc.1) 0=some (cells (dfS r u r' u' acc a).1)/\(cells (dfS r u r' u' acc a).1).length=(cells acc.1).length+(if vis r' u' a=true then a.1.size else 0):=by
    rw[key];cases vis r u a with
    | true =>
      cases vis r' u' a with
      | true =>
        have e:AP.l1 K l (j:Int) true true acc.2 K (cells acc.1) 0=_:=XU (K:=K) (i:=j) (a:=a) (q:=acc.2) g2 (by omega) hm3.1 (by omega) a.1.size 0 K (cells acc.1) (by omega) (by omega) (by omega);have c:=dG (f:=acc.2+a.1.size) hm (by omega);rw[show (acc.2+(a.1.size:Int)-acc.2).toNat=a.1.size by omega] at c;refine⟨j8 hm (by omega) (by omega),?_,?_⟩
        ·rw[e,show acc.2+((0:Nat):Int)=acc.2 by omega];exact congrArg some c.symm
        ·show (cells (CE acc.1 acc.2 (acc.2+a.1.size))).length=_;rw[c,lA,ET];rfl
      | false =>
        exact⟨wk _ (by omega) (by omega),RM (K:=K) (i:=j) (a:=a) g2 (by omega) a.1.size 0 K (by omega) (by omega),rfl⟩
    | false =>
      cases vis r' u' a with
      | true =>
        have e:AP.l1 K l (j:Int) false true acc.2 K (cells acc.1) 0=_:=mW (K:=K) (i:=j) (a:=a) (q:=acc.2) g2 (by omega) a.1.size 0 K (cells acc.1) (by omega) (by omega) (by omega);have c:=dH (t:=a.1) hm.1;refine⟨j9 hm a3,?_,?_⟩
        ·rw[e,ic];exact congrArg some c.symm
        ·show (cells (CU acc.1 a.1)).length=_;rw[c,lA,FO];rfl
      | false =>
        exact⟨hm,RM (K:=K) (i:=j) (a:=a) g2 (by omega) a.1.size 0 K (by omega) (by omega),rfl⟩
   have hq2:(dfS r u r' u' acc a).2=if vis r u a=true then acc.2+a.1.size else acc.2:=rfl;obtain⟨i1,i2,i3,i4⟩:=XV hK hu hu' hl ha rest (j+1) k (dfS r u r' u' acc a) g3 (by omega) F.1 (by rw[hq2];split<;>omega) (by rw[F.2.2];split<;>omega);rw[fk];refine⟨?_,i2,?_,?_⟩
   ·rw[AP.l0,tq,iP ⟨by omega,by omega⟩,tN,g2,JK hK hu (by omega),oB,JK hK hu' (by omega),oB,F.2.1,oB,up1];rw[<-i1,hq2];cases vis r u a with
    |true=>rw[iP rfl,w64,iP rfl];rfl
    |false=>rfl
   ·rw[i3,hq2];simp only[vtx];split;·rw[lA,CB];omega
    ·rfl
   ·rw[i4,F.2.2];simp only[vtx];split;·rw[lA,CB];omega
    ·rfl
theorem UO (hK:100000<=K) (I:Ivt l us f g o) (hv:Av l) {r:Int} (hu:u.length<=50000) (hu':u'.length<=50000) :
 AP.l0 K l r u r' u' K [] 0 0=some (cells (dfL r u r' u' l).1,(dfL r u r' u' l).2)/\FK 100000 (dfL r u r' u' l).1 (dfL r u r' u' l).2/\(dfL r u r' u' l).2=(vtx r u l).length/\(cells (dfL r u r' u' l).1).length=(vtx r' u' l).length/\(cells (dfL r u r' u' l).1).length<=20000:=by
 have hln:=I.len;obtain⟨b1,b2,b3,b4⟩:=XV (K:=K) (l:=l) (r:=r) (r':=r') (u:=u) (u':=u') hK hu hu' I.len (λa ha=>by have A:=I.aa a ha;have:=A.n;have:=I.hi;exact⟨A.s4,by omega,(hv a ha).1⟩) l 0 K ([],0) rfl (by omega) ⟨trivial,by simp[D8],by omega,by omega⟩ (by simp;omega) (by simp[cells];omega)
 have b4:(cells (dfL r u r' u' l).1).length=(vtx r' u' l).length:=b4.trans (by simp[cells]);have:=I.vtx (rev:=r') (u:=u');exact⟨b1,b2,b3.trans (by simp),b4,by omega⟩
theorem eT (I:Ivt l us f g o) (hv:Av l) {r:Int} (hu:u.length<=50000) (hu':u'.length<=50000):AD (dfL r u r' u' l).1+A6 (dfL r u r' u' l).1=((vtx r' u' l).length:Nat):=by obtain⟨-,b2,-,b4,-⟩:=UO (K:=100000) (r:=r) (r':=r') (bp _) I hv hu hu';rw[<-b4];exact(WV (QE (q:=none) (eo 0) b2.1 rfl (λp hp=>by cases hp))).2.2.2.1
theorem mX {r:Int} {bs:List Bool} (hK:100000<=K) (R:Rr us f g o bs U) (I:Ivt l us f g o) (hv:Av l):AP K (hdR us f) f bs U l r r'=some (btR l us f r r'):=by
 have h:=I.rok;rw[AP,OD,oB];unfold btR;cases h1:lvR us f r with
 |false=>rfl
 | true =>
   rw[uf,OD,oB];cases h2:lvR us f r' with
   |false=>rfl
   | true =>
     have u1:=F9 h (r:=r);have u2:=F9 h (r:=r');obtain⟨b1,b2,b3,-,b4⟩:=UO (r:=r) (r':=r') hK I hv (u:=unR us f r) (u':=unR us f r') (by omega) (by omega);rw[tm,oB,uf,I8 R h,oB,I8 R h,oB,b1,oB];dsimp only;rw[qZ (b0:=100000) (eo 0) b2.1 (by omega) hK b4,oB,b3,iP (⟨rfl,rfl⟩:true=true/\true=true)]
structure Wl (n:Int) (sel:List Rg) (sp:List Sp) (bk:List Int):Prop where
 s0:sel≠[]
 s8:sel.length<=8
 si:∀x∈sel,(0<=x.1/\x.1<=n)/\(0<=x.2/\x.2<=n)
 sa:apR sel=true
 po:AE n 0 0 sp=true
 pl:sp.length<=60
 bo:okB n 0 bk=true
 bl:bk.length<=60
theorem VF {r:Int} {u:List Int}:∀{l:List Atm} {n:Nat},(∀a∈l,1<=a.1.size)->l.foldl (dfS r u r u) (paT cc++koT n,(n:Int))=(paT cc++koT ((n+(vtx r u l).length:Nat):Int),((n+(vtx r u l).length:Nat):Int))
 |[],n,_=>rfl
 | a :: l,n,h => by
   have ha:=h a mS;have ih:=λn=>VF (r:=r) (u:=u) (l:=l) (n:=n) λb hb=>h b (mC _ hb);rw[fk];simp only[vtx];cases hv:vis r u a with
   | true =>
     have e:dfS r u r u (paT cc++koT n,(n:Int)) a=(paT cc++koT ((n+a.1.size:Nat):Int),((n+a.1.size:Nat):Int)):=by unfold dfS;rw[hv,iP (by simp),iP rfl,dP (by omega) (by omega)];rfl
     rw[e,ih,iP rfl,lA,CB,Nat.add_assoc]
   | false =>
     have e:dfS r u r u (paT cc++koT n,(n:Int)) a=(paT cc++koT n,(n:Int)):=by unfold dfS;rw[hv];rfl
     rw[e,ih,uf]
theorem eQ {r:Int} (h:∀a∈l,1<=a.1.size):(dfL r u r u l).1=paT cc++koT (((vtx r u l).length:Nat):Int):=by have:=VF (r:=r) (u:=u) (n:=0) h;rw[ew] at this;exact congrArg Prod.fst this
theorem WZ {l:List Sp} (h:AE n 0 0 l=true) (hl:l.length<=60) (hn:n<=20000):B0 n l=true:=by unfold B0;rw[decide_eq_true hl,dq,show min n 20000=n by omega];exact h
theorem Wl.inR {bk:List Int} (W:Wl n sel sp bk):sel.all (inR n)=true:=cn.2 λx hx=>by have:=W.si x hx;unfold Go.Pal.inR loR hiR;rw[dE];omega
theorem Wl.keep {N:Nat} {bk:List Int} (hK:100000<K) (W:Wl N sel sp bk) (hN:N<=20000):flR K ((N:Int),paT cc++koT N,0) sel sp bk=(0,sel,sp,bk):=by
 have hv:A4 cc=true:=rfl;have hsz:N+ByteArray.empty.size<=20000:=hN;have hd:=UL hv hsz;have m1:∀p:Int,0<=p->p<=N->mv N (paT cc++koT N) p true=p:=λp h0 h1=>by rw[(UM hv hsz h0 h1).1,G9];omega
 have m2:∀p:Int,0<p->p<=N->mv N (paT cc++koT N) p false=p:=λp h0 h1=>by rw[(UM hv hsz (by omega) h1).2 h0,G9];omega
 have hs0:sel.length≠0:=λh=>W.s0 (bx h);have e1:mvR N (paT cc++koT N) sel=(sel,0):=by
  unfold mvR;have hs8:=W.s8;rw[iN (by rw[hd,W.inR];simp;exact W.s0),tz];have:sel.map (goR N (paT cc++koT N))=sel:=by refine(lu λx hx=>?_).trans (vq sel);obtain⟨⟨a1,a2⟩,a3,a4⟩:=W.si x hx;unfold goR;rw[m1 _ a1 a2,m1 _ a3 a4];rfl
  rw[this,jE W.sa]
 have hm:=E7 W.po (eo 0);have e2:D5 K N (paT cc++koT N) sp=(sp,0):=by
  obtain⟨C,c1,c2,-,c4⟩:=PK hK hd (WZ W.po W.pl (by omega));have g:(sp.map (goS N (paT cc++koT N))).filter neI=sp:=by
   have e:sp.map (goS N (paT cc++koT N))=sp:=by refine(lu λx hx=>?_).trans (vq sp);have:=(hm x hx).1;unfold Fn at this;unfold goS;rw[m1 _ this.1 (by omega),m2 _ (by omega) this.2.2.1,show max x.1 x.2.1=x.2.1 by omega];rfl
   rw[e,ir];intro x hx;have:=(hm x hx).1;unfold Fn at this;unfold neI;rw[dE];omega
  have:C=sp:=L6 c1 W.po (eo 0) (eo 0) λk=>by rw[c2,g]
  unfold D5;rw[c4,this];rfl
 have hb:=L4 W.bo;have e3:G8 N (paT cc++koT N) bk=(bk,0):=by
  have hs:AD (paT cc++koT N)+A6 (paT cc++koT N)=N:=by
   unfold paT koT;rw[iP G9];split;·simp[AD,A6];omega
   ·simp[AD,A6,G9]
  unfold G8;rw[iP ⟨hd,Q7 W.bo (by omega) W.bl⟩];unfold edB;have:bk.map (λx=>mv N (paT cc++koT N) x false)=bk:=by refine(lu λx hx=>?_).trans (vq bk);have:=hb x hx;exact m2 _ this.1 (by omega)
  rw[this,hs,VC (H6 W.bo) hb (λx _=>.inl rfl)];rfl
 unfold flR;rw[uf,e1,uf,e2,uf,e3]
theorem Q0 {e:Int}:∀{r out:List Int},r.Pairwise (·<=·)->out.Pairwise (·< ·)->(∀x∈out,0<x/\x<e)->(∀x∈out,∀y∈r,x<=y)->(r.foldl (stB e) out).Pairwise (·< ·)/\∀x∈r.foldl (stB e) out,0<x/\x<e
 |[],_,_,h2,h3,_=>⟨h2,h3⟩
 | y :: r,out,h1,h2,h3,h4 => by
   obtain⟨p1,p2⟩:=dz.1 h1;rw[fk];unfold stB;split
   ·rename_i c;have hlt:∀x∈out,x<y:=λx hx=>by
     have hxy:=h4 x hx y mS;rcases nu x y with h|h;·exact h
     ·exfalso;have hl:out.length≠0:=λe=>by rw[bx e] at hx;cases hx
      have hm:=HY (l:=out) (i:=out.length-1) (d:=0) (by omega);have:=h4 _ hm y mS;have hne:=c.2.2.resolve_left hl;have:x<=out.getD (out.length-1) 0:=by
       obtain⟨i,hi,rfl⟩:=lb.1 hx;by_cases he:i=out.length-1
       ·subst he;rw[bu,bj hi];exact eo _
       ·have:=NE h2 (i:=i) (j:=out.length-1) (by omega) (by omega);rw[bu,bj hi] at this;exact ym this
      omega
    refine Q0 p2 ?_ ?_ ?_
    ·rw[List.pairwise_append];exact⟨h2,List.pairwise_singleton _ _,λx hx z hz=>by rw[df] at hz;subst hz;exact hlt x hx⟩
    ·intro x hx;rcases cf.1 hx with hx|hx;·exact h3 x hx
     ·rw[df] at hx;subst hx;exact⟨c.1,c.2.1⟩
    ·intro x hx z hz;rcases cf.1 hx with hx|hx;·exact h4 x hx z (mC _ hz)
     ·rw[df] at hx;subst hx;exact p1 z hz
   ·exact Q0 p2 h2 h3 λx hx z hz=>h4 x hx z (mC _ hz)
theorem Wl.go {bk:List Int} {b:Int×List El×Int} (hK:100000<K) (W:Wl n sel sp bk) (hn:n<=20000) (hb:b.1=n) (h:(flR K b sel sp bk).1=0):Wl (AD b.2.1+A6 b.2.1) (flR K b sel sp bk).2.1 (flR K b sel sp bk).2.2.1 (flR K b sel sp bk).2.2.2:=by
 unfold flR at *;split at h;·rename_i c;exact absurd h c
 ·rename_i c1;split at h;·rename_i c;exact absurd h c
  ·rename_i c2;split at h;·rename_i c;exact absurd h c
   ·rename_i c3;rw[iN c1,iN c2,iN c3];simp only at h ⊢;have hd:isD b.1 b.2.1=true:=by
     cases hd:isD b.1 b.2.1 with
     |true=>rfl
     |false=>exact absurd (by unfold mvR;rw[iP (.inl hd)];simp) c2
    have hs0:sel.length≠0:=λh=>W.s0 (bx h);have hs8:=W.s8;have e1:(mvR b.1 b.2.1 sel).1=jnR (AO (sel.map (goR b.1 b.2.1)) []):=by unfold mvR;rw[hb] at hd ⊢;rw[iN (by rw[hd,W.inR];simp;exact W.s0),tz]
    obtain⟨m1,-,m3,m4,m5⟩:=QU (l:=sel.map (goR b.1 b.2.1));obtain⟨C,p1,-,p3,p4⟩:=PK (base:=b.1) hK hd (by rw[hb];exact WZ W.po W.pl hn);have e2:D5 K b.1 b.2.1 sp=(C,0):=by unfold D5;rw[p4];rfl
    have e3:G8 b.1 b.2.1 bk=(edB b.1 b.2.1 bk,0):=iP ⟨hd,by rw[hb];exact Q7 W.bo hn W.bl⟩;have q:=Q0 (e:=AD b.2.1+A6 b.2.1) (r:=bk.map λx=>mv b.1 b.2.1 x false) (out:=[]) (by rw[ku];exact(H6 W.bo).imp λh=>WR hd (ym h)) .nil (λx hx=>by cases hx) (λx hx=>by cases hx)
    rw[e1,e2,e3];refine⟨m4 (λe=>W.s0 (List.map_eq_nil_iff.1 e)),by rw[du] at m3;omega,m5 (Q:=λp=>0<=p/\p<=AD b.2.1+A6 b.2.1) (λx hx=>?_),m1,p1,fo p3 W.pl,NO q.1 q.2,fo fA W.bl⟩;obtain⟨y,-,rfl⟩:=cj.1 hx;have g1:=L1 (a:=y.1) hd;have g2:=L1 (a:=y.2) hd;unfold goR;simp only;omega
theorem nA {l:List Sp} {base:Int} (hK:100000<K):CW K l base d=some (D5 K base d l):=by
 unfold D5;by_cases h:isD base d=true/\B0 base l=true
 ·obtain⟨C,-,-,-,c4,c5⟩:=fI hK h.1 h.2;rw[c4,c5];rfl
 ·obtain⟨c4,c5⟩:=fH (K:=K) (by omega) h;rw[c4,c5];rfl
theorem oC {old:Int} {bs:List Bool} {bk:List Int} (hK:100000<K) (R:Rr us f g o bs U) (I:Ivt l us f g o) (hv:Av l) (hs:sel.length<=1000) (hb:bk.length<=1000) :
 ∃q,LF K (hdR us f) f bs U l sel sp bk old=some q/\q.1=(flR K (btR l us f old (hdR us f)) sel sp bk).1/\(q.1=0->q.2=(flR K (btR l us f old (hdR us f)) sel sp bk).2):=by
 rw[LF,mX (by omega) R I hv,oB];unfold flR;generalize btR l us f old (hdR us f)=b;by_cases e1:b.2.2=0
 ·rw[iN (by simpa using e1),iN (by simpa using e1),oA (by omega) hs,oB];by_cases e2:(mvR b.1 b.2.1 sel).2=0
  ·rw[iN (by simpa using e2),iN (by simpa using e2),nA hK,oB];by_cases e3:(D5 K b.1 b.2.1 sp).2=0
   ·have e4:D9 K bk b.1 b.2.1=some (G8 b.1 b.2.1 bk):=(fJ (by omega) hb).2;rw[iN (by simpa using e3),iN (by simpa using e3),e4,oB];by_cases e5:(G8 b.1 b.2.1 bk).2=0
    ·rw[iN (by simpa using e5)];exact⟨_,rfl,e5.symm,λ_=>rfl⟩
    ·rw[iP (by simpa using e5)];exact⟨_,rfl,rfl,λh=>absurd h e5⟩
   ·rw[iP (by simpa using e3),iP e3];exact⟨_,rfl,rfl,λh=>absurd h e3⟩
  ·rw[iP (by simpa using e2),iP e2];exact⟨_,rfl,rfl,λh=>absurd h e2⟩
 ·rw[iP (by simpa using e1),iP e1];exact⟨_,rfl,rfl,λh=>absurd h e1⟩
theorem US {base rank:Int} :
 ((AL l us f g o base grp rank c).2.1≠0/\(AL l us f g o base grp rank c).2.2=(l,us,g,o))\/∃l',AL l us f g o base grp rank c=(hdR us f+1,0,l',us++[lsR us],tZ grp g,o)/\(∀u,vtx (hdR us f) u l'=vtx (hdR us f) u l)/\o.contains grp=false/\0<=grp/\grp<60:=by
 unfold AL;split;·exact .inl ⟨by simp,rfl⟩
 ·split;·rename_i h2;exact .inl ⟨h2,rfl⟩
  ·rename_i h2;split;·rename_i h3;exact .inl ⟨h3,rfl⟩
   ·rename_i h3;split;·exact .inl ⟨by simp,rfl⟩
    ·split;·exact .inl ⟨by simp,rfl⟩
     ·obtain⟨-,b2,b3,b4,-⟩:=MB (show (adR us f g o grp).2.1=0 by simpa using h3);have G:=II (show BV (tP (vtx base (unR us f base) l)) c=0 by simpa using h2);exact .inr ⟨_,rfl,λu=>tD (by omega) G,b2,b3,b4⟩
theorem bI :
 ((C3 l us f g o x).2.1≠0/\(C3 l us f g o x).2.2=(l,us,g,o))\/C3 l us f g o x=(hdR us f+1,0,l,us++[tgS x (lsR us)],g,o):=by
 unfold C3;split;·rename_i h;exact .inl ⟨h,rfl⟩
 ·exact .inr rfl
theorem RR {bs:List Bool} {base rank:Int} (hK:500000<=K) (R:Rr us f g o bs U) (I:Ivt l us f g o) (hc:Cok c) {E:Int×Int×List Atm×List (List Int)×List Int×List Int} (hE:AL l us f g o base grp rank c=E) :
 ∃n bs' U',FX K (hdR us f) f bs U l base grp rank c=some (n,E.2.1,hdR E.2.2.2.1 f,bs',U',E.2.2.1)/\Rr E.2.2.2.1 f E.2.2.2.2.1 E.2.2.2.2.2 bs' U':=by
 subst hE;have ne:=I.ne;have lo:=I.lo;rw[nB hK R I hc];rcases US (l:=l) (us:=us) (f:=f) (g:=g) (o:=o) (base:=base) (grp:=grp) (rank:=rank) (c:=c) with⟨h1,h2⟩|⟨l',h1,-,h3,h4⟩
 ·rw[iN h1,h2];exact⟨_,_,_,rfl,R⟩
 ·rw[h1,iP rfl];refine⟨hdR us f+1,_,_,?_,(R.add h4 h3).app ne lo⟩;rw[GY]
theorem oO {bs:List Bool} (hK:100000<=K) (R:Rr us f g o bs U) (I:Ivt l us f g o) {E:Int×Int×List Atm×List (List Int)×List Int×List Int} (hE:C3 l us f g o x=E) :
 ∃n U',J5 K (hdR us f) f bs U l x=some (n,E.2.1,hdR E.2.2.2.1 f,U')/\Rr E.2.2.2.1 f E.2.2.2.2.1 E.2.2.2.2.2 bs U'/\E.2.2.1=l:=by
 subst hE;have ne:=I.ne;have lo:=I.lo;rw[oP hK R I];rcases bI (l:=l) (us:=us) (f:=f) (g:=g) (o:=o) (x:=x) with⟨h1,h2⟩|h1
 ·rw[iN h1,h2];exact⟨_,_,rfl,R,rfl⟩
 ·rw[h1,iP rfl];refine⟨hdR us f+1,_,?_,R.app ne lo,rfl⟩;rw[GY]
theorem OG {bs:List Bool} {bk:List Int} (hK:100000<=K) (R:Rr us f g o bs U) (I:Ivt l us f g o):JA K (hdR us f) f bs U l sel sp bk=some (tP (A7 l us f)):=by rw[JA,NU,ZB hK R I.rok I.aok,oB,oB,iP (IX I.ne),HJ I.ne];rfl
theorem mU {bs:List Bool} {bk:List Int} {base rank:Int} (hK:500000<=K) (R:Rr us f g o bs U) (I:Ivt l us f g o) (hc:Cok c) (ht:t.size<=30000) (hse:sel.length<=1000) (hk:kd=1\/kd=2\/kd=5\/kd=6) {E:Int×Int×List Atm×List (List Int)×List Int×List Int} (hE:edG l us f g o sel kd base grp rank c t=E) :
 ∃bs' U',FZ K (hdR us f) f bs U l sel sp bk kd base grp rank c gs rg t x y z=some (E.2.1,hdR E.2.2.2.1 f,f,bs',U',E.2.2.1,sel,sp,bk)/\Rr E.2.2.2.1 f E.2.2.2.2.1 E.2.2.2.2.2 bs' U':=by
 have hln:=I.vtx (rev:=hdR us f) (u:=lsR us);have hln:(A7 l us f).length<=16000:=hln;rw[FZ,OG (by omega) R I,oB];unfold edG at hE;rcases hk with rfl|rfl|rfl|rfl
 ·rw[iP rfl] at hE;obtain⟨n,bs',U',e1,e2⟩:=RR hK R I hc hE;rw[iP (by decide),e1,oB];exact⟨bs',U',rfl,e2⟩
 ·rw[tz,iP rfl] at hE;obtain⟨n,U',e1,e2,e3⟩:=oO (K:=K) (by omega) R I hE;rw[iN (by decide),iP (by decide),e1,oB];exact⟨bs,U',by rw[e3],e2⟩
 ·rw[tz,tz,iP rfl] at hE;obtain⟨n,bs',U',e1,e2⟩:=RR hK R I (⟨by rw[du];omega,λw hw=>by
   obtain⟨v,_,rfl⟩:=cj.1 hw;exact ht⟩:Cok (sel.map (tyC t))) hE
  rw[uf,uf,uf,uf,iP (by decide),oS (by omega) (by omega),oB,e1,oB];exact⟨bs',U',rfl,e2⟩
 ·have hcs:(if isR (tP (A7 l us f)) sel=true then erC (tP (A7 l us f)) 0 sel else []).length<=sel.length/\∀w∈(if isR (tP (A7 l us f)) sel=true then erC (tP (A7 l us f)) 0 sel else []),w.2.2=cc:=by
   split;·exact⟨MZ,N0⟩
   ·exact⟨by simp,λw hw=>(gu hw).elim⟩
  rw[tz,tz,tz] at hE;rw[uf,uf,uf,uf,uf,iP (by decide),nP (by omega) (by rw[AX];omega) hse,oB];generalize (if isR (tP (A7 l us f)) sel=true then erC (tP (A7 l us f)) 0 sel else [])=cs at *;by_cases hp:0<cs.length
  ·rw[iP hp] at hE;obtain⟨n,bs',U',e1,e2⟩:=RR hK R I (⟨by omega,λw hw=>by rw[hcs.2 w hw,GU];omega⟩:Cok cs) hE;rw[iN (show ¬((cs.length:Int)==0)=true by rw[beq_iff_eq];omega),e1,oB];exact⟨bs',U',rfl,e2⟩
  ·rw[iN hp] at hE;subst hE;rw[iP (show ((cs.length:Int)==0)=true by rw[beq_iff_eq];omega)];exact⟨bs,U,rfl,R⟩
theorem fC {base rank:Int} :
 ((edG l us f g o sel kd base grp rank c t).2.1≠0/\(edG l us f g o sel kd base grp rank c t).2.2=(l,us,g,o))\/(∃n l' u g',edG l us f g o sel kd base grp rank c t=(n,0,l',us++[u],g',o)/\∀v,vtx (hdR us f) v l'=vtx (hdR us f) v l)\/edG l us f g o sel kd base grp rank c t=(0,0,l,us,g,o):=by
 have E:∀{base grp rank:Int} {c:List Chg},((AL l us f g o base grp rank c).2.1≠0/\(AL l us f g o base grp rank c).2.2=(l,us,g,o))\/(∃n l' u g',AL l us f g o base grp rank c=(n,0,l',us++[u],g',o)/\∀v,vtx (hdR us f) v l'=vtx (hdR us f) v l)\/AL l us f g o base grp rank c=(0,0,l,us,g,o):=λ{base grp rank c}=>
  (US (l:=l) (us:=us) (f:=f) (g:=g) (o:=o) (base:=base) (grp:=grp) (rank:=rank) (c:=c)).imp id λ⟨l',h1,h2,_⟩=>.inl ⟨_,_,_,_,h1,h2⟩
 unfold edG;split;·exact E
 ·split;·exact bI.imp id λh=>.inl ⟨_,_,_,_,h,λ_=>rfl⟩
  ·split;·exact E
   ·generalize (if isR (tP (A7 l us f)) sel=true then erC (tP (A7 l us f)) 0 sel else [])=cs;split;·exact E
    ·exact .inr (.inr rfl)
theorem d8 {l':List Atm} {g':List Int} (I:Ivt l us f g o) (I':Ivt l' (us++[u]) f g' o) (hv:Av l') (ht:∀v,vtx (hdR us f) v l'=vtx (hdR us f) v l) (h0:(btR l' (us++[u]) f (hdR us f) (hdR (us++[u]) f)).2.2=0) :
 (btR l' (us++[u]) f (hdR us f) (hdR (us++[u]) f)).1=((A7 l us f).length:Nat)/\AD (btR l' (us++[u]) f (hdR us f) (hdR (us++[u]) f)).2.1+A6 (btR l' (us++[u]) f (hdR us f) (hdR (us++[u]) f)).2.1=((A7 l' (us++[u]) f).length:Nat):=by
 have lo:=I.lo;have ne:=I.ne;have hf:f<=hdR us f:=by unfold hdR;omega
 have u1:=F9 I'.rok (r:=hdR us f);have u2:=F9 I'.rok (r:=hdR (us++[u]) f);have eu:unR (us++[u]) f (hdR us f)=lsR us:=by rw[rL hf (by omega),tz,HJ ne]
 unfold btR at *;split
 ·rename_i c;rw[iP c] at h0;split
  ·rename_i c2;rw[iP c2] at h0;simp at h0
  ·have:=eT (r:=hdR us f) (r':=hdR (us++[u]) f) I' hv (u:=unR (us++[u]) f (hdR us f)) (u':=unR (us++[u]) f (hdR (us++[u]) f)) (by omega) (by omega);refine⟨?_,?_⟩
   ·rw[eu];simp only;rw[ht];rfl
   ·simp only;rw[this,HJ I'.ne];rfl
 ·rename_i c;rw[iN c] at h0;simp at h0
theorem d9 (I:Ivt l us f g o):btR l us f (hdR us f) (hdR us f)=((((A7 l us f).length:Nat):Int),paT cc++koT (((A7 l us f).length:Nat):Int),0):=by
 have ne:=I.ne;have e:=eQ (r:=hdR us f) (u:=lsR us) (l:=l) λa ha=>(I.aa a ha).s1;unfold btR;rw[iP ⟨IX ne,IX ne⟩,HJ ne,e,iN];·rfl
 ·unfold paT koT;rw[iP G9];split<;>simp
theorem kF (I:Ivt l us f g o) (hok:okF g [] gs=true):A7 (rsL gs (lsR us) l) (fgR (hdR us f) (fgL gs []) (lsR us) g o).2.1 (hdR us f)=A7 l us f:=by
 have hc:∀x,(fgL gs []).contains x=gs.contains x:=λx=>by rw[jj,fi,fi,IY];simp
 have hm:(-1:Int)∉gs:=λh=>by have:=I.gg.2 _ ((J1 hok).1 _ h).1;omega
 have hd:hdR (fgR (hdR us f) (fgL gs []) (lsR us) g o).2.1 (hdR us f)=hdR us f:=VP;have hl:lsR (fgR (hdR us f) (fgL gs []) (lsR us) g o).2.1=wo gs (lsR us):=by simp only[fgR,hc];rfl
 unfold A7;rw[hd,hl];refine(cG hm (λ_ _=>rfl) (eo _) λa ha=>⟨λ_=>(I.aa a ha).r1,λc hc _=>((I.aa a ha).c c hc).2.1⟩).symm
theorem k6 {Q:Option (Option tH)} {bs:List Bool} {bk:List Int} {base rank:Int} (hK:100000<K) (V:Vi l us f g o Q sel sp bk) (W:Wl (A7 l us f).length sel sp bk) (R:Rr us f g o bs U) (hg:gs.length<=1000) (hr:rg.length<=1000) (hk:kd=3\/kd=4\/kd=7\/kd=8) :
 ∃ (e:Int) (l':List Atm) (us':List (List Int)) (f':Int) (g' o':List Int) (sel':List Rg) (sp':List Sp) (bk':List Int) (q:Int×Int×List Bool×List (List Int)×List Atm×List Rg×List Sp×List Int),
   M8 K l us f g o Q sel sp bk kd base grp rank c gs rg t x y z=some (e,l',us',f',g',o',sel',sp',bk')/\
   FZ K (hdR us f) f bs U l sel sp bk kd base grp rank c gs rg t x y z=some (e,q)/\
   (e=0->∃bs' U',q=(hdR us f,f',bs',U',l',sel',sp',bk')/\hdR us' f'=hdR us f/\Ivt l' us' f' g' o'/\Av l'/\Rr us' f' g' o' bs' U'/\Wl (A7 l' us' f').length sel' sp' bk'):=by
 have I:=V.iv;have hln:=V.len;rw[FZ,OG (by omega) R I,oB,M8,TO (by omega) V,oB];have bad:∀e:Int,e≠0->∃(e':Int) (l':List Atm) (us':List (List Int)) (f':Int) (g' o':List Int) (sel':List Rg) (sp':List Sp) (bk':List Int) (q:Int×Int×List Bool×List (List Int)×List Atm×List Rg×List Sp×List Int),
  some (e,l,us,f,g,o,sel,sp,bk)=some (e',l',us',f',g',o',sel',sp',bk')/\some (e,hdR us f,f,bs,U,l,sel,sp,bk)=some (e',q)/\(e'=0->∃bs' U',q=(hdR us f,f',bs',U',l',sel',sp',bk')/\hdR us' f'=hdR us f/\Ivt l' us' f' g' o'/\Av l'/\Rr us' f' g' o' bs' U'/\Wl (A7 l' us' f').length sel' sp' bk'):=
  λe he=>⟨e,l,us,f,g,o,sel,sp,bk,_,rfl,rfl,λh=>absurd h he⟩
 rcases hk with rfl|rfl|rfl|rfl
 ·rw[iP (by decide),gH (by omega) I hg,oB,iN (by decide),iN (by decide),iP (by decide),nZ (by omega) R I hg,oB];unfold EW;by_cases hok:okF g [] gs=true
  ·rw[iP hok,iP hok];have hinv:=i7 (gs:=gs) I;have hav:=cX (us:=us) (f:=f) (g:=g) (o:=o) (gs:=gs) V.av;unfold EW at hinv hav;rw[iP hok] at hinv hav;refine⟨_,_,_,_,_,_,_,_,_,_,rfl,rfl,λ_=>⟨_,_,rfl,VP,hinv,hav,R.fgt I.rok (λy hy=>I.gg.2 y ((J1 hok).1 y hy).1),?_⟩⟩;have:=kF I hok;show Wl ((A7 (rsL gs (lsR us) l) (fgR (hdR us f) (fgL gs []) (lsR us) g o).2.1 (hdR us f)).length:Nat) sel sp bk;rw[this];exact W
  ·rw[iN hok,iN hok];exact⟨_,_,_,_,_,_,_,_,_,_,rfl,rfl,λh=>by simp at h⟩
 ·rw[iN (by decide),iP (by decide),jH (by omega) (by rw[AX];omega) hr,oB,iN (by decide),iN (by decide),iN (by decide),iP (by decide),o9 (by omega) (by rw[AX];omega) hr,oB];by_cases h0:(mkR (tP (A7 l us f)) rg).2=0
  ·rw[iP (by simpa using h0)];obtain⟨m1,m2,m3,m4,m5⟩:=jZ h0;obtain⟨p1,p2,p3,p4⟩:=iJ m2;refine⟨_,_,_,_,_,_,_,_,_,_,rfl,rfl,λ_=>⟨_,_,rfl,rfl,I,V.av,R,p2,p1,λx hx=>?_,by rw[m1];exact QU.1,W.po,W.pl,W.bo,W.bl⟩⟩;have:=p4 x hx;unfold Go.Pal.inR loR hiR at this;rw[dE,AX] at this;omega
  ·rw[iN (by simpa using h0)];exact⟨_,_,_,_,_,_,_,_,_,_,rfl,rfl,λh=>absurd h h0⟩
 ·rw[iN (by decide),iN (by decide),iP (by decide),iN (show ¬((7:Int)==1)=true by decide),iN (show ¬((7:Int)==2)=true by decide),iN (show ¬((7:Int)==3)=true by decide),iN (show ¬((7:Int)==4)=true by decide),iN (show ¬((7:Int)==5)=true by decide),iN (show ¬((7:Int)==6)=true by decide),iP (show ((7:Int)==7)=true by decide),NX];have e1:(if decide (x<(0:Int))=true then some true else if decide (x>y)=true then some true else some (decide (y>(((tP (A7 l us f)).size:Nat):Int))))=some (decide (x<0\/y<x\/(A7 l us f).length<y)):=by
   by_cases c1:x<0;·rw[iP (by simpa using c1),decide_eq_true (.inl c1)]
   ·rw[iN (by simpa using c1)];by_cases c2:y<x;·rw[iP (by simpa using c2),decide_eq_true (.inr (.inl c2))]
    ·rw[tt,AX,dw,decide_eq_decide];omega
  rw[e1,oB,oB];by_cases c1:x<0\/y<x\/(A7 l us f).length<y
  ·rw[decide_eq_true c1,iP rfl,iP rfl];exact bad 10 (by decide)
  ·rw[decide_eq_false c1,uf,uf,HI (by rw[AX];omega) (by rw[AX];omega),oB,HI (by rw[AX];omega) (by rw[AX];omega),oB,GE (by rw[AX];omega) (by rw[AX];omega),oB,GE (by rw[AX];omega) (by rw[AX];omega),oB];obtain⟨q2,e3⟩:∃q,(if (!isE (tP (A7 l us f)) x)=true then some true else some (!isE (tP (A7 l us f)) y))=some q:=by
    split<;>exact⟨_,rfl⟩
   rw[e3,oB,oB];cases q2 with
   |true=>exact bad 11 (by decide)
   | false =>
     have hpl:=W.pl;obtain⟨r,r1,r2,r3⟩:=oL (K:=K) (l:=sp) (a:=x) (b:=y) (s:=z) hK (by omega);rw[uf,uf,r1,r2,oB,oB];by_cases h0:r.2=0
     ·rw[iP (by simpa using h0)];refine⟨_,_,_,_,_,_,_,_,_,_,rfl,rfl,λ_=>⟨_,_,rfl,rfl,I,V.av,R,W.s0,W.s8,W.si,W.sa,?_,r3,W.bo,W.bl⟩⟩;by_cases hz:0<=z/\z<=100
      ·obtain⟨C,c2,-,-,c4⟩:=XK (K:=K) (n:=(A7 l us f).length) (a:=x) (b:=y) (s:=z) hK W.pl W.po (by omega) hz (by omega) (by omega) (by omega);rw[r1] at c4;obtain rfl:=fg c4;split at h0;·simp at h0
       ·rename_i c5;rw[iN c5];exact c2
      ·have c4:=XJ (K:=K) (l:=sp) (a:=x) (b:=y) (s:=z) hK λh=>hz ⟨h.2.1,h.2.2.1⟩;rw[r1] at c4;obtain rfl:=fg c4;simp at h0
     ·rw[iN (by simpa using h0)];exact⟨_,_,_,_,_,_,_,_,_,_,rfl,rfl,λh=>absurd h h0⟩
 ·rw[iN (by decide),iN (by decide),iN (by decide),iN (show ¬((8:Int)==1)=true by decide),iN (show ¬((8:Int)==2)=true by decide),iN (show ¬((8:Int)==3)=true by decide),iN (show ¬((8:Int)==4)=true by decide),iN (show ¬((8:Int)==5)=true by decide),iN (show ¬((8:Int)==6)=true by decide),iN (show ¬((8:Int)==7)=true by decide),iP (show ((8:Int)==8)=true by decide),NW];have e1:(if decide (base<=(0:Int))=true then some true else some (decide (base>=(((tP (A7 l us f)).size:Nat):Int))))=some (decide (base<=0\/(A7 l us f).length<=base)):=by
   by_cases c1:base<=0;·rw[iP (by simpa using c1),decide_eq_true (.inl c1)]
   ·rw[iN (by simpa using c1),AX,dw,decide_eq_decide];omega
  have e2:(if decide (base<(1:Int))=true then some true else some (decide (base>=(((tP (A7 l us f)).size:Nat):Int))))=some (decide (base<=0\/(A7 l us f).length<=base)):=by rw[<-e1,show decide (base<1)=decide (base<=0) by rw[decide_eq_decide];omega]
  rw[e1,e2,oB,oB];by_cases c1:base<=0\/(A7 l us f).length<=base
  ·rw[decide_eq_true c1,iP rfl,iP rfl];exact bad 10 (by decide)
  ·rw[decide_eq_false c1,uf,uf,HI (by rw[AX];omega) (by rw[AX];omega),oB,GE (by rw[AX];omega) (by rw[AX];omega),oB];cases isE (tP (A7 l us f)) base with
   |false=>exact bad 11 (by decide)
   | true =>
     have hbl:=W.bl;obtain⟨r,r1,r2,-⟩:=oI (K:=K) (l:=bk) (t:=base) hK (by omega);rw[uf,uf,r1,r2,oB,oB];by_cases h0:r.2=0
     ·rw[iP (by simpa using h0)];have hi:isB 20000 bk=true:=Q7 (kI (by omega) W.bo) (by omega) W.bl;have c4:=XL (K:=K) (t:=base) hK hi (by omega) (by omega);rw[r1] at c4;obtain rfl:=fg c4;have P:okB (A7 l us f).length 0 (if base∈bk then (bk,(0:Int)) else if 60<=bk.length then ([],70) else (F1 bk base,0)).1=true/\(if base∈bk then (bk,(0:Int)) else if 60<=bk.length then ([],70) else (F1 bk base,0)).1.length<=60:=by
       split;·exact⟨W.bo,W.bl⟩
       ·rename_i hn;split;·exact⟨rfl,by simp⟩
        ·refine⟨NO (XN (H6 W.bo)) λw hw=>?_,?_⟩
         ·rcases XO.1 hw with rfl|hw;·omega
          ·exact L4 W.bo w hw
         ·show (F1 bk base).length<=60;rw[XM (H6 W.bo) hn];omega
      exact⟨_,_,_,_,_,_,_,_,_,_,rfl,rfl,λ_=>⟨_,_,rfl,rfl,I,V.av,R,W.s0,W.s8,W.si,W.sa,W.po,W.pl,P.1,P.2⟩⟩
     ·rw[iN (by simpa using h0)];exact⟨_,_,_,_,_,_,_,_,_,_,rfl,rfl,λh=>absurd h h0⟩
theorem mZ {bs:List Bool} {h:Int} {bk:List Int} (hK:500000<=K) (R:Rr us f g o bs U) (I:Ivt l us f g o) (h1:sel.length<=1000) (h2:sp.length<=1000) (h3:bk.length<=1000):J9 K h f bs U l sel sp bk=some (U,l):=by have A:=I.aok;rw[J9,NT,O5 (I.ul R),oB,RO hK (by have:=A.1;omega) (λa ha=>by have:=(A.2 a ha).2;omega),oB,oB,iP ⟨by omega,by omega,by omega⟩]
theorem LI {bs:List Bool} {bk:List Int} {base rank:Int} {q:Int×Int×List Bool×List (List Int)×List Atm×List Rg×List Sp×List Int} (hc:J9 K (hdR us f) f bs U l sel sp bk=some (U,l)) (ha:FZ K (hdR us f) f bs U l sel sp bk kd base grp rank c gs rg t x y z=some (e,q)) (h:e=0->q.1=hdR us f) :
 HC K (hdR us f) f bs U l sel sp bk kd base grp rank c gs rg t x y z=some (if e=0 then (q.1,0,q) else (0,e,hdR us f,f,bs,U,l,sel,sp,bk)):=by
 rw[HC,hc,oB,ha,oB];by_cases h0:e=0
 ·rw[h h0];subst h0;rw[iP (by simp),oB,uf,oB,uf,iP rfl];rw[<-h rfl]
 ·rw[iN (by simpa using h0),oB,uf,oB,iP (by simpa using h0),iN h0]
theorem eZ {Q:Option (Option tH)} {bs:List Bool} {bk:List Int} {base rank:Int} (hK:500000<=K) (V:Vi l us f g o Q sel sp bk) (W:Wl (A7 l us f).length sel sp bk) (R:Rr us f g o bs U) (hc:Cok c) (hg:gs.length<=1000) (hr:rg.length<=1000) (ht:t.size<=30000) :
 ∃ (n e:Int) (l':List Atm) (us':List (List Int)) (f':Int) (g' o':List Int) (Q':Option (Option tH)) (sel':List Rg) (sp':List Sp) (bk':List Int) (bs':List Bool) (U':List (List Int)),
   K0 K l us f g o Q sel sp bk kd base grp rank c gs rg t x y z=some (n,e,l',us',f',g',o',Q',sel',sp',bk')/\
   HC K (hdR us f) f bs U l sel sp bk kd base grp rank c gs rg t x y z=some (n,e,hdR us' f',f',bs',U',l',sel',sp',bk')/\
   Vi l' us' f' g' o' Q' sel' sp' bk'/\Wl (A7 l' us' f').length sel' sp' bk'/\Rr us' f' g' o' bs' U':=by
 have I:=V.iv;have hln:=V.len;have hse:=V.se;have hst:=V.st;have hbr:=V.br;have hcp:=mZ (K:=K) (h:=hdR us f) (sel:=sel) (sp:=sp) (bk:=bk) hK R I hse (by omega) (by omega);have same:∀e:Int,∃(n' e':Int) (l':List Atm) (us':List (List Int)) (f':Int) (g' o':List Int) (Q':Option (Option tH)) (sel':List Rg) (sp':List Sp) (bk':List Int) (bs':List Bool) (U':List (List Int)),
  some ((0:Int),e,l,us,f,g,o,Q,sel,sp,bk)=some (n',e',l',us',f',g',o',Q',sel',sp',bk')/\some ((0:Int),e,hdR us f,f,bs,U,l,sel,sp,bk)=some (n',e',hdR us' f',f',bs',U',l',sel',sp',bk')/\Vi l' us' f' g' o' Q' sel' sp' bk'/\Wl (A7 l' us' f').length sel' sp' bk'/\Rr us' f' g' o' bs' U':=
  λe=>⟨_,_,_,_,_,_,_,_,_,_,_,_,_,rfl,rfl,V,W,R⟩
 by_cases hk:kd<1\/8<kd
 ·have e1:(if decide (kd<(1:Int))=true then some true else some (decide (kd>(8:Int))))=some true:=by
   rcases hk with hk|hk;·rw[iP (by simpa using hk)]
   ·split;·rfl
    ·simpa using hk
  have ea:FZ K (hdR us f) f bs U l sel sp bk kd base grp rank c gs rg t x y z=some (260,hdR us f,f,bs,U,l,sel,sp,bk):=by
   rw[FZ,OG (by omega) R I,oB];have:∀i:Int,1<=i->i<=8->¬(kd==i)=true:=λi h1 h2=>by rw[beq_iff_eq];omega
   rw[iN (this 1 (by omega) (by omega)),iN (this 2 (by omega) (by omega)),iN (this 3 (by omega) (by omega)),iN (this 4 (by omega) (by omega)),iN (this 5 (by omega) (by omega)),iN (this 6 (by omega) (by omega)),iN (this 7 (by omega) (by omega)),iN (this 8 (by omega) (by omega))]
  rw[LI hcp ea (λh=>absurd h (by decide)),K0,e1,oB,iP rfl,iN (show ¬(260:Int)=0 by decide)];exact same 260
 have e1:(if decide (kd<(1:Int))=true then some true else some (decide (kd>(8:Int))))=some false:=by rw[tt,decide_eq_false (by omega)]
 have hE:bb [false,true,true,false,false,true,true,false,false] (bc kd) false=decide (kd=1\/kd=2\/kd=5\/kd=6):=by
  have:kd=1\/kd=2\/kd=3\/kd=4\/kd=5\/kd=6\/kd=7\/kd=8:=by omega
  rcases this with rfl|rfl|rfl|rfl|rfl|rfl|rfl|rfl<;>rfl
 rw[K0,e1,oB,uf,sI (by omega) V,oB,K3,oB,iP ⟨by omega,by omega⟩];simp only;rw[hE];by_cases hed:kd=1\/kd=2\/kd=5\/kd=6
 ·rw[decide_eq_true hed,iP rfl,fD (by omega) V hc ht,oB];obtain⟨iv',av'⟩:=fE (sel:=sel) (kd:=kd) (base:=base) (grp:=grp) (rank:=rank) (c:=c) (t:=t) I V.av;have C:=fC (l:=l) (us:=us) (f:=f) (g:=g) (o:=o) (sel:=sel) (kd:=kd) (base:=base) (grp:=grp) (rank:=rank) (c:=c) (t:=t);obtain⟨bs',U',ea,R'⟩:=mU (gs:=gs) (rg:=rg) (sp:=sp) (bk:=bk) (x:=x) (y:=y) (z:=z) hK R I hc ht hse hed (rfl:edG l us f g o sel kd base grp rank c t=_);generalize edG l us f g o sel kd base grp rank c t=E at *;obtain⟨n0,e0,l',us',g',o'⟩:=E;simp only at iv' av' ea R' C ⊢;rcases C with⟨c1,c2⟩|⟨n,l2,u,g2,c1,c2⟩|c1
  ·rw[iN (by simpa using c1),oB,LI hcp ea (λh=>absurd h c1),iN c1];simp only;rw[iP (by simpa using c1)];exact same e0
  ·simp only[le] at c1;obtain⟨rfl,rfl,rfl,rfl,rfl,rfl⟩:=c1;have B:=d8 I iv' av' c2;have hne:hdR (us++[u]) f≠hdR us f:=by rw[GY];omega
   obtain⟨q,q1,q2,q3⟩:=oC (K:=K) (old:=hdR us f) (sel:=sel) (sp:=sp) (bk:=bk) (by omega) R' iv' av' hse (by omega);have er:HC K (hdR us f) f bs U l sel sp bk kd base grp rank c gs rg t x y z=some (if q.1=0 then (hdR (us++[u]) f,0,hdR (us++[u]) f,f,bs',U',l',q.2.1,q.2.2.1,q.2.2.2) else (0,q.1,hdR us f,f,bs,U,l,sel,sp,bk)):=by
    rw[HC,hcp,oB,ea,oB,iP (by simp),oB,iP (by simpa using hne),q1,oB,oB];simp only;by_cases h0:q.1=0;·rw[iN (by simpa using h0),iP h0]
    ·rw[iP (by simpa using h0),iN h0]
   rw[er,iP (by decide),VG (by omega) iv' I.rok hse hst (by omega),oB,oB,<-q2];simp only;by_cases h0:q.1=0
   ·have q3:=q3 h0;have W':=W.go (K:=K) (b:=btR l' (us++[u]) f (hdR us f) (hdR (us++[u]) f)) (by omega) (by omega) (B (by
     rcases yn ((btR l' (us++[u]) f (hdR us f) (hdR (us++[u]) f)).2.2=0) with h|h;·exact h
     ·rw[h0] at q2;unfold flR at q2;rw[iP h] at q2;exact q2.symm)).1 (by rw[<-q2];exact h0)
    rw[(B (by
     rcases yn ((btR l' (us++[u]) f (hdR us f) (hdR (us++[u]) f)).2.2=0) with h|h;·exact h
     ·rw[h0] at q2;unfold flR at q2;rw[iP h] at q2;exact q2.symm)).2,<-q3] at W'
    rw[<-q3,iN (by simpa using h0),iP h0];obtain⟨Q',r1,r2⟩:=Vi.anew (K:=K) (by omega) Q iv' av' (sel:=q.2.1) (sp:=q.2.2.1) (bk:=q.2.2.2) (by have:=W'.s8;omega) W'.pl (by have:=W'.bl;omega);rw[r1,oB,HL iv'.rok,oB];exact⟨_,_,_,_,_,_,_,_,_,_,_,_,_,rfl,rfl,r2,W',R'⟩
   ·rw[iP (by simpa using h0),iN h0];exact same _
  ·simp only[le] at c1;obtain⟨rfl,rfl,rfl,rfl,rfl,rfl⟩:=c1;have Fk:=W.keep (K:=K) (by omega) (by omega);rw[iP (by decide),VG (by omega) iv' I.rok hse hst (by omega),d9 I,Fk,oB,oB,LI hcp ea (λ_=>rfl),iP rfl];simp only;obtain⟨Q',r1,r2⟩:=Vi.anew (K:=K) (by omega) Q iv' av' hse hst hbr;rw[uf,r1,oB,HL iv'.rok,oB];exact⟨_,_,_,_,_,_,_,_,_,_,_,_,_,rfl,rfl,r2,W,R'⟩
 ·rw[decide_eq_false hed,uf];obtain⟨e,l',us',f',g',o',sel',sp',bk',q,m1,m2,m3⟩:=k6 (K:=K) (kd:=kd) (base:=base) (grp:=grp) (rank:=rank) (x:=x) (y:=y) (z:=z) (c:=c) (t:=t) (by omega) V W R hg hr (by omega);rw[m1,oB,oB];simp only;by_cases he:e=0
  ·obtain⟨bs',U',rfl,n1,n2,n3,n4,n5⟩:=m3 he;subst he;obtain⟨Q',r1,r2⟩:=Vi.anew (K:=K) (by omega) Q n2 n3 (sel:=sel') (sp:=sp') (bk:=bk') (by have:=n5.s8;omega) n5.pl (by have:=n5.bl;omega);rw[uf,r1,oB,HL n2.rok,oB,LI (q:=(hdR us f,f',bs',U',l',sel',sp',bk')) hcp m2 (λ_=>rfl),iP rfl];exact⟨_,_,_,_,_,_,_,_,_,_,_,_,_,rfl,by rw[n1],r2,n5,n4⟩
  ·rw[iP (by simpa using he),LI hcp m2 (λh=>absurd h he),iN he];exact same _
def fwB (s:Acv):Bool:=fwC s.2.2.2.2.1&&(decide (s.2.2.2.2.2.1.length<=20)&&(decide (s.2.2.2.2.2.2.1.length<=12)&&decide (s.2.2.2.2.2.2.2.1.size<=60)))
theorem V5 {K:Nat} {l:List Acv} (hl:l.length<4611686018427387904) (hc:∀s∈l,s.2.2.2.2.1.length<K/\s.2.2.2.2.1.length<4611686018427387904):∀(r:List Acv) (j k:Nat),l.drop j=r->r.length<k->EZ.l0 K l k (j:Int)=some (r.all fwB&&decide (l.length<=30))
 | [],j,k+1,h,_ => by have:=A1 h;rw[EZ.l0,tt];simp;omega
 | x :: r,j,k+1,h,hk => by
   obtain⟨h1,h2,h3⟩:=A0 h zAc;have hx:=hc x (mdr h);rw[EZ.l0,tq,iP ⟨by omega,by omega⟩,tN,h2,i0 hx.1 hx.2,oB,up2,V5 hl hc r (j+1) k h3 (by simpa using hk),kj];have e:(if (!fwC x.2.2.2.2.1)=true then some true else if decide ((((bg x.2.2.2.2.2.1):Nat):Int)>(20:Int))=true then some true else if decide ((((bg x.2.2.2.2.2.2.1):Nat):Int)>(12:Int))=true then some true else some (decide ((((ByteArray.size x.2.2.2.2.2.2.2.1):Nat):Int)>(60:Int))))=some (!fwB x):=by
    unfold fwB;cases fwC x.2.2.2.2.1 with
    |false=>rfl
    | true =>
      rw[uf];by_cases c1:x.2.2.2.2.2.1.length<=20
      ·rw[tt];by_cases c2:x.2.2.2.2.2.2.1.length<=12
       ·rw[tt,decide_eq_true c1,decide_eq_true c2];by_cases c3:x.2.2.2.2.2.2.2.1.size<=60;·rw[decide_eq_true c3,decide_eq_false (by omega)];rfl
        ·rw[decide_eq_false c3,decide_eq_true (by omega)];rfl
       ·rw[tq,decide_eq_false c2];simp
      ·rw[tq,decide_eq_false c1];simp
   rw[e,oB];cases fwB x with
   |true=>rw[uf];simp
   |false=>rfl
def wtB (l:List Acv):Nat:=(l.map λs=>s.2.2.2.2.1.length+1).sum
theorem cM:∀{l:List Acv} {s:Acv},s∈l->s.2.2.2.2.1.length<wtB l
 | a :: l,s,h => by
   simp only[wtB,dj,qn];rcases bv.1 h with rfl|h;·omega
   ·have:=cM h;unfold wtB at this;omega
theorem TR:∀{l:List Acv},l.length<=wtB l
 |[]=>by simp[wtB]
 | a :: l => by have:=TR (l:=l);simp only[wtB,dj,qn,lC] at *;omega
theorem i5 {l:List Acv} (hK:wtB l+10<=K) (hl:l.length<4611686018427387904) (hc:∀s∈l,s.2.2.2.2.1.length<4611686018427387904):EZ K l=some (l.all fwB&&decide (l.length<=30)):=
 V5 hl (λs hs=>⟨by have:=cM hs;omega,hc s hs⟩) l 0 K rfl (by have:=TR (l:=l);omega)
theorem i9 {s:Acv} (h:fwB s=true):Cok s.2.2.2.2.1/\s.2.2.2.2.2.1.length<=1000/\s.2.2.2.2.2.2.1.length<=1000/\s.2.2.2.2.2.2.2.1.size<=30000:=by unfold fwB at h;simp only[bq,dE] at h;exact⟨iA h.1,by omega,by omega,by omega⟩
theorem ZR {K:Nat} {a:List Rg} (ha:a.length<=50000):∀(r:List Rg) (j k:Nat),a.drop j=r->r.length<k->EE.l0 K a a k (j:Int)=some true
 | [],j,k+1,h,_ => by have:=A1 h;rw[EE.l0,tt]
 | x :: r,j,k+1,h,hk => by obtain⟨h1,h2,h3⟩:=A0 h zP;rw[EE.l0,tq,iP ⟨by omega,by omega,by omega⟩,uf,up1];exact ZR ha r (j+1) k h3 (by simpa using hk)
theorem ZQ {K:Nat} {a:List Sp} (ha:a.length<=50000):∀(r:List Sp) (j k:Nat),a.drop j=r->r.length<k->EF.l0 K a a k (j:Int)=some true
 | [],j,k+1,h,_ => by have:=A1 h;rw[EF.l0,tt]
 | x :: r,j,k+1,h,hk => by obtain⟨h1,h2,h3⟩:=A0 h sp0;rw[EF.l0,tq,iP ⟨by omega,by omega,by omega⟩,uf,up1];exact ZQ ha r (j+1) k h3 (by simpa using hk)
theorem ZP {K:Nat} {a:List Atm} {i:Nat} {x:Atm} (hx:a.getD i zA=x) (ha:x.2.2.2.2.length<=50000):∀(r:List (Int×Int)) (j k:Nat),x.2.2.2.2.drop j=r->r.length<k->BH.l1 K a i a k (j:Int)=some (.inr ())
 | [],j,k+1,h,_ => by have:=A1 h;rw[BH.l1,tN,hx,tt]
 | y :: r,j,k+1,h,hk => by obtain⟨h1,h2,h3⟩:=A0 h zP;rw[BH.l1,tN,hx,tq,iP ⟨by omega,by omega,by omega⟩,uf,up1];exact ZP hx ha r (j+1) k h3 (by simpa using hk)
theorem ZO {K:Nat} {a:List Atm} (hK:100000<=K) (ha:Aok a):∀(r:List Atm) (j k:Nat),a.drop j=r->r.length<k->BH.l0 K a a k (j:Int)=some true
 | [],j,k+1,h,_ => by have:=A1 h;rw[BH.l0,tt]
 | x :: r,j,k+1,h,hk => by obtain⟨h1,h2,h3⟩:=A0 h zA;have hlen:=ha.1;have hx:=(ha.2 x (EX h)).2;have e:BH.l1 K a j a K 0=_:=ZP (K:=K) h2 (by omega) x.2.2.2.2 0 K rfl (by omega);rw[BH.l0,tq,iP ⟨by omega,by omega,by omega⟩,uf,uf,uf,uf,bne_self_eq_false,oB,uf,e,oB,gq,up1];exact ZO hK ha r (j+1) k h3 (by simpa using hk)
theorem cA {K:Nat} {l:List Acv} (hK:500000<=K) (hln:l.length<=30) (hl:∀s∈l,fwB s=true):∀(r:List Acv) (j k:Nat) (a:List Atm) (us:List (List Int)) (f:Int) (g o:List Int) (Q:Option (Option tH)) (sel:List Rg) (sp:List Sp) (bk:List Int) (bs:List Bool) (U:List (List Int)),l.drop j=r->r.length<k->Vi a us f g o Q sel sp bk->Wl (A7 a us f).length sel sp bk->Rr us f g o bs U->
 ∃(a':List Atm) (us':List (List Int)) (f':Int) (g' o':List Int) (Q':Option (Option tH)) (sel':List Rg) (sp':List Sp) (bk':List Int) (bs':List Bool) (U':List (List Int)),EC.l0 K l k a us f g o Q sel sp bk (hdR us f) f bs U a sel sp bk (j:Int)=some (.inr (a',us',f',g',o',Q',sel',sp',bk',hdR us' f',f',bs',U',a',sel',sp',bk'))/\Ivt a' us' f' g' o'
 | [],j,k+1,a,us,f,g,o,Q,sel,sp,bk,bs,U,h,_,V,_,_ => by have:=A1 h;rw[EC.l0,tt];exact⟨_,_,_,_,_,_,_,_,_,_,_,rfl,V.iv⟩
 | s :: r,j,k+1,a,us,f,g,o,Q,sel,sp,bk,bs,U,h,hk,V,W,R => by
   obtain⟨h1,h2,h3⟩:=A0 h zAc;have hs:=i9 (hl s (EX h));obtain⟨n,e,a',us',f',g',o',Q',sel',sp',bk',bs',U',d1,d2,V',W',R'⟩:=eZ (kd:=s.1) (base:=s.2.1) (grp:=s.2.2.1) (rank:=s.2.2.2.1) (x:=s.2.2.2.2.2.2.2.2.1) (y:=s.2.2.2.2.2.2.2.2.2.1) (z:=s.2.2.2.2.2.2.2.2.2.2) hK V W R hs.1 hs.2.1 hs.2.2.1 hs.2.2.2;have s1:=V'.se;have s2:=V'.st;have s3:=V'.br;have q1:EE K sel' sel'=some true:=by rw[EE,uf];exact ZR (by omega) sel' 0 K rfl (by omega)
   have q2:EF K sp' sp'=some true:=by rw[EF,uf];exact ZQ (by omega) sp' 0 K rfl (by omega)
   rw[EC.l0,tq,tN,h2,d1,oB,iP ⟨by omega,by omega⟩,d2,oB,up1];simp only;rw[uf,uf,TO (by omega) V',oB,OG (by omega) R' V'.iv,oB,uf,cC s1,oB,q1,oB,uf,cD s2,oB,q2,oB,uf,c7 (by omega),oB,oY (by omega) (by omega),oB,beq_self_eq_true,tm,oB,uf];exact cA hK hln hl r (j+1) k a' us' f' g' o' Q' sel' sp' bk' bs' U' h3 (by simpa using hk) V' W' R'
theorem WholeView_pure (l:List Acv) (o0:Kd.ok (.slice kAc) l):∃K,EC K l=some true:=by
 have hl1:=o0.1;have:1<=Kd.bytes kAc:=by decide
 have:=Nat.le_mul_of_pos_right l.length this;refine⟨wtB l+500010,?_⟩;generalize hKK:wtB l+500010=K;unfold EC;rw[iS (by omega),oB,uf,i5 (by omega) (by omega) (λs hs=>okC (o0.2 s hs).2.2.2.2.1),oB];cases hf:(l.all fwB&&decide (l.length<=30)) with
 |false=>rfl
 | true =>
   simp only[bq,dE,cn] at hf;obtain⟨hl,hln⟩:=hf;obtain⟨R0,v0,V0⟩:=tC (K:=K) (by omega);have R:Rr [[]] 0 [] [] (bn 120 false) [[]]:=⟨rfl,rfl,rfl,by decide,by decide⟩;have W:Wl (A7 [] [[]] 0).length [((0:Int),(0:Int))] [] []:=⟨by simp,by simp,λx hx=>by rw[df] at hx;subst hx;simp,rfl,rfl,by simp,rfl,by simp⟩
   obtain⟨a,us,f,g,o,Q,sel,sp,bk,bs,U,e2,I⟩:=cA (K:=K) (by omega) hln hl l 0 K [] [[]] 0 [] [] R0 [((0:Int),(0:Int))] [] [] _ _ rfl (by have:=TR (l:=l);omega) V0 W R;have e2:EC.l0 K l K [] [[]] 0 [] [] R0 (bn 1 zP) [] [] 0 0 (bn 120 false) [[]] [] [((0:Int),(0:Int))] [] [] 0=some (.inr (a,us,f,g,o,Q,sel,sp,bk,hdR us f,f,bs,U,a,sel,sp,bk)):=e2;have e3:NV K=some (bn 120 false,[[]]):=rfl;have A:=I.aok;rw[uf,v0,oB,e3,oB];simp only;rw[e2,oB,gq,OU,oB];simp only;have e4:BH.l0 K a a K 0=_:=ZO (K:=K) (by omega) A a 0 K rfl (by have:=A.1;omega);rw[f9 (by omega) (e:=(a,us,f,g,o)) I,oB,BH,uf,e4,oB]
end Go.Pal
