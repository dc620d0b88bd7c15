/- A part of the proof of WholeView. -/
import Derived.Test.YtidbfmbocikkgaaGreatLibC
open BitVec renaming ofInt→bi,toNat→bz
open ByteArray renaming empty→cc,extract→io,mk→iu,size→cr,toList→ex
open Go.IntKind renaming bits→bh,wrap→ba
open Go.Utf8 renaming decode→gj,encode→gi
open Int renaming fdiv→bw,tdiv→eq,toNat→bc
open List renaming contains→mq,drop→gf,getD→bb,length→bg,mem_cons_self→de,mem_of_mem_drop→su,replicate→bn,set→dp,take→cu
open Option renaming getD→gz,isNone→xp,isSome→lf
open Sum renaming elim→la,inl→mj,inr→ln
namespace Go.Pal
open Go
set_option linter.unusedVariables false
theorem mdr {α:Type} {l:List α} {j:Nat} {a:α} {r:List α} (h:l.drop j=a::r):a∈l:=su (by rw[h];exact de)
abbrev kAt:Kd:=.pair .str (.pair (.int .i64) (.pair (.int .i64) (.pair (.int .i64) (.slice (.pair (.int .i64) (.int .i64))))))
abbrev AtT:=ByteArray×Int×Int×Int×(List (Int×Int))
abbrev zAt:AtT:=(cc,((0:Int),(0:Int),(0:Int),([]:List (Int×Int))))
abbrev zAb:Int×(Int×Int×Int×List (Int×Int×ByteArray)×List Int×List (Int×Int)×ByteArray×Int×Int×Int):=((0:Int),((0:Int),(0:Int),(0:Int),([]:(List (Int×Int×ByteArray))),([]:(List Int)),([]:(List (Int×Int))),cc,(0:Int),(0:Int),(0:Int)))
universe u
theorem oB {α β:Type} (a:α) (f:α->Option β):(some a).bind f=f a:=rfl
theorem tN (n:Nat):(n:Int).toNat=n:=rfl
theorem iP {c:Prop} {h:Decidable c} (hc:c) {α:Sort u} {t e:α}:@ite α c h t e=t:=if_pos hc
theorem iN {c:Prop} {h:Decidable c} (hc:¬c) {α:Sort u} {t e:α}:@ite α c h t e=e:=if_neg hc
theorem dE {p:Prop} {_:Decidable p}:(decide p=true)=p:=decide_eq_true_eq
theorem aA {α:Type} (a b c:List α):a++b++c=a++(b++c):=List.append_assoc ..
theorem mS {α:Type} {a:α} {l:List α}:a∈a::l:=de
theorem mC {α:Type} (y:α) {a:α} {l:List α} (h:a∈l):a∈y::l:=List.mem_cons_of_mem y h
theorem mD {α:Type} {a:α} {l:List α} {i:Nat} (h:a∈l.drop i):a∈l:=su h
theorem lA {α:Type} {a b:List α}:(a++b).length=a.length+b.length:=List.length_append
theorem lC {α:Type} {a:α} {b:List α}:(a::b).length=b.length+1:=List.length_cons
abbrev np:=ByteArray
abbrev pe:=Int×Int×ByteArray
abbrev pu:=List Int
abbrev qb:=List (List Int)
abbrev qe:=List (Int×Int×Int)
abbrev qg:=List (Int×Int×ByteArray)
abbrev qo:=List (Int×Int)
abbrev rb:=List AtT
abbrev rz:=Option (Option tH)
abbrev sd (a:(Kd.slice (.int .i64)).ty):SV:=.c (.imm (.slice (.int .i64)) a)
abbrev sf (a:(Kd.slice kAt).ty):SV:=.c (.imm (.slice kAt) a)
abbrev sk (a:(Kd.slice kE).ty):SV:=.c (.imm (.slice kE) a)
abbrev sy (a:(Kd.slice kP).ty):SV:=.c (.imm (.slice kP) a)
abbrev tg (a:(Kd.slice kS).ty):SV:=.c (.imm (.slice kS) a)
theorem tq {c:Prop} {h:Decidable c} {α:Sort u} {t e:α} (hc:c:=by simp;omega):@ite α c h t e=t:=if_pos hc
theorem tt {c:Prop} {h:Decidable c} {α:Sort u} {t e:α} (hc:¬c:=by simp;omega):@ite α c h t e=e:=if_neg hc
theorem tw {c:Prop} {h:Decidable c} {α:Sort u} {t e:α} (hc:c:=by omega):@ite α c h t e=t:=if_pos hc
theorem tz {c:Prop} {h:Decidable c} {α:Sort u} {t e:α} (hc:¬c:=by omega):@ite α c h t e=e:=if_neg hc
theorem uf {c:Prop} {h:Decidable c} {α:Sort u} {t e:α} (hc:¬c:=by simp):@ite α c h t e=e:=if_neg hc
theorem ug {k:Nat} (h:0<k:=by omega):∃m,k=m+1:=⟨k-1,by omega⟩
def RY (K:Nat):=some (([]:qb)++[([]:pu)],([]:pu),([]:pu))
def MX (K:Nat):=(RY K).bind λa=>some (a.1,a.2.1,a.2.2)
def FI (K:Nat) (a:qb) (b:Int) (c d:pu):=some (ba .i64 ((ba .i64 (b+(a.length:Int)))-1))
def GA (K:Nat) (f:rb) (a:qb) (b:Int) (c d:pu):=(FI K a b c d).bind λe=>some e
def M6 (K:Nat) (a:rb) (b:qb) (c:Int) (d e:pu) (g:qo):=(GA K a b c d e).bind λf=>some f
def JC (K:Nat) (c:qb) (a:Int) (d e:pu) (b:Int):=if decide (b>=a)=true then (FI K c a d e).bind λf=>some (decide (b<=f)) else some false
def GV (K:Nat) (g:rb) (a:qb) (b:Int) (c d:pu) (e:Int):=(JC K a b c d e).bind λf=>some f
def QW (K:Nat) (a:qb) (b:Nat):=if b<bg a then some () else none
def SI (K:Nat) (a:qb) (b:Nat):=if b<bg a/\bg (bb a b [])*8<=140737488355328 then some (bb a b []) else none
def LS (K:Nat) (a:qb) (b:Nat):=if b<a.length/\0<=(((bg (bb a b [])):Nat):Int)/\(((bg (bb a b [])):Nat):Int)<=(((bg (bb a b [])):Nat):Int)/\(((bg (bb a b [])):Nat):Int)*8<=140737488355328/\(((bg (bb a b [])):Nat):Int)<=9223372036854775807 then (QW K a b).bind λd=>(SI K a b).bind λc=>some (tU (bn (bc (((bg (bb a b [])):Nat):Int)) (0:Int)) (cu (bg (bn (bc (((bg (bb a b [])):Nat):Int)) (0:Int))) c) 0) else none
def JD (K:Nat) (c:qb) (a:Int) (d e:pu) (b:Int):=(JC K c a d e b).bind λf=>if (!f)=true then some ([]:pu) else (LS K c (bc (ba .i64 (b-a)))).bind λg=>if 0<=(ba .i64 (b-a))/\(ba .i64 (b-a))<(c.length:Int) then some g else none
def FR (K:Nat) (g:rb) (a:qb) (b:Int) (c d:pu) (e:Int):=(JD K a b c d e).bind λf=>some f
def CI.l0 (K:Nat) (b:pu) (c:Int):Nat->Int->Option Int
 |0,_=>none
 |d+1,a=>if decide (a<(b.length:Int))=true then if 0<=a/\a<(b.length:Int) then if (c==(bb b a.toNat (0:Int)))=true then some a else CI.l0 K b c d (ba .i64 (a+1)) else none else some (-1:Int)
def CI (K:Nat) (a:pu) (b:Int):=CI.l0 K a b K (0:Int)
def EL (K:Nat) (a:pu) (b:Int):=(CI K a b).bind λc=>some (decide (c>=0))
def IE (K:Nat) (a:Int) (b:pu):=if (a==(-1:Int))=true then some true else (EL K b a).bind λc=>some (!c)
def K6 (K:Nat) (a b c:Int) (d:pu):=if decide (a<=c)=true then (IE K b d).bind λe=>some e else some false
def F3.l0 (K:Nat) (b:qo) (c:Int) (d:pu):Nat->Int->Option Int
 |0,_=>none
 |e+1,a=>if decide (a<(b.length:Int))=true then (K6 K (bb b a.toNat zP).1 (bb b a.toNat zP).2 c d).bind λf=>if 0<=a/\a<(b.length:Int) then if f=true then some a else F3.l0 K b c d e (ba .i64 (a+1)) else none else some (-1:Int)
def F3 (K:Nat) (a:qo) (b:Int) (c:pu):=F3.l0 K a b c K (0:Int)
def OI (K:Nat) (a:qo) (b:Int) (c:pu):=(F3 K a b c).bind λd=>some (decide (d>=0))
def FM (K:Nat) (i:np) (c d j:Int) (e:qo) (a:Int) (b:pu):=(if decide (c>a)=true then some true else (IE K d b).bind λf=>some (!f)).bind (λg=>if g=true then some false else (OI K e a b).bind λh=>some (!h))
def M0 (K:Nat) (a:pu):=some ()
def JV (K:Nat) (a:pu) (b:np):=(M0 K a).bind λc=>if (bg a+bg (tR b))*1<=140737488355328 then some ((b.size:Int),a++(tR b)) else none
def JU (K:Nat) (a:pu):=if inB a=true then some (tP a) else none
def CA.l0 (K:Nat) (b:rb) (c:Int) (d:pu):Nat->pu->Int->Option pu
 |0,_,_=>none
 |f+1,e,a=>if decide (a<(b.length:Int))=true then if 0<=a/\a<(b.length:Int) then (FM K (bb b a.toNat zAt).1 (bb b a.toNat zAt).2.1 (bb b a.toNat zAt).2.2.1 (bb b a.toNat zAt).2.2.2.1 (bb b a.toNat zAt).2.2.2.2 c d).bind λg=>if g=true then (JV K e (bb b a.toNat zAt).1).bind λh=>CA.l0 K b c d f h.2 (ba .i64 (a+1)) else CA.l0 K b c d f e (ba .i64 (a+1)) else none else some e
def CA (K:Nat) (a:rb) (b:Int) (c:pu):=(CA.l0 K a b c K ([]:pu) (0:Int)).bind (λd=>(JU K d).bind λe=>some e)
def FQ (K:Nat) (a:rb) (c:qb) (d:Int) (e f:pu) (b:Int):=(GV K a c d e f b).bind λg=>if (!g)=true then some (iu #[],(190:Int)) else (FR K a c d e f b).bind λh=>(CA K a b h).bind λi=>some (i,(0:Int))
def OT (K:Nat):=some ((128:Int),(0:Int),(0:Int),(224:Int),(192:Int),(128:Int),(240:Int),(224:Int),(2048:Int),(248:Int),(240:Int),(65536:Int))
def IA (K:Nat) (a:Int):=if decide (a>=0)=true then if decide (a<=1114111)=true then if decide (a<55296)=true then some true else some (decide (a>57343)) else some false else some false
def BC.l0 (K:Nat) (d b:Int) (c:np):Nat->Int->Int->Option ((Int×Int) ⊕ Int)
 |0,_,_=>none
 |f+1,e,a=>if decide (a<d)=true then if 0<=(ba .i64 (b+a))/\(ba .i64 (b+a))<(c.size:Int) then if ((ba .u8 (bz (bi (bh .u8) (bt c (ba .i64 (b+a))) &&&bi (bh .u8) (192:Int)))) !=128)=true then some (mj zP) else BC.l0 K d b c f (ba .i32 (bz (bi (bh .i32) (ba .i32 (e*64)) |||bi (bh .i32) (ba .i32 (ba .u8 (bz (bi (bh .u8) (bt c (ba .i64 (b+a))) &&& ~~~bi (bh .u8) (192:Int)))))))) (ba .i64 (a+1)) else none else some (ln e)
def BC (K:Nat) (b:np) (a c:Int) (e j f:Int):=if (decide ((ba .i64 ((b.size:Int)-a))<c))=true then some ((0:Int),(0:Int)) else if 0<=a/\a<(b.size:Int) then (BC.l0 K c a b K (ba .i32 (ba .u8 (bz (bi (bh .u8) (bt b a)&&& ~~~bi (bh .u8) e)))) (1:Int)).bind (la (λg=>some g) (λd=>(if decide (d<f)=true then some true else (IA K d).bind λh=>some (!h)).bind (λi=>if i=true then some ((0:Int),(0:Int)) else some (d,c)))) else none
def FA.l0 (K:Nat) (c:Int) (d:np) (a:Int×Int×Int×Int×Int×Int×Int×Int×Int×Int×Int×Int):Nat->Int->Option (Int×Int)
 |0,_=>none
 |f+1,b=>if decide (b<4)=true then if 0<=b/\b<((4:Nat):Int) then if 0<=c/\c<(d.size:Int) then if ((ba .u8 (bz (bi (bh .u8) (bt d c) &&&bi (bh .u8) (bb ([(a.1,a.2.1,a.2.2.1),(a.2.2.2.1,a.2.2.2.2.1,a.2.2.2.2.2.1),(a.2.2.2.2.2.2.1,a.2.2.2.2.2.2.2.1,a.2.2.2.2.2.2.2.2.1),(a.2.2.2.2.2.2.2.2.2.1,a.2.2.2.2.2.2.2.2.2.2.1,a.2.2.2.2.2.2.2.2.2.2.2)]:List (Int × (Int × Int))) b.toNat zS).1)))==(bb ([(a.1,a.2.1,a.2.2.1),(a.2.2.2.1,a.2.2.2.2.1,a.2.2.2.2.2.1),(a.2.2.2.2.2.2.1,a.2.2.2.2.2.2.2.1,a.2.2.2.2.2.2.2.2.1),(a.2.2.2.2.2.2.2.2.2.1,a.2.2.2.2.2.2.2.2.2.2.1,a.2.2.2.2.2.2.2.2.2.2.2)]:List (Int × (Int × Int))) b.toNat zS).2.1)=true then (BC K d c (ba .i64 (b+1)) (bb ([(a.1,a.2.1,a.2.2.1),(a.2.2.2.1,a.2.2.2.2.1,a.2.2.2.2.2.1),(a.2.2.2.2.2.2.1,a.2.2.2.2.2.2.2.1,a.2.2.2.2.2.2.2.2.1),(a.2.2.2.2.2.2.2.2.2.1,a.2.2.2.2.2.2.2.2.2.2.1,a.2.2.2.2.2.2.2.2.2.2.2)]:List (Int × (Int × Int))) b.toNat zS).1 (bb ([(a.1,a.2.1,a.2.2.1),(a.2.2.2.1,a.2.2.2.2.1,a.2.2.2.2.2.1),(a.2.2.2.2.2.2.1,a.2.2.2.2.2.2.2.1,a.2.2.2.2.2.2.2.2.1),(a.2.2.2.2.2.2.2.2.2.1,a.2.2.2.2.2.2.2.2.2.2.1,a.2.2.2.2.2.2.2.2.2.2.2)]:List (Int × (Int × Int))) b.toNat zS).2.1 (bb ([(a.1,a.2.1,a.2.2.1),(a.2.2.2.1,a.2.2.2.2.1,a.2.2.2.2.2.1),(a.2.2.2.2.2.2.1,a.2.2.2.2.2.2.2.1,a.2.2.2.2.2.2.2.2.1),(a.2.2.2.2.2.2.2.2.2.1,a.2.2.2.2.2.2.2.2.2.2.1,a.2.2.2.2.2.2.2.2.2.2.2)]:List (Int × (Int × Int))) b.toNat zS).2.2).bind λe=>some (e.1,e.2) else FA.l0 K c d a f (ba .i64 (b+1)) else none else none else some ((0:Int),(0:Int))
def FA (K:Nat) (b:np) (a:Int):=(if decide (a<0)=true then some true else some (decide (a>=(b.size:Int)))).bind (λc=>if c=true then some ((0:Int),(0:Int)) else (OT K).bind λd=>FA.l0 K a b d K (0:Int))
def M4 (K:Nat) (a:np) (b:Int):=(FA K a b).bind λc=>some c.2
def BY.l0 (K:Nat) (a:np):Nat->Int->Option Bool
 |0,_=>none
 |d+1,b=>if decide (b<(a.size:Int))=true then (M4 K a b).bind λc=>if (c==0)=true then some false else BY.l0 K a d (ba .i64 (b+c)) else some true
def BY (K:Nat) (a:np):=BY.l0 K a K (0:Int)
def GN.l0 (K:Nat) (b:np):Nat->pu->Int->Option pu
 |0,_,_=>none
 |e+1,a,c=>if decide (c<(b.size:Int))=true then (FA K b c).bind λd=>if (d.2==0)=true then if (bg a+bg ([(65533:Int)]:pu))*8<=140737488355328 then GN.l0 K b e (a++([(65533:Int)]:pu)) (ba .i64 (c+1)) else none else if (bg a+bg ([ba .i64 d.1]:pu))*8<=140737488355328 then GN.l0 K b e (a++([ba .i64 d.1]:pu)) (ba .i64 (c+d.2)) else none else some a
def GN (K:Nat) (a:np):=GN.l0 K a K ([]:pu) (0:Int)
def TA (K:Nat) (b:pu) (a:Int):=if decide ((ba .u32 a)<=2047)=true then if (bg b+bg ([ba .u8 (bz (bi (bh .u8) (192:Int)|||bi (bh .u8) (ba .u8 (bw a (64:Int))))),ba .u8 (bz (bi (bh .u8) (128:Int)|||bi (bh .u8) (ba .u8 (bz (bi (bh .u8) (ba .u8 a)&&&bi (bh .u8) (63:Int))))))]:pu))*1<=140737488355328 then some (b++([ba .u8 (bz (bi (bh .u8) (192:Int)|||bi (bh .u8) (ba .u8 (bw a (64:Int))))),ba .u8 (bz (bi (bh .u8) (128:Int)|||bi (bh .u8) (ba .u8 (bz (bi (bh .u8) (ba .u8 a)&&&bi (bh .u8) (63:Int))))))]:pu)) else none else (if decide ((ba .u32 a)<55296)=true then some (decide ((ba .u32 a)<55296)) else if decide (57343<(ba .u32 a))=true then some (decide ((ba .u32 a)<=65535)) else some false).bind (λc=>if c=true then if (bg b+bg ([ba .u8 (bz (bi (bh .u8) (224:Int)|||bi (bh .u8) (ba .u8 (bw a (4096:Int))))),ba .u8 (bz (bi (bh .u8) (128:Int)|||bi (bh .u8) (ba .u8 (bz (bi (bh .u8) (ba .u8 (bw a (64:Int)))&&&bi (bh .u8) (63:Int)))))),ba .u8 (bz (bi (bh .u8) (128:Int)|||bi (bh .u8) (ba .u8 (bz (bi (bh .u8) (ba .u8 a)&&&bi (bh .u8) (63:Int))))))]:pu))*1<=140737488355328 then some (b++([ba .u8 (bz (bi (bh .u8) (224:Int)|||bi (bh .u8) (ba .u8 (bw a (4096:Int))))),ba .u8 (bz (bi (bh .u8) (128:Int)|||bi (bh .u8) (ba .u8 (bz (bi (bh .u8) (ba .u8 (bw a (64:Int)))&&&bi (bh .u8) (63:Int)))))),ba .u8 (bz (bi (bh .u8) (128:Int)|||bi (bh .u8) (ba .u8 (bz (bi (bh .u8) (ba .u8 a)&&&bi (bh .u8) (63:Int))))))]:pu)) else none else (if decide ((ba .u32 a)>65535)=true then some (decide ((ba .u32 a)<=1114111)) else some false).bind (λd=>if d=true then if (bg b+bg ([ba .u8 (bz (bi (bh .u8) (240:Int)|||bi (bh .u8) (ba .u8 (bw a (262144:Int))))),ba .u8 (bz (bi (bh .u8) (128:Int)|||bi (bh .u8) (ba .u8 (bz (bi (bh .u8) (ba .u8 (bw a (4096:Int)))&&&bi (bh .u8) (63:Int)))))),ba .u8 (bz (bi (bh .u8) (128:Int)|||bi (bh .u8) (ba .u8 (bz (bi (bh .u8) (ba .u8 (bw a (64:Int)))&&&bi (bh .u8) (63:Int)))))),ba .u8 (bz (bi (bh .u8) (128:Int)|||bi (bh .u8) (ba .u8 (bz (bi (bh .u8) (ba .u8 a)&&&bi (bh .u8) (63:Int))))))]:pu))*1<=140737488355328 then some (b++([ba .u8 (bz (bi (bh .u8) (240:Int)|||bi (bh .u8) (ba .u8 (bw a (262144:Int))))),ba .u8 (bz (bi (bh .u8) (128:Int)|||bi (bh .u8) (ba .u8 (bz (bi (bh .u8) (ba .u8 (bw a (4096:Int)))&&&bi (bh .u8) (63:Int)))))),ba .u8 (bz (bi (bh .u8) (128:Int)|||bi (bh .u8) (ba .u8 (bz (bi (bh .u8) (ba .u8 (bw a (64:Int)))&&&bi (bh .u8) (63:Int)))))),ba .u8 (bz (bi (bh .u8) (128:Int)|||bi (bh .u8) (ba .u8 (bz (bi (bh .u8) (ba .u8 a)&&&bi (bh .u8) (63:Int))))))]:pu)) else none else if (bg b+bg ([(239:Int),(191:Int),(189:Int)]:pu))*1<=140737488355328 then some (b++([(239:Int),(191:Int),(189:Int)]:pu)) else none))
def T9 (K:Nat) (b:pu) (a:Int):=if decide ((ba .u32 a)<=127)=true then if (bg b+bg ([ba .u8 a]:pu))*1<=140737488355328 then some (b++([ba .u8 a]:pu)) else none else (TA K b a).bind λc=>some c
def ST (K:Nat) (a:pu) (c:Int):=(M0 K a).bind λd=>(T9 K a c).bind λb=>some (ba .i64 ((b.length:Int)-(a.length:Int)),b)
def HK.l0 (K:Nat) (b:pu):Nat->pu->Int->Option pu
 |0,_,_=>none
 |d+1,c,a=>if decide (a<(b.length:Int))=true then if 0<=a/\a<(b.length:Int) then (if decide ((bb b a.toNat (0:Int))>=0)=true then if decide ((bb b a.toNat (0:Int))<=1114111)=true then (IA K (ba .i32 (bb b a.toNat (0:Int)))).bind λe=>some e else some false else some false).bind (λf=>(if f=true then some (ba .i32 (bb b a.toNat (0:Int))) else some (65533:Int)).bind (λg=>(ST K c g).bind λh=>HK.l0 K b d h.2 (ba .i64 (a+1)))) else none else some c
def HK (K:Nat) (a:pu):=(HK.l0 K a K ([]:pu) (0:Int)).bind (λb=>(JU K b).bind λc=>some c)
def I9 (K:Nat) (a:np):=(BY K a).bind λb=>if b=true then some a else (GN K a).bind λc=>(HK K c).bind λd=>some d
def KA (K:Nat) (a:Int):=if decide (a>=65536)=true then some (2:Int) else some (1:Int)
def K9 (K:Nat) (a:Int):=(KA K a).bind λb=>if (a==10)=true then some ((((cr (gi a)):Nat):Int),(1:Int),b,(1:Int)) else some ((((cr (gi a)):Nat):Int),(1:Int),b,(0:Int))
def HQ (K:Nat) (a b:Int) (c d:Int) (e f:Int) (g h:Int):=some (ba .i64 (a+e),ba .i64 (b+f),ba .i64 (c+g),ba .i64 (d+h))
def FF.l0 (K:Nat) (a:np):Nat->Int->Int->Int->Int->Nat->Option (Int×Int×Int×Int)
 |0,_,_,_,_,_=>none
 |i+1,e,f,g,h,b=>if decide (b<cr a)=true then (K9 K (((gj a b).1:Nat):Int)).bind λc=>(HQ K e f g h c.1 c.2.1 c.2.2.1 c.2.2.2).bind λd=>FF.l0 K a i d.1 d.2.1 d.2.2.1 d.2.2.2 (b+(gj a b).2) else some (e,f,g,h)
def FF (K:Nat) (a:np):=(I9 K a).bind λb=>FF.l0 K b K (0:Int) (0:Int) (0:Int) (0:Int) (0:Nat)
def LT (K:Nat) (b:np):=(FF K b).bind λa=>some (a.1,a.2.1,a.2.2.1,a.2.2.2)
def JI (K:Nat) (b c:Int) (d e:Int) (f g:Int) (h i:Int):=(HQ K b c d e f g h i).bind λa=>some (a.1,a.2.1,a.2.2.1,a.2.2.2)
def F6.l0 (K:Nat) (a:List np):Nat->Int->Int->Int->Int->Int->rz
 |0,_,_,_,_,_=>none
 |i+1,e,f,g,h,b=>if decide (b<(a.length:Int))=true then if 0<=b/\b<(a.length:Int) then (LT K (bb a b.toNat cc)).bind λc=>(JI K e f g h c.1 c.2.1 c.2.2.1 c.2.2.2).bind λd=>F6.l0 K a i d.1 d.2.1 d.2.2.1 d.2.2.2 (ba .i64 (b+1)) else none else some (some (tH.mk ([]:List (Option tH)) a (a.length:Int) (1:Int) e f g h))
def F6 (K:Nat) (a:List np):rz:=F6.l0 K a K (0:Int) (0:Int) (0:Int) (0:Int) (0:Int)
def F8.l0 (K:Nat) (a:List np):Nat->(List (Option tH))->Int->Option (List (Option tH))
 |0,_,_=>none
 |e+1,c,b=>if (decide (b<(ba .i64 (eq (ba .i64 ((ba .i64 ((a.length:Int)+16))-1)) (16:Int)))))=true then if (ba .i64 (eq (ba .i64 ((ba .i64 ((a.length:Int)+16))-1)) (16:Int)))≠0/\0<=(ba .i64 (eq (ba .i64 ((a.length:Int)*b)) (ba .i64 (eq (ba .i64 ((ba .i64 ((a.length:Int)+16))-1)) (16:Int)))))/\(ba .i64 (eq (ba .i64 ((a.length:Int)*b)) (ba .i64 (eq (ba .i64 ((ba .i64 ((a.length:Int)+16))-1)) (16:Int)))))<=(ba .i64 (eq (ba .i64 ((a.length:Int)*(ba .i64 (b+1)))) (ba .i64 (eq (ba .i64 ((ba .i64 ((a.length:Int)+16))-1)) (16:Int)))))/\(ba .i64 (eq (ba .i64 ((a.length:Int)*(ba .i64 (b+1)))) (ba .i64 (eq (ba .i64 ((ba .i64 ((a.length:Int)+16))-1)) (16:Int)))))<=(a.length:Int) then (F6 K (cu ((bc (ba .i64 (eq (ba .i64 ((a.length:Int)*(ba .i64 (b+1)))) (ba .i64 (eq (ba .i64 ((ba .i64 ((a.length:Int)+16))-1)) (16:Int))))))-(bc (ba .i64 (eq (ba .i64 ((a.length:Int)*b)) (ba .i64 (eq (ba .i64 ((ba .i64 ((a.length:Int)+16))-1)) (16:Int))))))) (gf (bc (ba .i64 (eq (ba .i64 ((a.length:Int)*b)) (ba .i64 (eq (ba .i64 ((ba .i64 ((a.length:Int)+16))-1)) (16:Int)))))) a))).bind λd=>if bg (cu ((bc (ba .i64 (eq (ba .i64 ((a.length:Int)*(ba .i64 (b+1)))) (ba .i64 (eq (ba .i64 ((ba .i64 ((a.length:Int)+16))-1)) (16:Int))))))-(bc (ba .i64 (eq (ba .i64 ((a.length:Int)*b)) (ba .i64 (eq (ba .i64 ((ba .i64 ((a.length:Int)+16))-1)) (16:Int))))))) (gf (bc (ba .i64 (eq (ba .i64 ((a.length:Int)*b)) (ba .i64 (eq (ba .i64 ((ba .i64 ((a.length:Int)+16))-1)) (16:Int)))))) a))*16<=140737488355328/\(bg c+bg ([d]:List (Option tH)))*8<=140737488355328 then F8.l0 K a e (c++([d]:List (Option tH))) (ba .i64 (b+1)) else none else none else some c
def F8 (K:Nat) (a:List np):=F8.l0 K a K ([]:List (Option tH)) (0:Int)
def EQ.l0 (K:Nat) (a:List (Option tH)):Nat->Int->Int->Int->Int->Int->Int->rz
 |0,_,_,_,_,_,_=>none
 |j+1,e,f,g,h,i,b=>if decide (b<(a.length:Int))=true then if 0<=b/\b<(a.length:Int) then if lf (bb a b.toNat (none:Option tH))=true then (JI K f g h i (tH.s1 (gz (bb a b.toNat (none:Option tH)) (tH.mk [] [] 0 0 0 0 0 0))) (tH.s2 (gz (bb a b.toNat (none:Option tH)) (tH.mk [] [] 0 0 0 0 0 0))) (tH.s3 (gz (bb a b.toNat (none:Option tH)) (tH.mk [] [] 0 0 0 0 0 0))) (tH.s4 (gz (bb a b.toNat (none:Option tH)) (tH.mk [] [] 0 0 0 0 0 0)))).bind λc=>EQ.l0 K a j (ba .i64 (e+(tH.n (gz (bb a b.toNat (none:Option tH)) (tH.mk [] [] 0 0 0 0 0 0))))) c.1 c.2.1 c.2.2.1 c.2.2.2 (ba .i64 (b+1)) else none else none else some (some (tH.mk a ([]:List np) e (ba .i64 ((tH.d (gz (bb a 0 (none:Option tH)) (tH.mk [] [] 0 0 0 0 0 0)))+1)) f g h i))
def EQ (K:Nat) (a:List (Option tH)):rz:=if 0<(a.length:Int)/\lf (bb a 0 (none:Option tH))=true then EQ.l0 K a K (0:Int) (0:Int) (0:Int) (0:Int) (0:Int) (0:Int) else none
def F7.l0 (K:Nat) (a:List (Option tH)):Nat->(List (Option tH))->Int->Option (List (Option tH))
 |0,_,_=>none
 |e+1,c,b=>if (decide (b<(ba .i64 (eq (ba .i64 ((ba .i64 ((a.length:Int)+16))-1)) (16:Int)))))=true then if (ba .i64 (eq (ba .i64 ((ba .i64 ((a.length:Int)+16))-1)) (16:Int)))≠0/\0<=(ba .i64 (eq (ba .i64 ((a.length:Int)*b)) (ba .i64 (eq (ba .i64 ((ba .i64 ((a.length:Int)+16))-1)) (16:Int)))))/\(ba .i64 (eq (ba .i64 ((a.length:Int)*b)) (ba .i64 (eq (ba .i64 ((ba .i64 ((a.length:Int)+16))-1)) (16:Int)))))<=(ba .i64 (eq (ba .i64 ((a.length:Int)*(ba .i64 (b+1)))) (ba .i64 (eq (ba .i64 ((ba .i64 ((a.length:Int)+16))-1)) (16:Int)))))/\(ba .i64 (eq (ba .i64 ((a.length:Int)*(ba .i64 (b+1)))) (ba .i64 (eq (ba .i64 ((ba .i64 ((a.length:Int)+16))-1)) (16:Int)))))<=(a.length:Int) then (EQ K (cu ((bc (ba .i64 (eq (ba .i64 ((a.length:Int)*(ba .i64 (b+1)))) (ba .i64 (eq (ba .i64 ((ba .i64 ((a.length:Int)+16))-1)) (16:Int))))))-(bc (ba .i64 (eq (ba .i64 ((a.length:Int)*b)) (ba .i64 (eq (ba .i64 ((ba .i64 ((a.length:Int)+16))-1)) (16:Int))))))) (gf (bc (ba .i64 (eq (ba .i64 ((a.length:Int)*b)) (ba .i64 (eq (ba .i64 ((ba .i64 ((a.length:Int)+16))-1)) (16:Int)))))) a))).bind λd=>if bg (cu ((bc (ba .i64 (eq (ba .i64 ((a.length:Int)*(ba .i64 (b+1)))) (ba .i64 (eq (ba .i64 ((ba .i64 ((a.length:Int)+16))-1)) (16:Int))))))-(bc (ba .i64 (eq (ba .i64 ((a.length:Int)*b)) (ba .i64 (eq (ba .i64 ((ba .i64 ((a.length:Int)+16))-1)) (16:Int))))))) (gf (bc (ba .i64 (eq (ba .i64 ((a.length:Int)*b)) (ba .i64 (eq (ba .i64 ((ba .i64 ((a.length:Int)+16))-1)) (16:Int)))))) a))*8<=140737488355328/\(bg c+bg ([d]:List (Option tH)))*8<=140737488355328 then F7.l0 K a e (c++([d]:List (Option tH))) (ba .i64 (b+1)) else none else none else some c
def F7 (K:Nat) (a:List (Option tH)):=F7.l0 K a K ([]:List (Option tH)) (0:Int)
def F5.l0 (K:Nat):Nat->(List (Option tH))->rz
 |0,_=>none
 |b+1,a=>if decide ((a.length:Int)>1)=true then (F7 K a).bind λc=>F5.l0 K b c else if 0<(a.length:Int) then some (bb a 0 (none:Option tH)) else none
def F5 (K:Nat) (a:List np):rz:=if ((a.length:Int)==0)=true then some (none:Option tH) else (F8 K a).bind λb=>F5.l0 K K b
def BX.l1 (K:Nat) (b:np):Nat->Int->Option Int
 |0,_=>none
 |c+1,a=>if 0<=a/\a<(b.size:Int) then if ((ba .u8 (bz (bi (bh .u8) (bt b a) &&&bi (bh .u8) (192:Int))))==128)=true then BX.l1 K b c (ba .i64 (a-1)) else some a else none
def BX.l0 (K:Nat):Nat->np->(List np)->Option (List np)
 |0,_,_=>none
 |e+1,a,b=>if (!(ex a==ex (iu #[])))=true then (if decide ((a.size:Int)>64)=true then (BX.l1 K a K (64:Int)).bind (λc=>if 0<=c/\c<=(a.size:Int)/\(bg b+bg ([io a 0 c.toNat]:List np))*16<=140737488355328 then some (io a c.toNat a.size,b++([io a 0 c.toNat]:List np)) else none) else if 0<=(a.size:Int)/\(a.size:Int)<=(a.size:Int)/\(bg b+bg ([io a 0 (bc (a.size:Int))]:List np))*16<=140737488355328 then some (io a (bc (a.size:Int)) a.size,b++([io a 0 (bc (a.size:Int))]:List np)) else none).bind (λd=>BX.l0 K e d.1 d.2) else some b
def BX (K:Nat) (a:np):rz:=(BX.l0 K K a ([]:List np)).bind (λb=>(F5 K b).bind λc=>some c)
def JH (K:Nat) (b:np):=(I9 K b).bind λa=>if decide ((a.size:Int)>20000)=true then some ((none:rz),(13:Int)) else (BX K a).bind λc=>some (some c,(0:Int))
def OW (K:Nat) (a:rb) (b:qb) (c:Int) (d e:pu) (f:qo):=(M6 K a b c d e f).bind λg=>(FQ K a b c d e g).bind λh=>(JH K h.1).bind λi=>some i.1
def JY (K:Nat):=(MX K).bind λa=>(OW K ([]:rb) a.1 (0:Int) a.2.1 a.2.2 (bn 1 zP)).bind λb=>some (a.1,a.2.1,a.2.2,b)
def GJ (K:Nat) (a:qo):=if (bg ([]:qo)+bg a)*16<=140737488355328 then some (([]:qo)++a) else none
def CO.l0 (K:Nat) (d:rb):Nat->Nat->rb->Int->Option rb
 |0,_,_,_=>none
 |e+1,b,c,a=>if (decide (a<(((bg (tU (bn (bc (d.length:Int)) zAt) (cu (bg (bn (bc (d.length:Int)) zAt)) d) 0)):Nat):Int)))=true then (GJ K (bb c a.toNat zAt).2.2.2.2).bind λf=>if 0<=a/\a<(c.length:Int)/\b<=a.toNat/\a.toNat=b then CO.l0 K d e (b+1) (uZ c b f) (ba .i64 (a+1)) else none else if c.length<=b then some c else none
def CO (K:Nat) (a:rb):=if 0<=(a.length:Int)/\(a.length:Int)<=(a.length:Int)/\(a.length:Int)*64<=140737488355328/\(a.length:Int)<=9223372036854775807 then CO.l0 K a K (0:Nat) (tU (bn (bc (a.length:Int)) zAt) (cu (bg (bn (bc (a.length:Int)) zAt)) a) 0) (0:Int) else none
def KX (K:Nat) (a:pu):=some a
def I0 (K:Nat) (a:qb) (b:Nat):=if b<bg a then some (bb a b []) else none
def EJ.l0 (K:Nat) (b:qb) (d e:pu):Nat->qb->Int->Option (qb×pu×pu)
 |0,_,_=>none
 |f+1,c,a=>if decide (a<(b.length:Int))=true then if 0<=a/\a<(b.length:Int) then (I0 K b a.toNat).bind λg=>if (c.length+1)*8<=140737488355328 then EJ.l0 K b d e f (c++[g]) (ba .i64 (a+1)) else none else none else some (c,d,e)
def EJ (K:Nat) (a:qb) (f:Int) (b c:pu):=(KX K b).bind λd=>(KX K c).bind λe=>EJ.l0 K a d e K ([]:qb) (0:Int)
def HT (K:Nat) (b:rb) (c:qb) (d:Int) (e f:pu):=(CO K b).bind λg=>(EJ K c d e f).bind λa=>some (g,a.1,a.2.1,a.2.2)
def OX (K:Nat) (a:qo):=if 0<=(a.length:Int)/\(a.length:Int)<=(a.length:Int)/\(a.length:Int)*16<=140737488355328/\(a.length:Int)<=9223372036854775807 then some (tU (bn (bc (a.length:Int)) zP) (cu (bg (bn (bc (a.length:Int)) zP)) a) 0) else none
def K1 (K:Nat) (c:rb) (d:qb) (e:Int) (f g:pu) (h:rz) (a:qo) (i:qe) (j:pu):=(OX K a).bind λb=>some b
def OY (K:Nat) (a:qe):=if 0<=(a.length:Int)/\(a.length:Int)<=(a.length:Int)/\(a.length:Int)*24<=140737488355328/\(a.length:Int)<=9223372036854775807 then some (tU (bn (bc (a.length:Int)) zS) (cu (bg (bn (bc (a.length:Int)) zS)) a) 0) else none
def K2 (K:Nat) (c:rb) (d:qb) (e:Int) (f g:pu) (h:rz) (i:qo) (a:qe) (j:pu):=(OY K a).bind λb=>some b
def OZ (K:Nat) (a:pu):=if 0<=(a.length:Int)/\(a.length:Int)<=(a.length:Int)/\(a.length:Int)*8<=140737488355328/\(a.length:Int)<=9223372036854775807 then some (tU (bn (bc (a.length:Int)) (0:Int)) (cu (bg (bn (bc (a.length:Int)) (0:Int))) a) 0) else none
def JZ (K:Nat) (c:rb) (d:qb) (e:Int) (f g:pu) (h:rz) (i:qo) (j:qe) (a:pu):=(OZ K a).bind λb=>some b
def IB (K:Nat) (a:rb) (b:qb) (c:Int) (d e:pu) (g:rz) (h:qo) (i:qe) (j:pu):=(HT K a b c d e).bind λf=>(K1 K a b c d e g h i j).bind λk=>(K2 K a b c d e g h i j).bind λl=>(JZ K a b c d e g h i j).bind λm=>some (f.1,f.2.1,f.2.2.1,f.2.2.2,k,l,m)
def K3 (K:Nat):=some (false,true,true,false,false,true,true,false,false)
def KK (K:Nat) (a b:Int) (d c:np):=if decide (a<0)=true then some true else if decide (a>b)=true then some true else some (decide (b>(c.size:Int)))
def BN.l0 (K:Nat) (b:qg) (c:np) (d:Int):Nat->Int->Option Int
 |0,_=>none
 |e+1,a=>if decide (a<(b.length:Int))=true then if 0<=a/\a<(b.length:Int) then (KK K (bb b a.toNat zE).1 (bb b a.toNat zE).2.1 (bb b a.toNat zE).2.2 c).bind λf=>if f=true then some d else BN.l0 K b c d e (ba .i64 (a+1)) else none else some (0:Int)
def BN (K:Nat) (a:qg) (b:Int) (c:np):=BN.l0 K a c b K (0:Int)
def CL (K:Nat) (b:np) (a:Int):=if decide (a>=0)=true then if decide (a<=(b.size:Int))=true then if (a==(b.size:Int))=true then (BY K b).bind λc=>some c else if ((ba .u8 (bz (bi (bh .u8) (bt b a)&&&bi (bh .u8) (192:Int)))) !=128)=true then (BY K b).bind λd=>if 0<=a/\a<(b.size:Int) then some d else none else if 0<=a/\a<(b.size:Int) then some false else none else some false else some false
def KJ (K:Nat) (a:Int) (b:np):=(CL K b a).bind λc=>some c
def KL (K:Nat) (b c:Int) (f a:np):=(KJ K b a).bind λd=>if (!d)=true then some true else (KJ K c a).bind λe=>some (!e)
def BO.l0 (K:Nat) (b:qg) (c:np) (d:Int):Nat->Int->Option Int
 |0,_=>none
 |e+1,a=>if decide (a<(b.length:Int))=true then if 0<=a/\a<(b.length:Int) then (KL K (bb b a.toNat zE).1 (bb b a.toNat zE).2.1 (bb b a.toNat zE).2.2 c).bind λf=>if f=true then some d else BO.l0 K b c d e (ba .i64 (a+1)) else none else some (0:Int)
def BO (K:Nat) (a:qg) (b:Int) (c:np):=BO.l0 K a c b K (0:Int)
def BF.l0 (K:Nat) (b:qg):Nat->Int->Option Int
 |0,_=>none
 |c+1,a=>if decide (a<(b.length:Int))=true then if 0<=(ba .i64 (a-1))/\(ba .i64 (a-1))<(b.length:Int)/\0<=a/\a<(b.length:Int) then (if (decide ((bb b a.toNat zE).1<(bb b (bc (ba .i64 (a-1))) zE).2.1))=true then some true else if ((bb b (bc (ba .i64 (a-1))) zE).1==(bb b a.toNat zE).1)=true then some ((bb b (bc (ba .i64 (a-1))) zE).2.1==(bb b a.toNat zE).1) else some false).bind (λd=>if d=true then some (180:Int) else BF.l0 K b c (ba .i64 (a+1))) else none else some (0:Int)
def BF (K:Nat) (a:qg):=BF.l0 K a K (1:Int)
def ML (K:Nat) (c d:Int) (a:np):=(BY K a).bind λb=>some (!b)
def BP.l0 (K:Nat) (b:qg) (c:Int):Nat->Int->Option Int
 |0,_=>none
 |d+1,a=>if decide (a<(b.length:Int))=true then if 0<=a/\a<(b.length:Int) then (ML K (bb b a.toNat zE).1 (bb b a.toNat zE).2.1 (bb b a.toNat zE).2.2).bind λe=>if e=true then some c else BP.l0 K b c d (ba .i64 (a+1)) else none else some (0:Int)
def BP (K:Nat) (a:qg) (b:Int):=BP.l0 K a b K (0:Int)
def AN.l0 (K:Nat) (b:qg) (c:np):Nat->Int->Int->Option Int
 |0,_,_=>none
 |e+1,d,a=>if decide (a<(b.length:Int))=true then if 0<=a/\a<(b.length:Int) then AN.l0 K b c e (ba .i64 (d+(mn2 (mx2 (ba .i64 ((bb b a.toNat zE).2.1-(bb b a.toNat zE).1)) (0:Int)) (c.size:Int)))) (ba .i64 (a+1)) else none else some d
def AN.l1 (K:Nat) (b:qg):Nat->Int->Int->Option (Int ⊕ Int)
 |0,_,_=>none
 |d+1,c,a=>if decide (a<(b.length:Int))=true then if 0<=a/\a<(b.length:Int) then if (decide ((((cr (bb b a.toNat zE).2.2):Nat):Int)>c))=true then some (mj (13:Int)) else AN.l1 K b d (ba .i64 (c-(((cr (bb b a.toNat zE).2.2):Nat):Int))) (ba .i64 (a+1)) else none else some (ln c)
def AN (K:Nat) (a:np) (b:qg):=(AN.l0 K b a K (ba .i64 ((20000:Int)-(a.size:Int))) (0:Int)).bind (λc=>(AN.l1 K b K c (0:Int)).bind (la (λd=>some d) (λe=>if decide (e<0)=true then some (13:Int) else some (0:Int))))
def B4.l0 (K:Nat) (b c:Int) (d e f:Int):Nat->Int->Option Int
 |0,_=>none
 |g+1,a=>if (decide (a<(((bg ([b,c,d,e,f]:pu)):Nat):Int)))=true then if 0<=a/\a<(((bg ([b,c,d,e,f]:pu)):Nat):Int) then if ((bb ([b,c,d,e,f]:pu) a.toNat (0:Int)) !=0)=true then some (bb ([b,c,d,e,f]:pu) a.toNat (0:Int)) else B4.l0 K b c d e f g (ba .i64 (a+1)) else none else some (0:Int)
def B4 (K:Nat) (b:np) (a:qg):=(BY K b).bind λc=>if (!c)=true then some (12:Int) else if decide ((a.length:Int)>8)=true then some (70:Int) else (BN K a (10:Int) b).bind λd=>(BO K a (11:Int) b).bind λe=>(BF K a).bind λf=>(BP K a (12:Int)).bind λg=>(AN K b a).bind λh=>B4.l0 K d e f g h K (0:Int)
def HE (K:Nat) (a:qb) (b:Int) (c d:pu):=(FI K a b c d).bind λe=>if decide (e>=200)=true then some () else (I0 K a (bc (ba .i64 ((a.length:Int)-1)))).bind λf=>if 0<=(ba .i64 ((a.length:Int)-1))/\(ba .i64 ((a.length:Int)-1))<(a.length:Int) then if (a.length+1)*8<=140737488355328 then none else none else none
def JF (K:Nat) (a:qb) (b:Int) (c d:pu):=(FI K a b c d).bind λe=>if decide (e>=200)=true then none else (I0 K a (bc (ba .i64 ((a.length:Int)-1)))).bind λf=>if 0<=(ba .i64 ((a.length:Int)-1))/\(ba .i64 ((a.length:Int)-1))<(a.length:Int) then if (a.length+1)*8<=140737488355328 then some (f,a) else none else none
def OC (K:Nat) (a:qb) (b:pu) (c:Int) (d e:pu):=some (ba .i64 ((ba .i64 (c+(((a.length+1):Nat):Int)))-1),a++[b])
def LQ (K:Nat) (c:qb) (e:Int) (a d:pu) (b:Int):=(if (mq d b)=true then some true else if decide (b<0)=true then some true else some (decide (b>=60))).bind (λh=>if h=true then some ((0:Int),(210:Int),c,a) else if (lf (HE K c e a d))=true then (HE K c e a d).bind λi=>some ((0:Int),(70:Int),c,a) else (JF K c e a d).bind λf=>if (-9223372036854775808:Int)<=b/\b<=9223372036854775807 then (OC K f.2 f.1 e (tZ b a) d).bind λg=>some (g.1,(0:Int),g.2,tZ b a) else none)
def D2.l0 (K:Nat) (b:rb) (e:Int) (f:pu):Nat->pu->Int->Int->Option pu
 |0,_,_,_=>none
 |g+1,d,c,a=>if decide (a<(b.length:Int))=true then if 0<=a/\a<(b.length:Int)/\(bg d+bg ([c]:pu))*8<=140737488355328 then (FM K (bb b a.toNat zAt).1 (bb b a.toNat zAt).2.1 (bb b a.toNat zAt).2.2.1 (bb b a.toNat zAt).2.2.2.1 (bb b a.toNat zAt).2.2.2.2 e f).bind λh=>if h=true then D2.l0 K b e f g (d++([c]:pu)) (ba .i64 (c+(((cr (bb b a.toNat zAt).1):Nat):Int))) (ba .i64 (a+1)) else D2.l0 K b e f g (d++([c]:pu)) c (ba .i64 (a+1)) else none else if (bg d+bg ([c]:pu))*8<=140737488355328 then some (d++([c]:pu)) else none
def D2 (K:Nat) (a:rb) (b:Int) (c:pu):=if 0<=(ba .i64 ((a.length:Int)+1))/\(ba .i64 ((a.length:Int)+1))*8<=140737488355328/\(ba .i64 ((a.length:Int)+1))<=9223372036854775807 then D2.l0 K a b c K (bn 0 (0:Int)) (0:Int) (0:Int) else none
def BD.l0 (K:Nat) (b:rb) (c:pu) (d e:Int) (f:pu):Nat->Int->Int->Option Int
 |0,_,_=>none
 |g+1,h,a=>if decide (a<(b.length:Int))=true then if 0<=a/\a<(b.length:Int) then (if decide ((bb c a.toNat (0:Int))<d)=true then (FM K (bb b a.toNat zAt).1 (bb b a.toNat zAt).2.1 (bb b a.toNat zAt).2.2.1 (bb b a.toNat zAt).2.2.2.1 (bb b a.toNat zAt).2.2.2.2 e f).bind λi=>if a<(c.length:Int) then some i else none else if a<(c.length:Int) then some false else none).bind (λj=>if j=true then BD.l0 K b c d e f g (ba .i64 (a+1)) (ba .i64 (a+1)) else BD.l0 K b c d e f g h (ba .i64 (a+1))) else none else some h
def BD.l1 (K:Nat) (b:rb) (c d:Int):Nat->Int->Option Int
 |0,_=>none
 |e+1,a=>(if decide (a<(b.length:Int))=true then if decide ((bb b a.toNat zAt).2.1>c)=true then if 0<=a/\a<(b.length:Int) then some (decide ((bb b a.toNat zAt).2.2.2.1<=d)) else none else if 0<=a/\a<(b.length:Int) then some false else none else some false).bind (λf=>if f=true then BD.l1 K b c d e (ba .i64 (a+1)) else some a)
def BD (K:Nat) (a:rb) (c:pu) (b:Int) (d:pu) (e f:Int):=(BD.l0 K a c e b d K (0:Int) (0:Int)).bind (λg=>BD.l1 K a b f K g)
def BM.l0 (K:Nat) (b:qg) (d:rb) (e:pu) (f:Int) (g:pu) (h:Int):Nat->pu->Int->Option pu
 |0,_,_=>none
 |j+1,c,a=>if decide (a<(b.length:Int))=true then if 0<=a/\a<(b.length:Int) then (BD K d e f g (bb b a.toNat zE).1 h).bind λi=>if (bg c+bg ([i]:pu))*8<=140737488355328 then BM.l0 K b d e f g h j (c++([i]:pu)) (ba .i64 (a+1)) else none else none else some c
def BM (K:Nat) (a:rb) (b:Int) (c:pu) (d:qg) (e:Int):=(CA K a b c).bind λf=>(B4 K f d).bind λg=>if (g !=0)=true then some ([]:pu) else (D2 K a b c).bind λh=>BM.l0 K d a h b c e K ([]:pu) (0:Int)
def AM.l1 (K:Nat) (c:qg) (d:pu) (a:Int) (e:pu):Nat->Int->Option pu
 |0,_=>none
 |f+1,b=>if decide (b<(c.length:Int))=true then if 0<=b/\b<(c.length:Int) then (if decide ((bb d a.toNat (0:Int))>=(bb c b.toNat zE).1)=true then if a<(d.length:Int) then some (decide ((bb d a.toNat (0:Int))<(bb c b.toNat zE).2.1)) else none else if a<(d.length:Int) then some false else none).bind (λg=>if g=true then if (bg e+bg ([a]:pu))*8<=140737488355328 then some (e++([a]:pu)) else none else AM.l1 K c d a e f (ba .i64 (b+1))) else none else some e
def AM.l0 (K:Nat) (b:rb) (d:Int) (e:pu) (f:qg) (g:pu):Nat->pu->Int->Option pu
 |0,_,_=>none
 |h+1,c,a=>if decide (a<(b.length:Int))=true then (if 0<=a/\a<(b.length:Int) then (FM K (bb b a.toNat zAt).1 (bb b a.toNat zAt).2.1 (bb b a.toNat zAt).2.2.1 (bb b a.toNat zAt).2.2.2.1 (bb b a.toNat zAt).2.2.2.2 d e).bind λi=>if (!i)=true then some c else AM.l1 K f g a c K (0:Int) else none).bind (λj=>AM.l0 K b d e f g h j (ba .i64 (a+1))) else some c
def AM (K:Nat) (a:rb) (b:Int) (c:pu) (d:qg):=(CA K a b c).bind λe=>(B4 K e d).bind λf=>if (f !=0)=true then some ([]:pu) else (D2 K a b c).bind λg=>AM.l0 K a b c d g K ([]:pu) (0:Int)
def G3.l0 (K:Nat):Nat->Nat->rb->Int->Option rb
 |0,_,_,_=>none
 |d+1,b,c,a=>if (decide (a<(((bg (tU (bn 0 zAt) (cu (bg (bn 0 zAt)) ([]:rb)) 0)):Nat):Int)))=true then (GJ K (bb c a.toNat zAt).2.2.2.2).bind λe=>if 0<=a/\a<(c.length:Int)/\b<=a.toNat/\a.toNat=b then G3.l0 K d (b+1) (uZ c b e) (ba .i64 (a+1)) else none else if c.length<=b then some c else none
def G3 (K:Nat):=G3.l0 K K (0:Nat) (tU (bn 0 zAt) (cu (bg (bn 0 zAt)) ([]:rb)) 0) (0:Int)
def G4.l0 (K:Nat):Nat->Nat->rb->Int->Option rb
 |0,_,_,_=>none
 |d+1,b,c,a=>if (decide (a<(((bg (tU (bn 0 zAt) (cu (bg (bn 0 zAt)) ([]:rb)) 0)):Nat):Int)))=true then (GJ K (bb c a.toNat zAt).2.2.2.2).bind λe=>if 0<=a/\a<(c.length:Int)/\b<=a.toNat/\a.toNat=b then G4.l0 K d (b+1) (uZ c b e) (ba .i64 (a+1)) else none else if c.length<=b then some c else none
def G4 (K:Nat):=G4.l0 K K (0:Nat) (tU (bn 0 zAt) (cu (bg (bn 0 zAt)) ([]:rb)) 0) (0:Int)
def E0.l0 (K:Nat) (a:np) (c d e:Int):Nat->rb->Nat->Option rb
 |0,_,_=>none
 |g+1,f,b=>if decide (b<cr a)=true then if (bg f+bg ([(gi (((gj a b).1:Nat):Int),c,d,e,([]:List (Int × Int)))]:rb))*64<=140737488355328 then E0.l0 K a c d e g (f++([(gi (((gj a b).1:Nat):Int),c,d,e,([]:List (Int × Int)))]:rb)) (b+(gj a b).2) else none else some f
def E0 (K:Nat) (a:rb) (b:Int) (e:np) (f g h:Int):=(G3 K).bind λi=>if 0<=(mn2 (mx2 b (0:Int)) (a.length:Int))/\(mn2 (mx2 b (0:Int)) (a.length:Int))<=(a.length:Int) then (I9 K e).bind λj=>(E0.l0 K j f g h K i (0:Nat)).bind (λc=>(G4 K).bind λd=>if (bg c+bg d)*64<=140737488355328 then some (c++d) else none) else none
def AC.l0 (K:Nat) (b:pu):Nat->(List Bool)->Int->Option (List Bool)
 |0,_,_=>none
 |d+1,c,a=>if decide (a<(b.length:Int))=true then if 0<=a/\a<(b.length:Int)/\0<=(bb b a.toNat (0:Int))/\(bb b a.toNat (0:Int))<(c.length:Int) then AC.l0 K b d (dp c (bc (bb b a.toNat (0:Int))) true) (ba .i64 (a+1)) else none else some c
def AC.l1 (K:Nat) (f:rb) (c:List Bool) (d e:Int):Nat->rb->Int->Option rb
 |0,_,_=>none
 |g+1,b,a=>if decide (a<(f.length:Int))=true then if 0<=a/\a<(c.length:Int) then if (bb c a.toNat false)=true then if a<(b.length:Int)/\a.toNat<b.length/\(bg (bb b a.toNat zAt).2.2.2.2+bg ([(d,e)]:List (Int × Int)))*16<=140737488355328/\a.toNat=a.toNat then AC.l1 K f c d e g (uZ b a.toNat ((bb b a.toNat zAt).2.2.2.2++([(d,e)]:List (Int × Int)))) (ba .i64 (a+1)) else none else AC.l1 K f c d e g b (ba .i64 (a+1)) else none else some b
def AC.l2 (K:Nat) (f:qg) (d:pu) (c:rb) (g h i:Int):Nat->rb->Int->Int->Option rb
 |0,_,_,_=>none
 |k+1,e,a,b=>if decide (b<(f.length:Int))=true then if 0<=b/\b<(f.length:Int)/\b<(d.length:Int)/\0<=a/\a<=(bb d b.toNat (0:Int))/\(bb d b.toNat (0:Int))<=(c.length:Int)/\(bg e+bg (cu ((bc (bb d b.toNat (0:Int)))-a.toNat) (gf a.toNat c)))*64<=140737488355328 then (E0 K ([]:rb) (0:Int) (bb f b.toNat zE).2.2 g h i).bind λj=>if (bg (e++(cu ((bc (bb d b.toNat (0:Int)))-a.toNat) (gf a.toNat c)))+bg j)*64<=140737488355328 then AC.l2 K f d c g h i k ((e++(cu ((bc (bb d b.toNat (0:Int)))-a.toNat) (gf a.toNat c)))++j) (bb d b.toNat (0:Int)) (ba .i64 (b+1)) else none else none else if 0<=a/\a<=(c.length:Int)/\(bg e+bg (cu (c.length-a.toNat) (gf a.toNat c)))*64<=140737488355328 then some (e++(cu (c.length-a.toNat) (gf a.toNat c))) else none
def AC (K:Nat) (a:rb) (c:Int) (d:pu) (b:qg) (f g h:Int):=(BM K a c d b h).bind λi=>(CA K a c d).bind λj=>(B4 K j b).bind λk=>if (k !=0)=true then (CO K a).bind λl=>some l else if 0<=(a.length:Int)/\(a.length:Int)*64<=140737488355328/\(a.length:Int)<=9223372036854775807/\(a.length:Int)<=(a.length:Int)/\(a.length:Int)*1<=140737488355328 then (AM K a c d b).bind λm=>(AC.l0 K m K (bn (bc (a.length:Int)) false) (0:Int)).bind (λn=>(CO K a).bind λe=>if bg (bn (bc (a.length:Int)) zAt)=bg e then (AC.l1 K e n f g K e (0:Int)).bind (λo=>AC.l2 K b i o f g h K (bn 0 zAt) (0:Int) (0:Int)) else none) else none
def IM (K:Nat) (a:rb) (b:qb) (c:Int) (d e:pu):=(GA K a b c d e).bind λf=>(FQ K a b c d e f).bind λg=>some (decide (((g.1.size:Nat):Int)<=20000))
def CD (K:Nat) (a:rb) (b:qb) (f:Int) (c d:pu) (h l i:Int) (m:qg):=(FQ K a b f c d h).bind λj=>if (j.2 !=0)=true then some ((0:Int),j.2,a,b,c,d) else (B4 K j.1 m).bind λn=>if (n !=0)=true then some ((0:Int),n,a,b,c,d) else (HT K a b f c d).bind λg=>(LQ K g.2.1 f g.2.2.1 g.2.2.2 l).bind λe=>if (e.2.1 !=0)=true then some ((0:Int),e.2.1,a,b,c,d) else (if decide (i<0)=true then some true else some (decide (i>1000000))).bind (λo=>if o=true then some ((0:Int),(10:Int),a,b,c,d) else (FR K a b f c d h).bind λp=>(AC K a h p m e.1 l i).bind λk=>if decide ((k.length:Int)>4000)=true then some ((0:Int),(70:Int),a,b,c,d) else (IM K k e.2.2.1 f e.2.2.2 g.2.2.2).bind λq=>if (!q)=true then some ((0:Int),(13:Int),a,b,c,d) else some (e.1,(0:Int),k,e.2.2.1,e.2.2.2,g.2.2.2))
def JE (K:Nat) (c:qb) (d:Int) (a e:pu) (b:Int):=some (mq a b)
def LR (K:Nat) (a:qb) (c:Int) (d e:pu) (b:Int):=(JE K a c d e b).bind λh=>if (!h)=true then some ((0:Int),(210:Int),a) else if (lf (HE K a c d e))=true then (HE K a c d e).bind λj=>some ((0:Int),(70:Int),a) else (JF K a c d e).bind λf=>(if (mq f.1 b)=true then some (f.2++[uQ b f.1]) else if (-9223372036854775808:Int)<=b/\b<=9223372036854775807 then some (f.2++[tZ b f.1]) else none).bind (λg=>(FI K g c d e).bind λi=>some (i,(0:Int),g))
def HW (K:Nat) (c:rb) (d:qb) (e:Int) (f g:pu) (h:Int):=(HT K c d e f g).bind λa=>(LR K a.2.1 e a.2.2.1 a.2.2.2 h).bind λb=>if (b.2.1 !=0)=true then some ((0:Int),b.2.1,c,d,f,g) else (IM K a.1 b.2.2 e a.2.2.1 a.2.2.2).bind λi=>if (!i)=true then some ((0:Int),(13:Int),c,d,f,g) else some (b.1,(0:Int),a.1,b.2.2,a.2.2.1,a.2.2.2)
def CN (K:Nat) (a:rb) (b:qb) (c:Int) (d e:pu) (g:rz) (h:qo) (i:qe) (j:pu):=(GA K a b c d e).bind λf=>some f
def CY (K:Nat) (a b:Int):=some (mn2 a b,mx2 a b)
def DM.l0 (K:Nat) (b:qo) (d:np):Nat->qg->Int->Option qg
 |0,_,_=>none
 |f+1,e,a=>if decide (a<(b.length:Int))=true then if 0<=a/\a<(b.length:Int) then (CY K (bb b a.toNat zP).1 (bb b a.toNat zP).2).bind λc=>if (bg e+bg ([(c.1,c.2,d)]:List (Int × (Int × np))))*32<=140737488355328 then DM.l0 K b d f (e++([(c.1,c.2,d)]:List (Int × (Int × np)))) (ba .i64 (a+1)) else none else none else some e
def DM (K:Nat) (a:qo) (b:np):=DM.l0 K a b K ([]:qg) (0:Int)
def OS (K:Nat) (a:Option tH):=if (xp a)=true then some (0:Int) else if lf a=true then some (tH.n (gz a (tH.mk [] [] 0 0 0 0 0 0))) else none
def BL.l0 (K:Nat) (c:(Option tH)->(List np)->Option (List np)) (b:Option tH):Nat->(List np)->Int->Option (List np)
 |0,_,_=>none
 |e+1,d,a=>if (decide (a<(((bg (tH.kids (gz b (tH.mk [] [] 0 0 0 0 0 0)))):Nat):Int)))=true then if 0<=a/\a<(((bg (tH.kids (gz b (tH.mk [] [] 0 0 0 0 0 0)))):Nat):Int) then (c (bb (tH.kids (gz b (tH.mk [] [] 0 0 0 0 0 0))) a.toNat (none:Option tH)) d).bind λf=>BL.l0 K c b e f (ba .i64 (a+1)) else none else some d
def BL.f (K:Nat):Nat->(Option tH)->(List np)->Option (List np)
 |0,_,_=>none
 |c+1,a,b=>if lf a=true/\(bg b+bg (tH.items (gz a (tH.mk [] [] 0 0 0 0 0 0))))*16<=140737488355328 then BL.l0 K (BL.f K c) a K (b++(tH.items (gz a (tH.mk [] [] 0 0 0 0 0 0)))) (0:Int) else none
def BL (K:Nat) (a:Option tH) (b:List np):=BL.f K K a b
def M2 (K:Nat) (a:Option tH):=(OS K a).bind λb=>if 0<=b/\b*16<=140737488355328/\b<=9223372036854775807 then if (!(xp a))=true then (BL K a (bn 0 cc)).bind λc=>some c else some (bn 0 cc) else none
def DV.l0 (K:Nat) (b:List np):Nat->pu->Int->Option pu
 |0,_,_=>none
 |d+1,c,a=>if decide (a<(b.length:Int))=true then if 0<=a/\a<(b.length:Int) then (JV K c (bb b a.toNat cc)).bind λe=>DV.l0 K b d e.2 (ba .i64 (a+1)) else none else some c
def DV (K:Nat) (a:rz):=(M2 K (gz a (none:Option tH))).bind λb=>if lf a=true then (DV.l0 K b K ([]:pu) (0:Int)).bind (λc=>(JU K c).bind λd=>some d) else none
def FB (K:Nat) (c:rb) (d:qb) (e:Int) (f g:pu) (a:rz) (h:qo) (i:qe) (j:pu):=(DV K a).bind λb=>some b
def I6 (K:Nat) (a:np):=some ()
def IQ (K:Nat) (a b c:Int):=if decide (a>=0)=true then if decide (a<=b)=true then some (decide (b<=c)) else some false else some false
def OA (K:Nat) (b c:Int) (d:np):=(CY K b c).bind λa=>(IQ K a.1 a.2 (d.size:Int)).bind λe=>some e
def LM (K:Nat) (a b:Int) (c:np):=(OA K a b c).bind λd=>some (!d)
def D1.l0 (K:Nat) (b:qo) (c:np):Nat->Int->Option Int
 |0,_=>none
 |d+1,a=>if decide (a<(b.length:Int))=true then (LM K (bb b a.toNat zP).1 (bb b a.toNat zP).2 c).bind λe=>if 0<=a/\a<(b.length:Int) then if e=true then some a else D1.l0 K b c d (ba .i64 (a+1)) else none else some (-1:Int)
def D1 (K:Nat) (a:qo) (b:np):=D1.l0 K a b K (0:Int)
def JP (K:Nat) (a:qo) (b:np):=(D1 K a b).bind λc=>some (decide (c>=0))
def GH (K:Nat) (a:qo) (b:np):=(JP K a b).bind λc=>some (!c)
def I5 (K:Nat) (a:np):=some ()
def O9 (K:Nat) (b c:Int) (a:np):=(CL K a b).bind λd=>if d=true then (CL K a c).bind λe=>some e else some false
def LN (K:Nat) (a b:Int) (c:np):=(O9 K a b c).bind λd=>some (!d)
def CZ.l0 (K:Nat) (b:qo) (c:np):Nat->Int->Option Int
 |0,_=>none
 |d+1,a=>if decide (a<(b.length:Int))=true then (LN K (bb b a.toNat zP).1 (bb b a.toNat zP).2 c).bind λe=>if 0<=a/\a<(b.length:Int) then if e=true then some a else CZ.l0 K b c d (ba .i64 (a+1)) else none else some (-1:Int)
def CZ (K:Nat) (a:qo) (b:np):=CZ.l0 K a b K (0:Int)
def JO (K:Nat) (a:qo) (b:np):=(CZ K a b).bind λc=>some (decide (c>=0))
def GG (K:Nat) (a:qo) (b:np):=(JO K a b).bind λc=>some (!c)
def EH.l0 (K:Nat) (b:qo):Nat->Int->Option Bool
 |0,_=>none
 |c+1,a=>if decide (a<(b.length:Int))=true then (CY K (bb b a.toNat zP).1 (bb b a.toNat zP).2).bind λd=>(CY K (bb b (bc (ba .i64 (a-1))) zP).1 (bb b (bc (ba .i64 (a-1))) zP).2).bind λe=>if 0<=a/\a<(b.length:Int)/\0<=(ba .i64 (a-1))/\(ba .i64 (a-1))<(b.length:Int) then if decide (d.1<=e.2)=true then some false else EH.l0 K b c (ba .i64 (a+1)) else none else some true
def EH (K:Nat) (a:qo) (b:np):=(if decide ((a.length:Int)<1)=true then some true else if decide ((a.length:Int)>8)=true then some true else (I6 K b).bind λf=>(GH K a b).bind λc=>if (!c)=true then some true else (I5 K b).bind λg=>(GG K a b).bind λd=>some (!d)).bind (λe=>if e=true then some false else EH.l0 K a K (1:Int))
def ER.l0 (K:Nat) (b:np):Nat->Int->Option Int
 |0,_=>none
 |c+1,a=>if 0<=a/\a<(b.size:Int) then if ((ba .u8 (bz (bi (bh .u8) (bt b a) &&&bi (bh .u8) (192:Int))))==128)=true then ER.l0 K b c (ba .i64 (a-1)) else some a else none
def ER (K:Nat) (b:np) (a:Int):=(if decide (a<1)=true then some true else (CL K b a).bind λc=>some (!c)).bind (λd=>if d=true then some a else ER.l0 K b K (ba .i64 (a-1)))
def CS.l0 (K:Nat) (c:qo) (f:np):Nat->qg->Int->Int->Option qg
 |0,_,_,_=>none
 |h+1,d,e,b=>if decide (b<(c.length:Int))=true then if 0<=b/\b<(c.length:Int) then (CY K (bb c b.toNat zP).1 (bb c b.toNat zP).2).bind λa=>(if (a.1==a.2)=true then (ER K f a.1).bind λi=>some i else some a.1).bind (λg=>if decide ((mx2 g e)>=a.2)=true then CS.l0 K c f h d e (ba .i64 (b+1)) else if (bg d+bg ([(mx2 g e,a.2,cc)]:List (Int × (Int × np))))*32<=140737488355328 then CS.l0 K c f h (d++([(mx2 g e,a.2,cc)]:List (Int × (Int × np)))) a.2 (ba .i64 (b+1)) else none) else none else some d
def CS (K:Nat) (a:qo) (b:np):=(EH K a b).bind λc=>if (!c)=true then some ([]:qg) else CS.l0 K a b K ([]:qg) (0:Int) (0:Int)
def TH (K:Nat) (a:rb) (b:qb) (e:Int) (c d:pu) (l:rz) (f:qo) (m:qe) (n:pu) (o q:Int) (k r:Int) (s:np) (x y z:Int):=if (o==1)=true then (CD K a b e c d q k r ([]:qg)).bind λg=>some (g.2.1,g.2.2.1,g.2.2.2.1,g.2.2.2.2.1,g.2.2.2.2.2) else if (o==2)=true then (HW K a b e c d k).bind λh=>some (h.2.1,h.2.2.1,h.2.2.2.1,h.2.2.2.2.1,h.2.2.2.2.2) else if (o==5)=true then (CN K a b e c d l f m n).bind λt=>(DM K f s).bind λu=>(CD K a b e c d t k (0:Int) u).bind λi=>some (i.2.1,i.2.2.1,i.2.2.2.1,i.2.2.2.2.1,i.2.2.2.2.2) else (FB K a b e c d l f m n).bind λv=>(CS K f v).bind λp=>if decide ((p.length:Int)>0)=true then (CN K a b e c d l f m n).bind λw=>(CD K a b e c d w k (0:Int) p).bind λj=>some (j.2.1,j.2.2.1,j.2.2.2.1,j.2.2.2.2.1,j.2.2.2.2.2) else some ((0:Int),a,b,c,d)
def MJ (K:Nat) (a:Int):=some ()
def HS (K:Nat) (a:rb) (c:qb) (d:Int) (e f:pu):=(CO K a).bind λb=>some b
def FG (K:Nat) (b c:Int) (a:np):=some (ex a==ex (iu #[]))
def KD (K:Nat) (f:Int) (a:qg) (b c:Int):=if (b==c)=true then some a else (if (decide ((ba .i64 ((a.length:Int)-1))>=0))=true then (FG K (bb a (bc (ba .i64 ((a.length:Int)-1))) zE).1 (bb a (bc (ba .i64 ((a.length:Int)-1))) zE).2.1 (bb a (bc (ba .i64 ((a.length:Int)-1))) zE).2.2).bind λd=>if d=true then if 0<=(ba .i64 ((a.length:Int)-1))/\(ba .i64 ((a.length:Int)-1))<(a.length:Int) then some ((bb a (bc (ba .i64 ((a.length:Int)-1))) zE).2.1==b) else none else if 0<=(ba .i64 ((a.length:Int)-1))/\(ba .i64 ((a.length:Int)-1))<(a.length:Int) then some false else none else some false).bind (λe=>if e=true then if 0<=(ba .i64 ((a.length:Int)-1))/\(ba .i64 ((a.length:Int)-1))<(a.length:Int) then some (dp a (bc (ba .i64 ((a.length:Int)-1))) ((bb a (bc (ba .i64 ((a.length:Int)-1))) zE).1,c,(bb a (bc (ba .i64 ((a.length:Int)-1))) zE).2.2)) else none else if (bg a+bg ([(b,c,cc)]:qg))*32<=140737488355328 then some (a++([(b,c,cc)]:qg)) else none)
def KE (K:Nat) (e:Int) (a:qg) (b:np):=if (ex b==ex (iu #[]))=true then some a else (if (decide ((ba .i64 ((a.length:Int)-1))>=0))=true then (FG K (bb a (bc (ba .i64 ((a.length:Int)-1))) zE).1 (bb a (bc (ba .i64 ((a.length:Int)-1))) zE).2.1 (bb a (bc (ba .i64 ((a.length:Int)-1))) zE).2.2).bind λc=>if 0<=(ba .i64 ((a.length:Int)-1))/\(ba .i64 ((a.length:Int)-1))<(a.length:Int) then some (!c) else none else some false).bind (λd=>if d=true then if 0<=(ba .i64 ((a.length:Int)-1))/\(ba .i64 ((a.length:Int)-1))<(a.length:Int)/\cr (bb a (bc (ba .i64 ((a.length:Int)-1))) zE).2.2+cr b<=9223372036854775807 then some (dp a (bc (ba .i64 ((a.length:Int)-1))) ((bb a (bc (ba .i64 ((a.length:Int)-1))) zE).1,(bb a (bc (ba .i64 ((a.length:Int)-1))) zE).2.1,(bb a (bc (ba .i64 ((a.length:Int)-1))) zE).2.2++b)) else none else if (bg a+bg ([((0:Int),(0:Int),b)]:qg))*32<=140737488355328 then some (a++([((0:Int),(0:Int),b)]:qg)) else none)
def KH (K:Nat) (b:np) (d e:Bool) (f:Int) (c:qg) (a:Int):=(if d=true then some e else some false).bind (λh=>(if h=true then (KD K f c a (ba .i64 (a+(b.size:Int)))).bind λi=>some i else if e=true then (KE K f c b).bind λj=>some j else some c).bind (λg=>if d=true then some (g,ba .i64 (a+(b.size:Int))) else some (g,a)))
def D4.l0 (K:Nat) (b:rb) (c:Int) (d:pu) (e:Int) (f:pu) (g:Int):Nat->qg->Int->Int->Option (Int×qg×Int)
 |0,_,_,_=>none
 |j+1,h,i,a=>if decide (a<(b.length:Int))=true then if 0<=a/\a<(b.length:Int) then (FM K (bb b a.toNat zAt).1 (bb b a.toNat zAt).2.1 (bb b a.toNat zAt).2.2.1 (bb b a.toNat zAt).2.2.2.1 (bb b a.toNat zAt).2.2.2.2 c d).bind λk=>(FM K (bb b a.toNat zAt).1 (bb b a.toNat zAt).2.1 (bb b a.toNat zAt).2.2.1 (bb b a.toNat zAt).2.2.2.1 (bb b a.toNat zAt).2.2.2.2 e f).bind λl=>(if (!k)=true then some (!l) else some false).bind (λn=>if n=true then D4.l0 K b c d e f g j h i (ba .i64 (a+1)) else (KH K (bb b a.toNat zAt).1 k l g h i).bind λm=>D4.l0 K b c d e f g j m.1 m.2 (ba .i64 (a+1))) else none else some ((0:Int),h,i)
def D4 (K:Nat) (a:rb) (b:qb) (c:Int) (d e:pu) (f g:Int) (i h:Int):=((GV K a b c d e f).bind λj=>if (!j)=true then some true else (GV K a b c d e g).bind λk=>some (!k)).bind (λl=>if l=true then some ((190:Int),([]:qg),h) else (FR K a b c d e f).bind λm=>(FR K a b c d e g).bind λn=>(HS K a b c d e).bind λo=>D4.l0 K o f m g n i K ([]:qg) h (0:Int))
def MI (K:Nat) (b:Int) (a:qg):=if decide ((a.length:Int)>60)=true then some ((0:Int),([]:qg),(70:Int)) else some (b,a,(0:Int))
def KI (K:Nat) (d:rb) (e:qb) (f:Int) (g h:pu) (i j:Int):=(FQ K d e f g h i).bind λa=>(MJ K ((a.1.size:Nat):Int)).bind λk=>(D4 K d e f g h i j ((a.1.size:Nat):Int) (0:Int)).bind λb=>if (b.1 !=0)=true then some ((0:Int),([]:qg),b.1) else (MI K ((a.1.size:Nat):Int) b.2.1).bind λc=>some (c.1,c.2.1,c.2.2)
def KG (K:Nat) (b c:Int) (a:np) (d e:Int) (g f:Bool):=(FG K b c a).bind λh=>if h=true then if decide (b>=e)=true then if decide (b>e)=true then if decide (b<c)=true then some (decide (c<=d)) else some false else if (!f)=true then if decide (b<c)=true then some (decide (c<=d)) else some false else some false else some false else if ((b==0)&&((c==0)&&(ex a==ex a)))=true then if (!g)=true then if decide ((a.size:Int)<=20000)=true then (BY K a).bind λi=>some i else some false else if f=true then if decide ((a.size:Int)<=20000)=true then (BY K a).bind λj=>some j else some false else some false else some false
def CC.l0 (K:Nat) (b:qg) (c:Int):Nat->Int->Int->Int->Option Bool
 |0,_,_,_=>none
 |f+1,d,e,a=>if decide (a<(b.length:Int))=true then if 0<=a/\a<(b.length:Int) then (if decide (a>0)=true then (FG K (bb b (bc (ba .i64 (a-1))) zE).1 (bb b (bc (ba .i64 (a-1))) zE).2.1 (bb b (bc (ba .i64 (a-1))) zE).2.2).bind λg=>if 0<=(ba .i64 (a-1))/\(ba .i64 (a-1))<(b.length:Int) then some g else none else some false).bind (λh=>(KG K (bb b a.toNat zE).1 (bb b a.toNat zE).2.1 (bb b a.toNat zE).2.2 c e (decide (a>0)) h).bind λi=>if (!i)=true then some false else (FG K (bb b a.toNat zE).1 (bb b a.toNat zE).2.1 (bb b a.toNat zE).2.2).bind λj=>(if j=true then some (bb b a.toNat zE).2.1 else some e).bind (λk=>if (decide ((ba .i64 (d+(ba .i64 ((ba .i64 ((bb b a.toNat zE).2.1-(bb b a.toNat zE).1))+(((cr (bb b a.toNat zE).2.2):Nat):Int)))))>20000))=true then some false else CC.l0 K b c f (ba .i64 (d+(ba .i64 ((ba .i64 ((bb b a.toNat zE).2.1-(bb b a.toNat zE).1))+(((cr (bb b a.toNat zE).2.2):Nat):Int))))) k (ba .i64 (a+1)))) else none else some true
def CC (K:Nat) (a:Int) (b:qg):=(if decide (a<0)=true then some true else if decide (a>20000)=true then some true else some (decide ((b.length:Int)>60))).bind (λc=>if c=true then some false else CC.l0 K b a K (0:Int) (0:Int) (0:Int))
def O7 (K:Nat) (b c d:Int) (f:qg):=(CY K b c).bind λa=>(IQ K a.1 a.2 d).bind λe=>some e
def LL (K:Nat) (a b c:Int) (d:qg):=(O7 K a b c d).bind λe=>some (!e)
def F4.l0 (K:Nat) (b:qo) (c:Int) (d:qg):Nat->Int->Option Int
 |0,_=>none
 |e+1,a=>if decide (a<(b.length:Int))=true then (LL K (bb b a.toNat zP).1 (bb b a.toNat zP).2 c d).bind λf=>if 0<=a/\a<(b.length:Int) then if f=true then some a else F4.l0 K b c d e (ba .i64 (a+1)) else none else some (-1:Int)
def F4 (K:Nat) (a:qo) (b:Int) (c:qg):=F4.l0 K a b c K (0:Int)
def OJ (K:Nat) (a:qo) (b:Int) (c:qg):=(F4 K a b c).bind λd=>some (decide (d>=0))
def LO (K:Nat) (a:qo) (b:Int) (c:qg):=(OJ K a b c).bind λd=>some (!d)
def GF (K:Nat) (a:qo):=if ((a.length:Int)==0)=true then some (12:Int) else if decide ((a.length:Int)>8)=true then some (70:Int) else some (0:Int)
def C6.l0 (K:Nat) (b:qg) (c d:Int):Nat->Int->Int->Int->Option (Int×Int)
 |0,_,_,_=>none
 |g+1,e,f,a=>if decide (a<(b.length:Int))=true then if 0<=a/\a<(b.length:Int) then (FG K (bb b a.toNat zE).1 (bb b a.toNat zE).2.1 (bb b a.toNat zE).2.2).bind λh=>if (!h)=true then C6.l0 K b c d g e (ba .i64 (f+(((cr (bb b a.toNat zE).2.2):Nat):Int))) (ba .i64 (a+1)) else if (decide ((bb b a.toNat zE).1>=(mn2 (mx2 c (0:Int)) d)))=true then some (e,f) else if (decide ((bb b a.toNat zE).2.1>(mn2 (mx2 c (0:Int)) d)))=true then some (ba .i64 (e+(ba .i64 ((ba .i64 (f+(mn2 (bb b a.toNat zE).2.1 (mn2 (mx2 c (0:Int)) d))))-(bb b a.toNat zE).1))),(0:Int)) else C6.l0 K b c d g (ba .i64 (e+(ba .i64 ((ba .i64 (f+(mn2 (bb b a.toNat zE).2.1 (mn2 (mx2 c (0:Int)) d))))-(bb b a.toNat zE).1)))) (0:Int) (ba .i64 (a+1)) else none else some (e,f)
def C6 (K:Nat) (b:Int) (c:qg) (d:Int) (e:Bool):=(CC K b c).bind λf=>if (!f)=true then some (0:Int) else (C6.l0 K c d b K (0:Int) (0:Int) (0:Int)).bind (λa=>if e=true then some (ba .i64 (a.1+a.2)) else some a.1)
def OH (K:Nat) (a:qo):=if (bg ([]:qo)+bg a)*16<=140737488355328 then some (([]:qo)++a) else none
def G5 (K:Nat) (a:Int):=some (a !=a)
def GT (K:Nat) (a b:Int):=(G5 K a).bind λd=>(G5 K b).bind λc=>if d=true then if c=true then some (0:Int) else some (-1:Int) else if c=true then some (1:Int) else if decide (a<b)=true then some (-1:Int) else if decide (a>b)=true then some (1:Int) else some (0:Int)
def EU.l0 (K:Nat) (b:pu):Nat->Int->Option Int
 |0,_=>none
 |c+1,a=>if decide (a<(b.length:Int))=true then if 0<=a/\a<(b.length:Int) then if ((bb b a.toNat (0:Int)) !=0)=true then some (bb b a.toNat (0:Int)) else EU.l0 K b c (ba .i64 (a+1)) else none else some (0:Int)
def EU (K:Nat) (a:pu):=EU.l0 K a K (0:Int)
def HD (K:Nat) (c d:Int) (e f:Int):=(CY K c d).bind λa=>(CY K e f).bind λb=>(GT K a.1 b.1).bind λg=>(GT K a.2 b.2).bind λh=>(EU K ([g,h]:pu)).bind λi=>some i
def BJ.l1 (K:Nat) (c:Int):Nat->qo->Int->Option qo
 |0,_,_=>none
 |d+1,b,a=>(if decide (a>c)=true then (HD K (bb b a.toNat zP).1 (bb b a.toNat zP).2 (bb b (bc (ba .i64 (a-1))) zP).1 (bb b (bc (ba .i64 (a-1))) zP).2).bind λe=>if 0<=a/\a<(b.length:Int)/\0<=(ba .i64 (a-1))/\(ba .i64 (a-1))<(b.length:Int) then some (decide (e<0)) else none else some false).bind (λf=>if f=true then if 0<=(ba .i64 (a-1))/\(ba .i64 (a-1))<(b.length:Int)/\0<=a/\a<(b.length:Int)/\(ba .i64 (a-1))<(((bg (dp b a.toNat ((bb b (bc (ba .i64 (a-1))) zP).1,(bb b (bc (ba .i64 (a-1))) zP).2))):Nat):Int) then BJ.l1 K c d (dp (dp b a.toNat ((bb b (bc (ba .i64 (a-1))) zP).1,(bb b (bc (ba .i64 (a-1))) zP).2)) (bc (ba .i64 (a-1))) ((bb b a.toNat zP).1,(bb b a.toNat zP).2)) (ba .i64 (a-1)) else none else some b)
def BJ.l0 (K:Nat) (b c:Int):Nat->qo->Int->Option qo
 |0,_,_=>none
 |e+1,d,a=>if decide (a<b)=true then (BJ.l1 K c K d a).bind (λf=>BJ.l0 K b c e f (ba .i64 (a+1))) else some d
def BJ (K:Nat) (b:qo) (a c:Int):=BJ.l0 K c a K b (ba .i64 (a+1))
def G0.l0 (K:Nat) (e c d:Int):Nat->qo->Int->Option qo
 |0,_,_=>none
 |f+1,b,a=>if decide (a<e)=true then if 0<=(ba .i64 (c+a))/\(ba .i64 (c+a))<(b.length:Int)/\0<=(ba .i64 (d+a))/\(ba .i64 (d+a))<(b.length:Int)/\(ba .i64 (c+a))<(((bg (dp b (bc (ba .i64 (d+a))) ((bb b (bc (ba .i64 (c+a))) zP).1,(bb b (bc (ba .i64 (c+a))) zP).2))):Nat):Int) then G0.l0 K e c d f (dp (dp b (bc (ba .i64 (d+a))) ((bb b (bc (ba .i64 (c+a))) zP).1,(bb b (bc (ba .i64 (c+a))) zP).2)) (bc (ba .i64 (c+a))) ((bb b (bc (ba .i64 (d+a))) zP).1,(bb b (bc (ba .i64 (d+a))) zP).2)) (ba .i64 (a+1)) else none else some b
def G0 (K:Nat) (a:qo) (b c d:Int):=G0.l0 K d c b K a (0:Int)
def GK.l0 (K:Nat) (c:Int):Nat->qo->Int->Int->Option (qo×Int)
 |0,_,_,_=>none
 |e+1,d,a,b=>if (a !=b)=true then if decide (a>b)=true then (G0 K d (ba .i64 (c-a)) c b).bind λf=>GK.l0 K c e f (ba .i64 (a-b)) b else (G0 K d (ba .i64 (c-a)) (ba .i64 ((ba .i64 (c+b))-a)) a).bind λg=>GK.l0 K c e g a (ba .i64 (b-a)) else some (d,a)
def GK (K:Nat) (c:qo) (d a e:Int):=(GK.l0 K a K c (ba .i64 (a-d)) (ba .i64 (e-a))).bind (λb=>(G0 K b.1 (ba .i64 (a-b.2)) a b.2).bind λf=>some f)
def AK.l0 (K:Nat) (b:qo) (d:Int):Nat->Int->Int->Option Int
 |0,_,_=>none
 |e+1,a,c=>if decide (a<c)=true then (HD K (bb b (bc (ba .i64 (bw (ba .u64 (ba .i64 (a+c))) (2:Int)))) zP).1 (bb b (bc (ba .i64 (bw (ba .u64 (ba .i64 (a+c))) (2:Int)))) zP).2 (bb b d.toNat zP).1 (bb b d.toNat zP).2).bind λf=>if 0<=(ba .i64 (bw (ba .u64 (ba .i64 (a+c))) (2:Int)))/\(ba .i64 (bw (ba .u64 (ba .i64 (a+c))) (2:Int)))<(b.length:Int)/\0<=d/\d<(b.length:Int) then if decide (f<0)=true then AK.l0 K b d e (ba .i64 ((ba .i64 (bw (ba .u64 (ba .i64 (a+c))) (2:Int)))+1)) c else AK.l0 K b d e a (ba .i64 (bw (ba .u64 (ba .i64 (a+c))) (2:Int))) else none else some a
def AK.l1 (K:Nat) (c:Int):Nat->qo->Int->Option qo
 |0,_,_=>none
 |d+1,b,a=>if decide (a<(ba .i64 (c-1)))=true then if 0<=(ba .i64 (a+1))/\(ba .i64 (a+1))<(b.length:Int)/\0<=a/\a<(b.length:Int)/\(ba .i64 (a+1))<(((bg (dp b a.toNat ((bb b (bc (ba .i64 (a+1))) zP).1,(bb b (bc (ba .i64 (a+1))) zP).2))):Nat):Int) then AK.l1 K c d (dp (dp b a.toNat ((bb b (bc (ba .i64 (a+1))) zP).1,(bb b (bc (ba .i64 (a+1))) zP).2)) (bc (ba .i64 (a+1))) ((bb b a.toNat zP).1,(bb b a.toNat zP).2)) (ba .i64 (a+1)) else none else some b
def AK.l2 (K:Nat) (b:qo) (d:Int):Nat->Int->Int->Option Int
 |0,_,_=>none
 |e+1,a,c=>if decide (a<c)=true then (HD K (bb b d.toNat zP).1 (bb b d.toNat zP).2 (bb b (bc (ba .i64 (bw (ba .u64 (ba .i64 (a+c))) (2:Int)))) zP).1 (bb b (bc (ba .i64 (bw (ba .u64 (ba .i64 (a+c))) (2:Int)))) zP).2).bind λf=>if 0<=d/\d<(b.length:Int)/\0<=(ba .i64 (bw (ba .u64 (ba .i64 (a+c))) (2:Int)))/\(ba .i64 (bw (ba .u64 (ba .i64 (a+c))) (2:Int)))<(b.length:Int) then if (!(decide (f<0)))=true then AK.l2 K b d e (ba .i64 ((ba .i64 (bw (ba .u64 (ba .i64 (a+c))) (2:Int)))+1)) c else AK.l2 K b d e a (ba .i64 (bw (ba .u64 (ba .i64 (a+c))) (2:Int))) else none else some a
def AK.l3 (K:Nat) (c:Int):Nat->qo->Int->Option qo
 |0,_,_=>none
 |d+1,b,a=>if decide (a>c)=true then if 0<=(ba .i64 (a-1))/\(ba .i64 (a-1))<(b.length:Int)/\0<=a/\a<(b.length:Int)/\(ba .i64 (a-1))<(((bg (dp b a.toNat ((bb b (bc (ba .i64 (a-1))) zP).1,(bb b (bc (ba .i64 (a-1))) zP).2))):Nat):Int) then AK.l3 K c d (dp (dp b a.toNat ((bb b (bc (ba .i64 (a-1))) zP).1,(bb b (bc (ba .i64 (a-1))) zP).2)) (bc (ba .i64 (a-1))) ((bb b a.toNat zP).1,(bb b a.toNat zP).2)) (ba .i64 (a-1)) else none else some b
def AK.l4 (K:Nat) (c:qo) (d e f:Int):Nat->Int->Int->Option Int
 |0,_,_=>none
 |g+1,a,b=>if decide (a<b)=true then (HD K (bb c (bc (ba .i64 ((ba .i64 ((ba .i64 ((ba .i64 (bw (ba .u64 (ba .i64 (d+e))) (2:Int)))+f))-1))-(ba .i64 (bw (ba .u64 (ba .i64 (a+b))) (2:Int)))))) zP).1 (bb c (bc (ba .i64 ((ba .i64 ((ba .i64 ((ba .i64 (bw (ba .u64 (ba .i64 (d+e))) (2:Int)))+f))-1))-(ba .i64 (bw (ba .u64 (ba .i64 (a+b))) (2:Int)))))) zP).2 (bb c (bc (ba .i64 (bw (ba .u64 (ba .i64 (a+b))) (2:Int)))) zP).1 (bb c (bc (ba .i64 (bw (ba .u64 (ba .i64 (a+b))) (2:Int)))) zP).2).bind λh=>if 0<=(ba .i64 ((ba .i64 ((ba .i64 ((ba .i64 (bw (ba .u64 (ba .i64 (d+e))) (2:Int)))+f))-1))-(ba .i64 (bw (ba .u64 (ba .i64 (a+b))) (2:Int)))))/\(ba .i64 ((ba .i64 ((ba .i64 ((ba .i64 (bw (ba .u64 (ba .i64 (d+e))) (2:Int)))+f))-1))-(ba .i64 (bw (ba .u64 (ba .i64 (a+b))) (2:Int)))))<(c.length:Int)/\0<=(ba .i64 (bw (ba .u64 (ba .i64 (a+b))) (2:Int)))/\(ba .i64 (bw (ba .u64 (ba .i64 (a+b))) (2:Int)))<(c.length:Int) then if (!(decide (h<0)))=true then AK.l4 K c d e f g (ba .i64 ((ba .i64 (bw (ba .u64 (ba .i64 (a+b))) (2:Int)))+1)) b else AK.l4 K c d e f g a (ba .i64 (bw (ba .u64 (ba .i64 (a+b))) (2:Int))) else none else some a
def AK.f (K:Nat):Nat->qo->Int->Int->Int->Option qo
 |0,_,_,_,_=>none
 |g+1,e,a,b,c=>if ((ba .i64 (b-a))==1)=true then (AK.l0 K e a K b c).bind (λk=>AK.l1 K k K e a) else if ((ba .i64 (c-b))==1)=true then (AK.l2 K e b K a b).bind (λl=>AK.l3 K l K e b) else (if (decide (b>(ba .i64 (bw (ba .u64 (ba .i64 (a+c))) (2:Int)))))=true then some (ba .i64 ((ba .i64 ((ba .i64 (bw (ba .u64 (ba .i64 (a+c))) (2:Int)))+b))-c),ba .i64 (bw (ba .u64 (ba .i64 (a+c))) (2:Int))) else some (a,b)).bind (λh=>(AK.l4 K e a c b K h.1 h.2).bind (λd=>(if decide (d<b)=true then some (decide (b<(ba .i64 ((ba .i64 ((ba .i64 (bw (ba .u64 (ba .i64 (a+c))) (2:Int)))+b))-d)))) else some false).bind (λm=>(if m=true then (GK K e d b (ba .i64 ((ba .i64 ((ba .i64 (bw (ba .u64 (ba .i64 (a+c))) (2:Int)))+b))-d))).bind λn=>some n else some e).bind (λi=>(if decide (a<d)=true then some (decide (d<(ba .i64 (bw (ba .u64 (ba .i64 (a+c))) (2:Int))))) else some false).bind (λo=>(if o=true then (AK.f K g i a d (ba .i64 (bw (ba .u64 (ba .i64 (a+c))) (2:Int)))).bind λp=>some p else some i).bind (λj=>(if (decide ((ba .i64 (bw (ba .u64 (ba .i64 (a+c))) (2:Int)))<(ba .i64 ((ba .i64 ((ba .i64 (bw (ba .u64 (ba .i64 (a+c))) (2:Int)))+b))-d))))=true then some (decide ((ba .i64 ((ba .i64 ((ba .i64 (bw (ba .u64 (ba .i64 (a+c))) (2:Int)))+b))-d))<c)) else some false).bind (λq=>if q=true then (AK.f K g j (ba .i64 (bw (ba .u64 (ba .i64 (a+c))) (2:Int))) (ba .i64 ((ba .i64 ((ba .i64 (bw (ba .u64 (ba .i64 (a+c))) (2:Int)))+b))-d)) c).bind λr=>some r else some j)))))))
def AK (K:Nat) (a:qo) (b c d:Int):=AK.f K K a b c d
def BK.l0 (K:Nat) (b:Int):Nat->qo->Int->Int->Option (qo×Int)
 |0,_,_,_=>none
 |e+1,c,d,a=>if decide (a<=b)=true then (BJ K c d a).bind λf=>BK.l0 K b e f a (ba .i64 (a+20)) else some (c,d)
def BK.l2 (K:Nat) (d b:Int):Nat->qo->Int->Int->Option (qo×Int)
 |0,_,_,_=>none
 |f+1,e,c,a=>if decide (a<=d)=true then (AK K e c (ba .i64 (c+b)) a).bind λg=>BK.l2 K d b f g a (ba .i64 (a+(ba .i64 ((2:Int)*b)))) else some (e,c)
def BK.l1 (K:Nat) (b:Int):Nat->qo->Int->Option qo
 |0,_,_=>none
 |e+1,d,a=>if decide (a<b)=true then ((BK.l2 K b a K d (0:Int) (ba .i64 ((2:Int)*a))).bind (λc=>if decide ((ba .i64 (c.2+a))<b)=true then (AK K c.1 c.2 (ba .i64 (c.2+a)) b).bind λf=>some f else some c.1)).bind (λg=>BK.l1 K b e g (ba .i64 (a*2))) else some d
def BK (K:Nat) (c:qo) (a:Int):=(BK.l0 K a K c (0:Int) (20:Int)).bind (λb=>(BJ K b.1 b.2 a).bind λd=>BK.l1 K a K d (20:Int))
def LW (K:Nat) (a:qo):=(BK K a (a.length:Int)).bind λb=>some b
def N6 (K:Nat) (a b:Int) (c d:Int):=if decide (b>=c)=true then some (decide (d>=a)) else some false
def LK (K:Nat) (c d:Int) (e f:Int):=(CY K c d).bind λa=>(CY K e f).bind λb=>(N6 K a.1 a.2 b.1 b.2).bind λg=>some g
def N5 (K:Nat) (a b:Int) (c d:Int):=some (mn2 a c,mx2 b d)
def LP (K:Nat) (b c:Int) (f g:Int):=(CY K b c).bind λd=>(CY K f g).bind λe=>(N5 K d.1 d.2 e.1 e.2).bind λa=>if decide (c<b)=true then some (a.2,a.1) else some (a.1,a.2)
def D7.l0 (K:Nat) (c:qo):Nat->qo->Int->Option qo
 |0,_,_=>none
 |d+1,a,b=>if decide (b<(c.length:Int))=true then if 0<=b/\b<(c.length:Int) then (if (decide ((ba .i64 ((a.length:Int)-1))>=0))=true then (LK K (bb a (bc (ba .i64 ((a.length:Int)-1))) zP).1 (bb a (bc (ba .i64 ((a.length:Int)-1))) zP).2 (bb c b.toNat zP).1 (bb c b.toNat zP).2).bind λf=>if 0<=(ba .i64 ((a.length:Int)-1))/\(ba .i64 ((a.length:Int)-1))<(a.length:Int) then some f else none else some false).bind (λg=>if g=true then (LP K (bb a (bc (ba .i64 ((a.length:Int)-1))) zP).1 (bb a (bc (ba .i64 ((a.length:Int)-1))) zP).2 (bb c b.toNat zP).1 (bb c b.toNat zP).2).bind λe=>if 0<=(ba .i64 ((a.length:Int)-1))/\(ba .i64 ((a.length:Int)-1))<(a.length:Int) then D7.l0 K c d (dp a (bc (ba .i64 ((a.length:Int)-1))) (e.1,e.2)) (ba .i64 (b+1)) else none else if (bg a+bg ([((bb c b.toNat zP).1,(bb c b.toNat zP).2)]:List (Int × Int)))*16<=140737488355328 then D7.l0 K c d (a++([((bb c b.toNat zP).1,(bb c b.toNat zP).2)]:List (Int × Int))) (ba .i64 (b+1)) else none) else none else some a
def D7 (K:Nat) (a:qo):=D7.l0 K a K ([]:qo) (0:Int)
def JB (K:Nat) (a:qo):=(OH K a).bind λb=>(LW K b).bind λc=>(D7 K c).bind λd=>some d
def EI.l0 (K:Nat) (b:qo) (c:Int) (d:qg):Nat->qo->Int->Option qo
 |0,_,_=>none
 |h+1,e,a=>if decide (a<(b.length:Int))=true then if 0<=a/\a<(b.length:Int) then (C6 K c d (bb b a.toNat zP).1 true).bind λf=>(C6 K c d (bb b a.toNat zP).2 true).bind λg=>if (bg e+bg ([(f,g)]:List (Int × Int)))*16<=140737488355328 then EI.l0 K b c d h (e++([(f,g)]:List (Int × Int))) (ba .i64 (a+1)) else none else none else some e
def EI (K:Nat) (a:qo) (b:Int) (c:qg):=((CC K b c).bind λe=>if (!e)=true then some true else if ((a.length:Int)==0)=true then some true else (LO K a b c).bind λf=>some (!f)).bind (λg=>if g=true then some (([]:qo),(12:Int)) else (GF K a).bind λd=>if (d !=0)=true then some (([]:qo),d) else (EI.l0 K a b c K ([]:qo) (0:Int)).bind (λh=>(JB K h).bind λi=>some (i,(0:Int))))
def JT (K:Nat) (a b c:Int):=if decide (a>=b)=true then some (decide (a<=c)) else some false
def DX.l0 (K:Nat) (b:qe) (c:Int):Nat->Int->Option Bool
 |0,_=>none
 |d+1,a=>if decide (a<(b.length:Int))=true then if 0<=a/\a<(b.length:Int) then ((JT K (bb b a.toNat zS).2.2 (1:Int) (100:Int)).bind λe=>if (!e)=true then some true else if decide ((bb b a.toNat zS).1<0)=true then some true else if decide ((bb b a.toNat zS).1>=(bb b a.toNat zS).2.1)=true then some true else some (decide ((bb b a.toNat zS).2.1>(mn2 c (20000:Int))))).bind (λf=>if f=true then some false else (if decide (a>0)=true then if (decide ((bb b a.toNat zS).1<(bb b (bc (ba .i64 (a-1))) zS).2.1))=true then if 0<=(ba .i64 (a-1))/\(ba .i64 (a-1))<(b.length:Int) then some true else none else if ((bb b a.toNat zS).1==(bb b (bc (ba .i64 (a-1))) zS).2.1)=true then if 0<=(ba .i64 (a-1))/\(ba .i64 (a-1))<(b.length:Int) then some ((bb b a.toNat zS).2.2==(bb b (bc (ba .i64 (a-1))) zS).2.2) else none else if 0<=(ba .i64 (a-1))/\(ba .i64 (a-1))<(b.length:Int) then some false else none else some false).bind (λg=>if g=true then some false else DX.l0 K b c d (ba .i64 (a+1)))) else none else some true
def DX (K:Nat) (a:qe) (b:Int):=if decide ((a.length:Int)>60)=true then some false else DX.l0 K a b K (0:Int)
def L2 (K:Nat) (a:Int) (b:qg) (d e:Int):=(C6 K a b d true).bind λc=>(C6 K a b e false).bind λf=>some (c,mx2 c f)
def G1 (K:Nat) (a:qe) (b c d:Int):=if decide (b<c)=true then if (bg a+bg ([(b,c,d)]:qe))*24<=140737488355328 then some (a++([(b,c,d)]:qe)) else none else some a
def GL (K:Nat) (a d:Int) (e b:Int) (f g:Int):=(GT K a b).bind λc=>some c
def BE.l1 (K:Nat) (c:Int):Nat->qe->Int->Option qe
 |0,_,_=>none
 |d+1,b,a=>(if decide (a>c)=true then (GL K (bb b a.toNat zS).1 (bb b a.toNat zS).2.1 (bb b a.toNat zS).2.2 (bb b (bc (ba .i64 (a-1))) zS).1 (bb b (bc (ba .i64 (a-1))) zS).2.1 (bb b (bc (ba .i64 (a-1))) zS).2.2).bind λe=>if 0<=a/\a<(b.length:Int)/\0<=(ba .i64 (a-1))/\(ba .i64 (a-1))<(b.length:Int) then some (decide (e<0)) else none else some false).bind (λf=>if f=true then if 0<=(ba .i64 (a-1))/\(ba .i64 (a-1))<(b.length:Int)/\0<=a/\a<(b.length:Int)/\(ba .i64 (a-1))<(((bg (dp b a.toNat ((bb b (bc (ba .i64 (a-1))) zS).1,(bb b (bc (ba .i64 (a-1))) zS).2.1,(bb b (bc (ba .i64 (a-1))) zS).2.2))):Nat):Int) then BE.l1 K c d (dp (dp b a.toNat ((bb b (bc (ba .i64 (a-1))) zS).1,(bb b (bc (ba .i64 (a-1))) zS).2.1,(bb b (bc (ba .i64 (a-1))) zS).2.2)) (bc (ba .i64 (a-1))) ((bb b a.toNat zS).1,(bb b a.toNat zS).2.1,(bb b a.toNat zS).2.2)) (ba .i64 (a-1)) else none else some b)
def BE.l0 (K:Nat) (b c:Int):Nat->qe->Int->Option qe
 |0,_,_=>none
 |e+1,d,a=>if decide (a<b)=true then (BE.l1 K c K d a).bind (λf=>BE.l0 K b c e f (ba .i64 (a+1))) else some d
def BE (K:Nat) (b:qe) (a c:Int):=BE.l0 K c a K b (ba .i64 (a+1))
def DH.l0 (K:Nat) (e c d:Int):Nat->qe->Int->Option qe
 |0,_,_=>none
 |f+1,b,a=>if decide (a<e)=true then if 0<=(ba .i64 (c+a))/\(ba .i64 (c+a))<(b.length:Int)/\0<=(ba .i64 (d+a))/\(ba .i64 (d+a))<(b.length:Int)/\(ba .i64 (c+a))<(((bg (dp b (bc (ba .i64 (d+a))) ((bb b (bc (ba .i64 (c+a))) zS).1,(bb b (bc (ba .i64 (c+a))) zS).2.1,(bb b (bc (ba .i64 (c+a))) zS).2.2))):Nat):Int) then DH.l0 K e c d f (dp (dp b (bc (ba .i64 (d+a))) ((bb b (bc (ba .i64 (c+a))) zS).1,(bb b (bc (ba .i64 (c+a))) zS).2.1,(bb b (bc (ba .i64 (c+a))) zS).2.2)) (bc (ba .i64 (c+a))) ((bb b (bc (ba .i64 (d+a))) zS).1,(bb b (bc (ba .i64 (d+a))) zS).2.1,(bb b (bc (ba .i64 (d+a))) zS).2.2)) (ba .i64 (a+1)) else none else some b
def DH (K:Nat) (a:qe) (b c d:Int):=DH.l0 K d c b K a (0:Int)
def DW.l0 (K:Nat) (c:Int):Nat->qe->Int->Int->Option (qe×Int)
 |0,_,_,_=>none
 |e+1,d,a,b=>if (a !=b)=true then if decide (a>b)=true then (DH K d (ba .i64 (c-a)) c b).bind λf=>DW.l0 K c e f (ba .i64 (a-b)) b else (DH K d (ba .i64 (c-a)) (ba .i64 ((ba .i64 (c+b))-a)) a).bind λg=>DW.l0 K c e g a (ba .i64 (b-a)) else some (d,a)
def DW (K:Nat) (c:qe) (d a e:Int):=(DW.l0 K a K c (ba .i64 (a-d)) (ba .i64 (e-a))).bind (λb=>(DH K b.1 (ba .i64 (a-b.2)) a b.2).bind λf=>some f)
def A8.l0 (K:Nat) (a:qe) (d:Int):Nat->Int->Int->Option Int
 |0,_,_=>none
 |e+1,b,c=>if decide (b<c)=true then (GL K (bb a (bc (ba .i64 (bw (ba .u64 (ba .i64 (b+c))) (2:Int)))) zS).1 (bb a (bc (ba .i64 (bw (ba .u64 (ba .i64 (b+c))) (2:Int)))) zS).2.1 (bb a (bc (ba .i64 (bw (ba .u64 (ba .i64 (b+c))) (2:Int)))) zS).2.2 (bb a d.toNat zS).1 (bb a d.toNat zS).2.1 (bb a d.toNat zS).2.2).bind λf=>if 0<=(ba .i64 (bw (ba .u64 (ba .i64 (b+c))) (2:Int)))/\(ba .i64 (bw (ba .u64 (ba .i64 (b+c))) (2:Int)))<(a.length:Int)/\0<=d/\d<(a.length:Int) then if decide (f<0)=true then A8.l0 K a d e (ba .i64 ((ba .i64 (bw (ba .u64 (ba .i64 (b+c))) (2:Int)))+1)) c else A8.l0 K a d e b (ba .i64 (bw (ba .u64 (ba .i64 (b+c))) (2:Int))) else none else some b
def A8.l1 (K:Nat) (c:Int):Nat->qe->Int->Option qe
 |0,_,_=>none
 |d+1,b,a=>if decide (a<(ba .i64 (c-1)))=true then if 0<=(ba .i64 (a+1))/\(ba .i64 (a+1))<(b.length:Int)/\0<=a/\a<(b.length:Int)/\(ba .i64 (a+1))<(((bg (dp b a.toNat ((bb b (bc (ba .i64 (a+1))) zS).1,(bb b (bc (ba .i64 (a+1))) zS).2.1,(bb b (bc (ba .i64 (a+1))) zS).2.2))):Nat):Int) then A8.l1 K c d (dp (dp b a.toNat ((bb b (bc (ba .i64 (a+1))) zS).1,(bb b (bc (ba .i64 (a+1))) zS).2.1,(bb b (bc (ba .i64 (a+1))) zS).2.2)) (bc (ba .i64 (a+1))) ((bb b a.toNat zS).1,(bb b a.toNat zS).2.1,(bb b a.toNat zS).2.2)) (ba .i64 (a+1)) else none else some b
def A8.l2 (K:Nat) (a:qe) (d:Int):Nat->Int->Int->Option Int
 |0,_,_=>none
 |e+1,b,c=>if decide (b<c)=true then (GL K (bb a d.toNat zS).1 (bb a d.toNat zS).2.1 (bb a d.toNat zS).2.2 (bb a (bc (ba .i64 (bw (ba .u64 (ba .i64 (b+c))) (2:Int)))) zS).1 (bb a (bc (ba .i64 (bw (ba .u64 (ba .i64 (b+c))) (2:Int)))) zS).2.1 (bb a (bc (ba .i64 (bw (ba .u64 (ba .i64 (b+c))) (2:Int)))) zS).2.2).bind λf=>if 0<=d/\d<(a.length:Int)/\0<=(ba .i64 (bw (ba .u64 (ba .i64 (b+c))) (2:Int)))/\(ba .i64 (bw (ba .u64 (ba .i64 (b+c))) (2:Int)))<(a.length:Int) then if (!(decide (f<0)))=true then A8.l2 K a d e (ba .i64 ((ba .i64 (bw (ba .u64 (ba .i64 (b+c))) (2:Int)))+1)) c else A8.l2 K a d e b (ba .i64 (bw (ba .u64 (ba .i64 (b+c))) (2:Int))) else none else some b
def A8.l3 (K:Nat) (c:Int):Nat->qe->Int->Option qe
 |0,_,_=>none
 |d+1,b,a=>if decide (a>c)=true then if 0<=(ba .i64 (a-1))/\(ba .i64 (a-1))<(b.length:Int)/\0<=a/\a<(b.length:Int)/\(ba .i64 (a-1))<(((bg (dp b a.toNat ((bb b (bc (ba .i64 (a-1))) zS).1,(bb b (bc (ba .i64 (a-1))) zS).2.1,(bb b (bc (ba .i64 (a-1))) zS).2.2))):Nat):Int) then A8.l3 K c d (dp (dp b a.toNat ((bb b (bc (ba .i64 (a-1))) zS).1,(bb b (bc (ba .i64 (a-1))) zS).2.1,(bb b (bc (ba .i64 (a-1))) zS).2.2)) (bc (ba .i64 (a-1))) ((bb b a.toNat zS).1,(bb b a.toNat zS).2.1,(bb b a.toNat zS).2.2)) (ba .i64 (a-1)) else none else some b
def A8.l4 (K:Nat) (c:qe) (d e f:Int):Nat->Int->Int->Option Int
 |0,_,_=>none
 |g+1,a,b=>if decide (a<b)=true then (GL K (bb c (bc (ba .i64 ((ba .i64 ((ba .i64 ((ba .i64 (bw (ba .u64 (ba .i64 (d+e))) (2:Int)))+f))-1))-(ba .i64 (bw (ba .u64 (ba .i64 (a+b))) (2:Int)))))) zS).1 (bb c (bc (ba .i64 ((ba .i64 ((ba .i64 ((ba .i64 (bw (ba .u64 (ba .i64 (d+e))) (2:Int)))+f))-1))-(ba .i64 (bw (ba .u64 (ba .i64 (a+b))) (2:Int)))))) zS).2.1 (bb c (bc (ba .i64 ((ba .i64 ((ba .i64 ((ba .i64 (bw (ba .u64 (ba .i64 (d+e))) (2:Int)))+f))-1))-(ba .i64 (bw (ba .u64 (ba .i64 (a+b))) (2:Int)))))) zS).2.2 (bb c (bc (ba .i64 (bw (ba .u64 (ba .i64 (a+b))) (2:Int)))) zS).1 (bb c (bc (ba .i64 (bw (ba .u64 (ba .i64 (a+b))) (2:Int)))) zS).2.1 (bb c (bc (ba .i64 (bw (ba .u64 (ba .i64 (a+b))) (2:Int)))) zS).2.2).bind λh=>if 0<=(ba .i64 ((ba .i64 ((ba .i64 ((ba .i64 (bw (ba .u64 (ba .i64 (d+e))) (2:Int)))+f))-1))-(ba .i64 (bw (ba .u64 (ba .i64 (a+b))) (2:Int)))))/\(ba .i64 ((ba .i64 ((ba .i64 ((ba .i64 (bw (ba .u64 (ba .i64 (d+e))) (2:Int)))+f))-1))-(ba .i64 (bw (ba .u64 (ba .i64 (a+b))) (2:Int)))))<(c.length:Int)/\0<=(ba .i64 (bw (ba .u64 (ba .i64 (a+b))) (2:Int)))/\(ba .i64 (bw (ba .u64 (ba .i64 (a+b))) (2:Int)))<(c.length:Int) then if (!(decide (h<0)))=true then A8.l4 K c d e f g (ba .i64 ((ba .i64 (bw (ba .u64 (ba .i64 (a+b))) (2:Int)))+1)) b else A8.l4 K c d e f g a (ba .i64 (bw (ba .u64 (ba .i64 (a+b))) (2:Int))) else none else some a
def A8.f (K:Nat):Nat->qe->Int->Int->Int->Option qe
 |0,_,_,_,_=>none
 |g+1,e,a,b,c=>if ((ba .i64 (b-a))==1)=true then (A8.l0 K e a K b c).bind (λk=>A8.l1 K k K e a) else if ((ba .i64 (c-b))==1)=true then (A8.l2 K e b K a b).bind (λl=>A8.l3 K l K e b) else (if (decide (b>(ba .i64 (bw (ba .u64 (ba .i64 (a+c))) (2:Int)))))=true then some (ba .i64 ((ba .i64 ((ba .i64 (bw (ba .u64 (ba .i64 (a+c))) (2:Int)))+b))-c),ba .i64 (bw (ba .u64 (ba .i64 (a+c))) (2:Int))) else some (a,b)).bind (λh=>(A8.l4 K e a c b K h.1 h.2).bind (λd=>(if decide (d<b)=true then some (decide (b<(ba .i64 ((ba .i64 ((ba .i64 (bw (ba .u64 (ba .i64 (a+c))) (2:Int)))+b))-d)))) else some false).bind (λm=>(if m=true then (DW K e d b (ba .i64 ((ba .i64 ((ba .i64 (bw (ba .u64 (ba .i64 (a+c))) (2:Int)))+b))-d))).bind λn=>some n else some e).bind (λi=>(if decide (a<d)=true then some (decide (d<(ba .i64 (bw (ba .u64 (ba .i64 (a+c))) (2:Int))))) else some false).bind (λo=>(if o=true then (A8.f K g i a d (ba .i64 (bw (ba .u64 (ba .i64 (a+c))) (2:Int)))).bind λp=>some p else some i).bind (λj=>(if (decide ((ba .i64 (bw (ba .u64 (ba .i64 (a+c))) (2:Int)))<(ba .i64 ((ba .i64 ((ba .i64 (bw (ba .u64 (ba .i64 (a+c))) (2:Int)))+b))-d))))=true then some (decide ((ba .i64 ((ba .i64 ((ba .i64 (bw (ba .u64 (ba .i64 (a+c))) (2:Int)))+b))-d))<c)) else some false).bind (λq=>if q=true then (A8.f K g j (ba .i64 (bw (ba .u64 (ba .i64 (a+c))) (2:Int))) (ba .i64 ((ba .i64 ((ba .i64 (bw (ba .u64 (ba .i64 (a+c))) (2:Int)))+b))-d)) c).bind λr=>some r else some j)))))))
def A8 (K:Nat) (a:qe) (b c d:Int):=A8.f K K a b c d
def AY.l0 (K:Nat) (b:Int):Nat->qe->Int->Int->Option (qe×Int)
 |0,_,_,_=>none
 |e+1,c,d,a=>if decide (a<=b)=true then (BE K c d a).bind λf=>AY.l0 K b e f a (ba .i64 (a+20)) else some (c,d)
def AY.l2 (K:Nat) (d b:Int):Nat->qe->Int->Int->Option (qe×Int)
 |0,_,_,_=>none
 |f+1,e,c,a=>if decide (a<=d)=true then (A8 K e c (ba .i64 (c+b)) a).bind λg=>AY.l2 K d b f g a (ba .i64 (a+(ba .i64 ((2:Int)*b)))) else some (e,c)
def AY.l1 (K:Nat) (b:Int):Nat->qe->Int->Option qe
 |0,_,_=>none
 |e+1,d,a=>if decide (a<b)=true then ((AY.l2 K b a K d (0:Int) (ba .i64 ((2:Int)*a))).bind (λc=>if decide ((ba .i64 (c.2+a))<b)=true then (A8 K c.1 c.2 (ba .i64 (c.2+a)) b).bind λf=>some f else some c.1)).bind (λg=>AY.l1 K b e g (ba .i64 (a*2))) else some d
def AY (K:Nat) (c:qe) (a:Int):=(AY.l0 K a K c (0:Int) (20:Int)).bind (λb=>(BE K b.1 b.2 a).bind λd=>AY.l1 K a K d (20:Int))
def LX (K:Nat) (a:qe):=(AY K a (a.length:Int)).bind λb=>some b
def EN.l0 (K:Nat) (b:qe):Nat->qe->Int->Option (qe×qe)
 |0,_,_=>none
 |d+1,a,c=>if decide (c<(b.length:Int))=true then if 0<=c/\c<(b.length:Int) then (if (decide ((ba .i64 ((a.length:Int)-1))>=0))=true then if ((bb a (bc (ba .i64 ((a.length:Int)-1))) zS).2.2==(bb b c.toNat zS).2.2)=true then if 0<=(ba .i64 ((a.length:Int)-1))/\(ba .i64 ((a.length:Int)-1))<(a.length:Int) then some ((bb a (bc (ba .i64 ((a.length:Int)-1))) zS).2.1==(bb b c.toNat zS).1) else none else if 0<=(ba .i64 ((a.length:Int)-1))/\(ba .i64 ((a.length:Int)-1))<(a.length:Int) then some false else none else some false).bind (λe=>if e=true then if 0<=(ba .i64 ((a.length:Int)-1))/\(ba .i64 ((a.length:Int)-1))<(a.length:Int) then EN.l0 K b d (dp a (bc (ba .i64 ((a.length:Int)-1))) ((bb a (bc (ba .i64 ((a.length:Int)-1))) zS).1,(bb b c.toNat zS).2.1,(bb a (bc (ba .i64 ((a.length:Int)-1))) zS).2.2)) (ba .i64 (c+1)) else none else if (bg a+bg ([((bb b c.toNat zS).1,(bb b c.toNat zS).2.1,(bb b c.toNat zS).2.2)]:List (Int × (Int × Int))))*24<=140737488355328 then EN.l0 K b d (a++([((bb b c.toNat zS).1,(bb b c.toNat zS).2.1,(bb b c.toNat zS).2.2)]:List (Int × (Int × Int)))) (ba .i64 (c+1)) else none) else none else some (a,b)
def EN (K:Nat) (a:qe):=(LX K a).bind λb=>EN.l0 K b K ([]:qe) (0:Int)
def DY.l0 (K:Nat) (a:qe×qe):Nat->qe->Int->Option (qe×Int×qe)
 |0,_,_=>none
 |d+1,c,b=>if decide (b<((a.1.length:Nat):Int))=true then if 0<=b/\b<((a.1.length:Nat):Int)/\(bg c+bg ([((bb a.1 b.toNat zS).1,(bb a.1 b.toNat zS).2.1,(bb a.1 b.toNat zS).2.2)]:List (Int × (Int × Int))))*24<=140737488355328 then DY.l0 K a d (c++([((bb a.1 b.toNat zS).1,(bb a.1 b.toNat zS).2.1,(bb a.1 b.toNat zS).2.2)]:List (Int × (Int × Int)))) (ba .i64 (b+1)) else none else some (c,(0:Int),a.2)
def DY (K:Nat) (b:qe):=(EN K b).bind λa=>if decide (((a.1.length:Nat):Int)>60)=true then some (([]:qe),(70:Int),a.2) else DY.l0 K a K ([]:qe) (0:Int)
def BU.l0 (K:Nat) (b:qe) (c:Int) (d:qg):Nat->qe->Int->Option qe
 |0,_,_=>none
 |g+1,e,a=>if decide (a<(b.length:Int))=true then if 0<=a/\a<(b.length:Int) then (L2 K c d (bb b a.toNat zS).1 (bb b a.toNat zS).2.1).bind λf=>(G1 K e f.1 f.2 (bb b a.toNat zS).2.2).bind λh=>BU.l0 K b c d g h (ba .i64 (a+1)) else none else some e
def BU (K:Nat) (b:qe) (a:Int) (c:qg):=((CC K a c).bind λe=>if (!e)=true then some true else (DX K b a).bind λf=>some (!f)).bind (λg=>if g=true then some (([]:qe),(12:Int)) else (BU.l0 K b a c K ([]:qe) (0:Int)).bind (λh=>(DY K h).bind λd=>some (d.1,d.2.1)))
def E4.l0 (K:Nat) (b:pu) (c:Int):Nat->Int->Option Bool
 |0,_=>none
 |d+1,a=>if decide (a<(b.length:Int))=true then if 0<=a/\a<(b.length:Int) then (if decide ((bb b a.toNat (0:Int))<=0)=true then some true else if decide ((bb b a.toNat (0:Int))>=(mn2 c (20000:Int)))=true then some true else if decide (a>0)=true then if 0<=(ba .i64 (a-1))/\(ba .i64 (a-1))<(b.length:Int) then some (decide ((bb b a.toNat (0:Int))<=(bb b (bc (ba .i64 (a-1))) (0:Int)))) else none else some false).bind (λe=>if e=true then some false else E4.l0 K b c d (ba .i64 (a+1))) else none else some (decide ((b.length:Int)<=60))
def E4 (K:Nat) (a:pu) (b:Int):=E4.l0 K a b K (0:Int)
def E6.l0 (K:Nat) (b:qg):Nat->Int->Int->Int->Option (Int×Int)
 |0,_,_,_=>none
 |e+1,c,d,a=>if decide (a<(b.length:Int))=true then if 0<=a/\a<(b.length:Int) then E6.l0 K b e (ba .i64 (c+(ba .i64 ((bb b a.toNat zE).2.1-(bb b a.toNat zE).1)))) (ba .i64 (d+(((cr (bb b a.toNat zE).2.2):Nat):Int))) (ba .i64 (a+1)) else none else some (c,d)
def E6 (K:Nat) (b:Int) (a:qg):=(CC K b a).bind λc=>if (!c)=true then some ((0:Int),(0:Int)) else E6.l0 K a K (0:Int) (0:Int) (0:Int)
def KF (K:Nat) (b:Int) (c:qg):=(E6 K b c).bind λa=>some (ba .i64 (a.1+a.2))
def CQ.l0 (K:Nat) (c:pu) (e:Int) (f:qg) (g:Int):Nat->pu->Int->Option (pu×Int)
 |0,_,_=>none
 |h+1,a,b=>if decide (b<(c.length:Int))=true then if 0<=b/\b<(c.length:Int) then (C6 K e f (bb c b.toNat (0:Int)) false).bind λd=>(if decide (d>0)=true then if decide (d<g)=true then if ((a.length:Int)==0)=true then some true else if 0<=(ba .i64 ((a.length:Int)-1))/\(ba .i64 ((a.length:Int)-1))<(a.length:Int) then some ((bb a (bc (ba .i64 ((a.length:Int)-1))) (0:Int)) !=d) else none else some false else some false).bind (λi=>if i=true then if (bg a+bg ([d]:pu))*8<=140737488355328 then CQ.l0 K c e f g h (a++([d]:pu)) (ba .i64 (b+1)) else none else CQ.l0 K c e f g h a (ba .i64 (b+1))) else none else some (a,(0:Int))
def CQ (K:Nat) (c:pu) (a:Int) (b:qg):=((CC K a b).bind λd=>if (!d)=true then some true else (E4 K c a).bind λe=>some (!e)).bind (λf=>if f=true then some (([]:pu),(12:Int)) else (KF K a b).bind λg=>CQ.l0 K c a b g K ([]:pu) (0:Int))
def IC (K:Nat) (g:rb) (h:qb) (i:Int) (j k:pu) (m:rz) (f:qo) (d:qe) (b:pu) (n:rb) (o:qb) (p:Int) (q r:pu) (s:rz) (t:qo) (u:qe) (v:pu):=(CN K n o p q r s t u v).bind λw=>(CN K g h i j k m f d b).bind λx=>(KI K g h i j k w x).bind λa=>if (a.2.2 !=0)=true then some (a.2.2,f,d,b) else (EI K f a.1 a.2.1).bind λc=>if (c.2 !=0)=true then some (c.2,c.1,d,b) else (BU K d a.1 a.2.1).bind λe=>if (e.2 !=0)=true then some (e.2,c.1,e.1,b) else (CQ K b a.1 a.2.1).bind λl=>some (l.2,c.1,e.1,l.1)
def IL (K:Nat) (e:rb) (a:qb) (b:Int) (c d:pu):=(GA K e a b c d).bind λf=>(JD K a b c d f).bind λg=>some g
def C1.l0 (K:Nat) (b:pu) (d:qb) (e:Int) (f g:pu):Nat->pu->Int->Option (Int ⊕ pu)
 |0,_,_=>none
 |h+1,c,a=>if decide (a<(b.length:Int))=true then if 0<=a/\a<(b.length:Int) then (if (mq c (bb b a.toNat (0:Int)))=true then some true else (JE K d e f g (bb b a.toNat (0:Int))).bind λi=>some (!i)).bind (λj=>if j=true then some (mj (210:Int)) else if (-9223372036854775808:Int)<=(bb b a.toNat (0:Int))/\(bb b a.toNat (0:Int))<=9223372036854775807 then C1.l0 K b d e f g h (tZ (bb b a.toNat (0:Int)) c) (ba .i64 (a+1)) else none) else none else some (ln c)
def C1 (K:Nat) (a:qb) (e:Int) (b c f:pu):=(C1.l0 K f a e b c K ([]:pu) (0:Int)).bind (la (λz=>some (z,a,e,b,c)) (λd=>if 0<=(ba .i64 ((a.length:Int)-1))/\(ba .i64 ((a.length:Int)-1))<(a.length:Int) then (FI K a e b c).bind λg=>if bc (ba .i64 ((a.length:Int)-1))<a.length then (if d.length<d.length+1/\inW d=true then some (fgR g d (a.getD (bc (ba .i64 ((a.length:Int)-1))) []) b c) else none) else none else none))
def GW (K:Nat) (a:Int) (b c:pu):=(EL K b a).bind λd=>if d=true then (EL K c a).bind λe=>some e else some false
def KR (K:Nat) (a:Int) (b c:pu):=(EL K b a).bind λd=>if d=true then (EL K c a).bind λe=>some (!e) else some false
def MY (K:Nat) (e a:Int) (b c:pu):=(KR K a b c).bind λd=>some d
def EM.l0 (K:Nat) (b:qo) (c d:pu):Nat->Int->Option Int
 |0,_=>none
 |e+1,a=>if decide (a<(b.length:Int))=true then (MY K (bb b a.toNat zP).1 (bb b a.toNat zP).2 c d).bind λf=>if 0<=a/\a<(b.length:Int) then if f=true then some a else EM.l0 K b c d e (ba .i64 (a+1)) else none else some (-1:Int)
def EM (K:Nat) (a:qo) (b c:pu):=EM.l0 K a b c K (0:Int)
def JN (K:Nat) (a:qo) (b c:pu):=(EM K a b c).bind λd=>some (decide (d>=0))
def IN (K:Nat) (e a:Int) (b c:pu):=(GW K a b c).bind λd=>some d
def DG.l0 (K:Nat) (b:qo) (c d:pu):Nat->Int->Option Int
 |0,_=>none
 |e+1,a=>if decide (a<(b.length:Int))=true then (IN K (bb b a.toNat zP).1 (bb b a.toNat zP).2 c d).bind λf=>if 0<=a/\a<(b.length:Int) then if f=true then some a else DG.l0 K b c d e (ba .i64 (a+1)) else none else some (-1:Int)
def DG (K:Nat) (a:qo) (b c:pu):=DG.l0 K a b c K (0:Int)
def DF.l0 (K:Nat) (d e:pu):Nat->qo->Int->Int->Option (qo×Int)
 |0,_,_,_=>none
 |f+1,a,c,b=>if decide (b<(a.length:Int))=true then if 0<=b/\b<(a.length:Int) then (IN K (bb a b.toNat zP).1 (bb a b.toNat zP).2 d e).bind λg=>if (!g)=true then if 0<=c/\c<(a.length:Int) then DF.l0 K d e f (dp a c.toNat ((bb a b.toNat zP).1,(bb a b.toNat zP).2)) (ba .i64 (c+1)) (ba .i64 (b+1)) else none else DF.l0 K d e f a c (ba .i64 (b+1)) else none else some (a,c)
def DF (K:Nat) (b:qo) (d e:pu):=(DG K b d e).bind λc=>if (c==(-1:Int))=true then some b else (DF.l0 K d e K b c (ba .i64 (c+1))).bind (λa=>if 0<=a.2/\a.2<=((a.1.length:Nat):Int)/\a.2<=(((bg (tU a.1 (bn (a.1.length-a.2.toNat) zP) a.2.toNat)):Nat):Int) then some (cu (a.2.toNat-0) (gf 0 (tU a.1 (bn (a.1.length-a.2.toNat) zP) a.2.toNat))) else none)
def FT.l0 (K:Nat) (b:rb) (f:pu):Nat->pu->rb->Int->Int->Option rb
 |0,_,_,_,_=>none
 |h+1,e,d,c,a=>if decide (a<(b.length:Int))=true then if 0<=a/\a<(b.length:Int) then ((GW K (bb b a.toNat zAt).2.2.1 e f).bind λi=>if i=true then some true else (JN K (bb b a.toNat zAt).2.2.2.2 e f).bind λj=>some j).bind (λk=>if k=true then FT.l0 K b f h e d c (ba .i64 (a+1)) else (GJ K (bb b a.toNat zAt).2.2.2.2).bind λl=>(DF K l e f).bind λg=>(EL K e (bb b a.toNat zAt).2.2.1).bind λm=>if m=true then if 0<=c/\c<=(d.length:Int) then FT.l0 K b f h e (tU d (cu (d.length-c.toNat) ([((bb b a.toNat zAt).1,(bb b a.toNat zAt).2.1,(-1:Int),(bb b a.toNat zAt).2.2.2.1,g)]:rb)) c.toNat) (ba .i64 (c+(((bg (cu (d.length-c.toNat) ([((bb b a.toNat zAt).1,(bb b a.toNat zAt).2.1,(-1:Int),(bb b a.toNat zAt).2.2.2.1,g)]:rb))):Nat):Int))) (ba .i64 (a+1)) else none else if 0<=c/\c<=(d.length:Int) then FT.l0 K b f h e (tU d (cu (d.length-c.toNat) ([((bb b a.toNat zAt).1,(bb b a.toNat zAt).2.1,(bb b a.toNat zAt).2.2.1,(bb b a.toNat zAt).2.2.2.1,g)]:rb)) c.toNat) (ba .i64 (c+(((bg (cu (d.length-c.toNat) ([((bb b a.toNat zAt).1,(bb b a.toNat zAt).2.1,(bb b a.toNat zAt).2.2.1,(bb b a.toNat zAt).2.2.2.1,g)]:rb))):Nat):Int))) (ba .i64 (a+1)) else none) else none else if 0<=c/\c<=(d.length:Int) then some (cu (c.toNat-0) (gf 0 d)) else none
def FT (K:Nat) (a:rb) (b c:pu):=if 0<=(a.length:Int)/\(a.length:Int)<=(a.length:Int)/\(a.length:Int)*64<=140737488355328/\(a.length:Int)<=9223372036854775807 then FT.l0 K a c K b (bn (bc (a.length:Int)) zAt) (0:Int) (0:Int) else none
def MT (K:Nat) (b:rb) (c:qb) (d:Int) (e f g:pu):=(IL K b c d e f).bind λh=>(C1 K c d e f g).bind λa=>if (a.1 !=0)=true then some (a.1,b,a.2.1,a.2.2.1,a.2.2.2.1,a.2.2.2.2) else (FT K b g h).bind λi=>some ((0:Int),i,a.2.1,a.2.2.1,a.2.2.2.1,a.2.2.2.2)
def O6 (K:Nat) (b:qo) (a:np):=(GF K b).bind λc=>if (c !=0)=true then some (([]:qo),c) else (I6 K a).bind λf=>(GH K b a).bind λd=>if (!d)=true then some (([]:qo),(10:Int)) else (I5 K a).bind λg=>(GG K b a).bind λe=>if (!e)=true then some (([]:qo),(11:Int)) else none
def C2.l0 (K:Nat) (b:qe) (c d:Int):Nat->qe->Int->Option qe
 |0,_,_=>none
 |f+1,e,a=>if decide (a<(b.length:Int))=true then if 0<=a/\a<(b.length:Int) then if (c==d)=true then (G1 K e (bb b a.toNat zS).1 (bb b a.toNat zS).2.1 (bb b a.toNat zS).2.2).bind λg=>C2.l0 K b c d f g (ba .i64 (a+1)) else (G1 K e (bb b a.toNat zS).1 (mn2 (bb b a.toNat zS).2.1 c) (bb b a.toNat zS).2.2).bind λh=>(G1 K h (mx2 (bb b a.toNat zS).1 d) (bb b a.toNat zS).2.1 (bb b a.toNat zS).2.2).bind λi=>C2.l0 K b c d f i (ba .i64 (a+1)) else none else some e
def C2 (K:Nat) (d:qe) (a b c:Int):=((DX K d (20000:Int)).bind λg=>if (!g)=true then some true else (JT K c (0:Int) (100:Int)).bind λh=>if (!h)=true then some true else if decide (a<0)=true then some true else if decide (a>b)=true then some true else some (decide (b>20000))).bind (λi=>if i=true then some (([]:qe),(12:Int)) else (C2.l0 K d a b K ([]:qe) (0:Int)).bind (λe=>(if decide (c>0)=true then (G1 K e a b c).bind λj=>some j else some e).bind (λk=>(DY K k).bind λf=>some (f.1,f.2.1))))
def K8 (K:Nat) (a b:Int):=(G5 K a).bind λc=>if c=true then (G5 K b).bind λd=>if (!d)=true then some true else some (decide (a<b)) else some (decide (a<b))
def LY (K:Nat) (a:Int):=some (a !=a)
def EK.l0 (K:Nat) (c:pu) (d:Int):Nat->Int->Int->Option Int
 |0,_,_=>none
 |e+1,a,b=>if decide (a<b)=true then (K8 K (bb c (bc (ba .i64 (bw (ba .u64 (ba .i64 (a+b))) (2:Int)))) (0:Int)) d).bind λf=>if 0<=(ba .i64 (bw (ba .u64 (ba .i64 (a+b))) (2:Int)))/\(ba .i64 (bw (ba .u64 (ba .i64 (a+b))) (2:Int)))<(c.length:Int) then if f=true then EK.l0 K c d e (ba .i64 ((ba .i64 (bw (ba .u64 (ba .i64 (a+b))) (2:Int)))+1)) b else EK.l0 K c d e a (ba .i64 (bw (ba .u64 (ba .i64 (a+b))) (2:Int))) else none else some a
def EK (K:Nat) (b:pu) (c:Int):=(EK.l0 K b c K (0:Int) (b.length:Int)).bind (λa=>if decide (a<(b.length:Int))=true then if ((bb b a.toNat (0:Int))==c)=true then if 0<=a/\a<(b.length:Int) then some (a,true) else none else (LY K (bb b a.toNat (0:Int))).bind λd=>if d=true then (LY K c).bind λe=>if 0<=a/\a<(b.length:Int) then some (a,e) else none else if 0<=a/\a<(b.length:Int) then some (a,false) else none else some (a,false))
def OK (K:Nat) (a:pu) (b:Int) (c:pu):=if 0<=b/\b<=(a.length:Int)/\0<bg c/\bg a+bg c<=1000000 then some (cu b.toNat a++(c++gf b.toNat a)) else none
def FN (K:Nat) (a:pu) (b:Int):=((E4 K a (20000:Int)).bind λd=>if (!d)=true then some true else if decide (b<=0)=true then some true else some (decide (b>=20000))).bind (λe=>if e=true then some (([]:pu),(12:Int)) else (EK K a b).bind λc=>if 0<=(a.length:Int)/\(a.length:Int)<=(ba .i64 ((a.length:Int)+1))/\(ba .i64 ((a.length:Int)+1))*8<=140737488355328/\(ba .i64 ((a.length:Int)+1))<=9223372036854775807 then if c.2=true then some (tU (bn (bc (a.length:Int)) (0:Int)) (cu (bg (bn (bc (a.length:Int)) (0:Int))) a) 0,(0:Int)) else if decide ((a.length:Int)>=60)=true then some (([]:pu),(70:Int)) else (OK K (tU (bn (bc (a.length:Int)) (0:Int)) (cu (bg (bn (bc (a.length:Int)) (0:Int))) a) 0) c.1 ([b]:pu)).bind λf=>some (f,(0:Int)) else none)
def TK (K:Nat) (a:rb) (b:qb) (c:Int) (d e:pu) (r:rz) (h:qo) (f:qe) (g:pu) (n k:Int) (z aa:Int) (ab:np) (l m s:Int):=(FB K a b c d e r h f g).bind λi=>if (n==3)=true then (MT K a b c d e ([]:pu)).bind λj=>some (j.1,j.2.1,j.2.2.1,j.2.2.2.1,j.2.2.2.2.1,j.2.2.2.2.2,h,f,g) else if (n==4)=true then (O6 K ([]:qo) i).bind λo=>some (o.2,a,b,c,d,e,o.1,f,g) else if (n==7)=true then (if decide (l<0)=true then some true else if decide (l>m)=true then some true else some (decide (m>(i.size:Int)))).bind (λt=>if t=true then some ((10:Int),a,b,c,d,e,h,f,g) else ((CL K i l).bind λu=>if (!u)=true then some true else (CL K i m).bind λv=>some (!v)).bind (λw=>if w=true then some ((11:Int),a,b,c,d,e,h,f,g) else (C2 K f l m s).bind λp=>some (p.2,a,b,c,d,e,h,p.1,g))) else (if decide (k<=0)=true then some true else some (decide (k>=(i.size:Int)))).bind (λx=>if x=true then some ((10:Int),a,b,c,d,e,h,f,g) else (CL K i k).bind λy=>if (!y)=true then some ((11:Int),a,b,c,d,e,h,f,g) else (FN K g k).bind λq=>some (q.2,a,b,c,d,e,h,f,q.1))
def HM (K:Nat) (a:rb) (b:qb) (c:Int) (d e:pu) (f:rz) (g:qo) (h:qe) (i:pu):=(CN K a b c d e f g h i).bind λj=>(FQ K a b c d e j).bind λk=>(JH K k.1).bind λl=>some l.1
def TE (K:Nat) (i:rb) (j:qb) (d:Int) (k l:pu) (g:rz) (m:qo) (n:qe) (o:pu) (h q:Int) (r s:Int) (t:np) (u v w:Int):=(if decide (h<1)=true then some true else some (decide (h>8))).bind (λy=>if y=true then some ((0:Int),(260:Int),i,j,d,k,l,g,m,n,o) else (IB K i j d k l g m n o).bind λb=>(K3 K).bind λe=>if 0<=h/\h<((9:Nat):Int) then (if (bb [e.1,e.2.1,e.2.2.1,e.2.2.2.1,e.2.2.2.2.1,e.2.2.2.2.2.1,e.2.2.2.2.2.2.1,e.2.2.2.2.2.2.2.1,e.2.2.2.2.2.2.2.2] h.toNat false)=true then (TH K b.1 b.2.1 d b.2.2.1 b.2.2.2.1 g b.2.2.2.2.1 b.2.2.2.2.2.1 b.2.2.2.2.2.2 h q r s t u v w).bind λc=>if (c.1==0)=true then (IC K c.2.1 c.2.2.1 d c.2.2.2.1 c.2.2.2.2 g b.2.2.2.2.1 b.2.2.2.2.2.1 b.2.2.2.2.2.2 i j d k l g m n o).bind λp=>some (c.2.1,c.2.2.1,d,c.2.2.2.1,c.2.2.2.2,p.2.1,p.2.2.1,p.2.2.2,p.1) else some (c.2.1,c.2.2.1,d,c.2.2.2.1,c.2.2.2.2,b.2.2.2.2.1,b.2.2.2.2.2.1,b.2.2.2.2.2.2,c.1) else (TK K b.1 b.2.1 d b.2.2.1 b.2.2.2.1 g b.2.2.2.2.1 b.2.2.2.2.2.1 b.2.2.2.2.2.2 h q r s t u v w).bind λf=>some (f.2.1,f.2.2.1,f.2.2.2.1,f.2.2.2.2.1,f.2.2.2.2.2.1,f.2.2.2.2.2.2.1,f.2.2.2.2.2.2.2.1,f.2.2.2.2.2.2.2.2,f.1)).bind (λa=>if (a.2.2.2.2.2.2.2.2 !=0)=true then some ((0:Int),a.2.2.2.2.2.2.2.2,i,j,d,k,l,g,m,n,o) else (HM K a.1 a.2.1 a.2.2.1 a.2.2.2.1 a.2.2.2.2.1 g a.2.2.2.2.2.1 a.2.2.2.2.2.2.1 a.2.2.2.2.2.2.2.1).bind λx=>(CN K a.1 a.2.1 a.2.2.1 a.2.2.2.1 a.2.2.2.2.1 x a.2.2.2.2.2.1 a.2.2.2.2.2.2.1 a.2.2.2.2.2.2.2.1).bind λz=>some (z,(0:Int),a.1,a.2.1,a.2.2.1,a.2.2.2.1,a.2.2.2.2.1,x,a.2.2.2.2.2.1,a.2.2.2.2.2.2.1,a.2.2.2.2.2.2.2.1)) else none)
def TI (K:Nat) (a:rb) (b:qb) (e:Int) (c d:pu) (l:rz) (f:qo) (m:qe) (n:pu) (o q:Int) (k r:Int) (s:qg) (t:np) (y z aa:Int):=if (o==1)=true then (CD K a b e c d q k r s).bind λg=>some (g.2.1,g.2.2.1,g.2.2.2.1,g.2.2.2.2.1,g.2.2.2.2.2) else if (o==2)=true then (HW K a b e c d k).bind λh=>some (h.2.1,h.2.2.1,h.2.2.2.1,h.2.2.2.2.1,h.2.2.2.2.2) else if (o==5)=true then (CN K a b e c d l f m n).bind λu=>(DM K f t).bind λv=>(CD K a b e c d u k (0:Int) v).bind λi=>some (i.2.1,i.2.2.1,i.2.2.2.1,i.2.2.2.2.1,i.2.2.2.2.2) else (FB K a b e c d l f m n).bind λw=>(CS K f w).bind λp=>if decide ((p.length:Int)>0)=true then (CN K a b e c d l f m n).bind λx=>(CD K a b e c d x k (0:Int) p).bind λj=>some (j.2.1,j.2.2.1,j.2.2.2.1,j.2.2.2.2.1,j.2.2.2.2.2) else some ((0:Int),a,b,c,d)
def TL (K:Nat) (a:rb) (b:qb) (c:Int) (d e:pu) (r:rz) (h:qo) (f:qe) (g:pu) (n k:Int) (z aa:Int) (ab:qg) (ac:np) (l m s:Int):=(FB K a b c d e r h f g).bind λi=>if (n==3)=true then (MT K a b c d e ([]:pu)).bind λj=>some (j.1,j.2.1,j.2.2.1,j.2.2.2.1,j.2.2.2.2.1,j.2.2.2.2.2,h,f,g) else if (n==4)=true then (O6 K ([]:qo) i).bind λo=>some (o.2,a,b,c,d,e,o.1,f,g) else if (n==7)=true then (if decide (l<0)=true then some true else if decide (l>m)=true then some true else some (decide (m>(i.size:Int)))).bind (λt=>if t=true then some ((10:Int),a,b,c,d,e,h,f,g) else ((CL K i l).bind λu=>if (!u)=true then some true else (CL K i m).bind λv=>some (!v)).bind (λw=>if w=true then some ((11:Int),a,b,c,d,e,h,f,g) else (C2 K f l m s).bind λp=>some (p.2,a,b,c,d,e,h,p.1,g))) else (if decide (k<=0)=true then some true else some (decide (k>=(i.size:Int)))).bind (λx=>if x=true then some ((10:Int),a,b,c,d,e,h,f,g) else (CL K i k).bind λy=>if (!y)=true then some ((11:Int),a,b,c,d,e,h,f,g) else (FN K g k).bind λq=>some (q.2,a,b,c,d,e,h,f,q.1))
def TF (K:Nat) (i:rb) (j:qb) (d:Int) (k l:pu) (g:rz) (m:qo) (n:qe) (o:pu) (h q:Int) (r s:Int) (t:qg) (u:np) (v w x:Int):=(if decide (h<1)=true then some true else some (decide (h>8))).bind (λz=>if z=true then some ((0:Int),(260:Int),i,j,d,k,l,g,m,n,o) else (IB K i j d k l g m n o).bind λb=>(K3 K).bind λe=>if 0<=h/\h<((9:Nat):Int) then (if (bb [e.1,e.2.1,e.2.2.1,e.2.2.2.1,e.2.2.2.2.1,e.2.2.2.2.2.1,e.2.2.2.2.2.2.1,e.2.2.2.2.2.2.2.1,e.2.2.2.2.2.2.2.2] h.toNat false)=true then (TI K b.1 b.2.1 d b.2.2.1 b.2.2.2.1 g b.2.2.2.2.1 b.2.2.2.2.2.1 b.2.2.2.2.2.2 h q r s t u v w x).bind λc=>if (c.1==0)=true then (IC K c.2.1 c.2.2.1 d c.2.2.2.1 c.2.2.2.2 g b.2.2.2.2.1 b.2.2.2.2.2.1 b.2.2.2.2.2.2 i j d k l g m n o).bind λp=>some (c.2.1,c.2.2.1,d,c.2.2.2.1,c.2.2.2.2,p.2.1,p.2.2.1,p.2.2.2,p.1) else some (c.2.1,c.2.2.1,d,c.2.2.2.1,c.2.2.2.2,b.2.2.2.2.1,b.2.2.2.2.2.1,b.2.2.2.2.2.2,c.1) else (TL K b.1 b.2.1 d b.2.2.1 b.2.2.2.1 g b.2.2.2.2.1 b.2.2.2.2.2.1 b.2.2.2.2.2.2 h q r s t u v w x).bind λf=>some (f.2.1,f.2.2.1,f.2.2.2.1,f.2.2.2.2.1,f.2.2.2.2.2.1,f.2.2.2.2.2.2.1,f.2.2.2.2.2.2.2.1,f.2.2.2.2.2.2.2.2,f.1)).bind (λa=>if (a.2.2.2.2.2.2.2.2 !=0)=true then some ((0:Int),a.2.2.2.2.2.2.2.2,i,j,d,k,l,g,m,n,o) else (HM K a.1 a.2.1 a.2.2.1 a.2.2.2.1 a.2.2.2.2.1 g a.2.2.2.2.2.1 a.2.2.2.2.2.2.1 a.2.2.2.2.2.2.2.1).bind λy=>(CN K a.1 a.2.1 a.2.2.1 a.2.2.2.1 a.2.2.2.2.1 y a.2.2.2.2.2.1 a.2.2.2.2.2.2.1 a.2.2.2.2.2.2.2.1).bind λaa=>some (aa,(0:Int),a.1,a.2.1,a.2.2.1,a.2.2.2.1,a.2.2.2.2.1,y,a.2.2.2.2.2.1,a.2.2.2.2.2.2.1,a.2.2.2.2.2.2.2.1)) else none)
def LG (K:Nat):=(JY K).bind λc=>(TE K ([]:rb) c.1 (0:Int) c.2.1 c.2.2.1 c.2.2.2 (bn 1 zP) ([]:qe) ([]:pu) (5:Int) (0:Int) (1:Int) (0:Int) (iu #[97,98,10]) (0:Int) (0:Int) (0:Int)).bind λb=>(TF K b.2.2.1 b.2.2.2.1 b.2.2.2.2.1 b.2.2.2.2.2.1 b.2.2.2.2.2.2.1 b.2.2.2.2.2.2.2.1 b.2.2.2.2.2.2.2.2.1 b.2.2.2.2.2.2.2.2.2.1 b.2.2.2.2.2.2.2.2.2.2 (1:Int) (0:Int) (2:Int) (0:Int) ([((0:Int),(0:Int),iu #[60])]:qg) cc (0:Int) (0:Int) (0:Int)).bind λa=>if (b.2.1==0)=true then if (a.2.1==0)=true then (FB K a.2.2.1 a.2.2.2.1 a.2.2.2.2.1 a.2.2.2.2.2.1 a.2.2.2.2.2.2.1 a.2.2.2.2.2.2.2.1 a.2.2.2.2.2.2.2.2.1 a.2.2.2.2.2.2.2.2.2.1 a.2.2.2.2.2.2.2.2.2.2).bind λd=>if (ex d==ex (iu #[97,98,10,60]))=true then (CN K a.2.2.1 a.2.2.2.1 a.2.2.2.2.1 a.2.2.2.2.2.1 a.2.2.2.2.2.2.1 a.2.2.2.2.2.2.2.1 a.2.2.2.2.2.2.2.2.1 a.2.2.2.2.2.2.2.2.2.1 a.2.2.2.2.2.2.2.2.2.2).bind λe=>some (e==2) else some false else some false else some false
def F0.l0 (K:Nat) (a:qg):Nat->Int->Option Bool
 |0,_=>none
 |c+1,b=>if decide (b<(a.length:Int))=true then if 0<=b/\b<(a.length:Int) then if (decide ((((cr (bb a b.toNat zE).2.2):Nat):Int)>60))=true then some false else F0.l0 K a c (ba .i64 (b+1)) else none else some (decide ((a.length:Int)<=12))
def F0 (K:Nat) (a:qg):=F0.l0 K a K (0:Int)
def CT.l0 (K:Nat) (b:rb) (e f:pu):Nat->rb->Int->Int->Option rb
 |0,_,_,_=>none
 |h+1,d,c,a=>if decide (a<(b.length:Int))=true then if 0<=a/\a<(b.length:Int) then ((GW K (bb b a.toNat zAt).2.2.1 e f).bind λi=>if i=true then some true else (JN K (bb b a.toNat zAt).2.2.2.2 e f).bind λj=>some j).bind (λk=>if k=true then CT.l0 K b e f h d c (ba .i64 (a+1)) else (GJ K (bb b a.toNat zAt).2.2.2.2).bind λl=>(DF K l e f).bind λg=>(EL K e (bb b a.toNat zAt).2.2.1).bind λm=>if m=true then if 0<=c/\c<=(d.length:Int) then CT.l0 K b e f h (tU d (cu (d.length-c.toNat) ([((bb b a.toNat zAt).1,(bb b a.toNat zAt).2.1,(-1:Int),(bb b a.toNat zAt).2.2.2.1,g)]:rb)) c.toNat) (ba .i64 (c+(((bg (cu (d.length-c.toNat) ([((bb b a.toNat zAt).1,(bb b a.toNat zAt).2.1,(-1:Int),(bb b a.toNat zAt).2.2.2.1,g)]:rb))):Nat):Int))) (ba .i64 (a+1)) else none else if 0<=c/\c<=(d.length:Int) then CT.l0 K b e f h (tU d (cu (d.length-c.toNat) ([((bb b a.toNat zAt).1,(bb b a.toNat zAt).2.1,(bb b a.toNat zAt).2.2.1,(bb b a.toNat zAt).2.2.2.1,g)]:rb)) c.toNat) (ba .i64 (c+(((bg (cu (d.length-c.toNat) ([((bb b a.toNat zAt).1,(bb b a.toNat zAt).2.1,(bb b a.toNat zAt).2.2.1,(bb b a.toNat zAt).2.2.2.1,g)]:rb))):Nat):Int))) (ba .i64 (a+1)) else none) else none else if 0<=c/\c<=(d.length:Int) then some (cu (c.toNat-0) (gf 0 d)) else none
def CT (K:Nat) (a:rb) (b c:pu):=if 0<=(a.length:Int)/\(a.length:Int)<=(a.length:Int)/\(a.length:Int)*64<=140737488355328/\(a.length:Int)<=9223372036854775807 then CT.l0 K a b c K (bn (bc (a.length:Int)) zAt) (0:Int) (0:Int) else none
def KP (K:Nat) (b:rb) (c:qb) (d:Int) (e f g:pu):=(IL K b c d e f).bind λh=>(C1 K c d e f g).bind λa=>if (a.1 !=0)=true then some (a.1,b,a.2.1,a.2.2.1,a.2.2.2.1,a.2.2.2.2) else (CT K b g h).bind λi=>some ((0:Int),i,a.2.1,a.2.2.1,a.2.2.2.1,a.2.2.2.2)
def ED.l0 (K:Nat) (b c:pu):Nat->Int->Option Bool
 |0,_=>none
 |d+1,a=>if decide (a<(b.length:Int))=true then if 0<=a/\a<(b.length:Int)/\a<(c.length:Int) then if ((bb b a.toNat (0:Int)) !=(bb c a.toNat (0:Int)))=true then some false else ED.l0 K b c d (ba .i64 (a+1)) else none else some true
def ED (K:Nat) (a b:pu):=if ((a.length:Int) !=(b.length:Int))=true then some false else ED.l0 K a b K (0:Int)
def B9.l0 (K:Nat) (d b:Int) (c:np):Nat->Int->Int->Option (Int ⊕ Int)
 |0,_,_=>none
 |f+1,e,a=>if decide (a<d)=true then if 0<=(ba .i64 (b+a))/\(ba .i64 (b+a))<(c.size:Int) then if ((bw (ba .i64 (bt c (ba .i64 (b+a)))) (64:Int)) !=2)=true then some (mj (0:Int)) else B9.l0 K d b c f (ba .i64 (bz (bi (bh .i64) (ba .i64 (e*64)) |||bi (bh .i64) (ba .i64 (bz (bi (bh .i64) (ba .i64 (bt c (ba .i64 (b+a)))) &&&bi (bh .i64) (63:Int))))))) (ba .i64 (a+1)) else none else some (ln e)
def B9 (K:Nat) (b:np) (a:Int):=(if decide (a<0)=true then some true else some (decide (a>=(b.size:Int)))).bind (λe=>if e=true then some (0:Int) else if 0<=a/\a<(b.size:Int) then if decide ((ba .i64 (bt b a))<128)=true then some (1:Int) else (if decide ((ba .i64 (bt b a))>=192)=true then some (decide ((ba .i64 (bt b a))<224)) else some false).bind (λf=>(if f=true then some (ln ((2:Int),ba .i64 (bz (bi (bh .i64) (ba .i64 (bt b a))&&&bi (bh .i64) (31:Int))),(128:Int))) else (if decide ((ba .i64 (bt b a))>=224)=true then some (decide ((ba .i64 (bt b a))<240)) else some false).bind (λg=>if g=true then some (ln ((3:Int),ba .i64 (bz (bi (bh .i64) (ba .i64 (bt b a))&&&bi (bh .i64) (15:Int))),(2048:Int))) else (if decide ((ba .i64 (bt b a))>=240)=true then some (decide ((ba .i64 (bt b a))<248)) else some false).bind (λh=>if h=true then some (ln ((4:Int),ba .i64 (bz (bi (bh .i64) (ba .i64 (bt b a))&&&bi (bh .i64) (7:Int))),(65536:Int))) else some (mj (0:Int))))).bind (la (λi=>some i) (λc=>if (decide ((ba .i64 ((b.size:Int)-a))<c.1))=true then some (0:Int) else (B9.l0 K c.1 a b K c.2.1 (1:Int)).bind (la (λj=>some j) (λd=>(if decide (d<c.2.2)=true then some true else if decide (d>1114111)=true then some true else if decide (d>=55296)=true then some (decide (d<57344)) else some false).bind (λk=>if k=true then some (0:Int) else some c.1)))))) else none)
def BW.l0 (K:Nat) (a:np):Nat->Int->Option Bool
 |0,_=>none
 |d+1,b=>if decide (b<(a.size:Int))=true then (B9 K a b).bind λc=>if (c==0)=true then some false else BW.l0 K a d (ba .i64 (b+c)) else some true
def BW (K:Nat) (a:np):=BW.l0 K a K (0:Int)
def LJ (K:Nat) (a:qo) (b:np):=(GF K a).bind λc=>if (c !=0)=true then some (([]:qo),c) else (I6 K b).bind λg=>(GH K a b).bind λd=>if (!d)=true then some (([]:qo),(10:Int)) else (I5 K b).bind λh=>(GG K a b).bind λe=>if (!e)=true then some (([]:qo),(11:Int)) else (JB K a).bind λf=>some (f,(0:Int))
def EZ.l0 (K:Nat) (a:List (Int×Int×Int×Int×qg×pu×qo×ByteArray×Int×Int×Int)):Nat->Int->Option Bool
 |0,_=>none
 |c+1,b=>if decide (b<(a.length:Int))=true then if 0<=b/\b<(a.length:Int) then ((F0 K (bb a b.toNat zAb).2.2.2.2.1).bind λd=>if (!d)=true then some true else if (decide ((((bg (bb a b.toNat zAb).2.2.2.2.2.1):Nat):Int)>20))=true then some true else if (decide ((((bg (bb a b.toNat zAb).2.2.2.2.2.2.1):Nat):Int)>12))=true then some true else some (decide ((((cr (bb a b.toNat zAb).2.2.2.2.2.2.2.1):Nat):Int)>60))).bind (λe=>if e=true then some false else EZ.l0 K a c (ba .i64 (b+1))) else none else some (decide ((a.length:Int)<=30))
def EZ (K:Nat) (a:List (Int×Int×Int×Int×qg×pu×qo×ByteArray×Int×Int×Int)):=EZ.l0 K a K (0:Int)
def M7 (K:Nat) (a:rb) (b:qb) (e:Int) (c d:pu) (l:rz) (f:qo) (m:qe) (n:pu) (o q:Int) (k r:Int) (s:qg) (y:pu) (z:qo) (t:np) (aa ab ac:Int):=if (o==1)=true then (CD K a b e c d q k r s).bind λg=>some (g.2.1,g.2.2.1,g.2.2.2.1,g.2.2.2.2.1,g.2.2.2.2.2) else if (o==2)=true then (HW K a b e c d k).bind λh=>some (h.2.1,h.2.2.1,h.2.2.2.1,h.2.2.2.2.1,h.2.2.2.2.2) else if (o==5)=true then (CN K a b e c d l f m n).bind λu=>(DM K f t).bind λv=>(CD K a b e c d u k (0:Int) v).bind λi=>some (i.2.1,i.2.2.1,i.2.2.2.1,i.2.2.2.2.1,i.2.2.2.2.2) else (FB K a b e c d l f m n).bind λw=>(CS K f w).bind λp=>if decide ((p.length:Int)>0)=true then (CN K a b e c d l f m n).bind λx=>(CD K a b e c d x k (0:Int) p).bind λj=>some (j.2.1,j.2.2.1,j.2.2.2.1,j.2.2.2.2.1,j.2.2.2.2.2) else some ((0:Int),a,b,c,d)
def M8 (K:Nat) (a:rb) (b:qb) (c:Int) (d e:pu) (r:rz) (h:qo) (f:qe) (g:pu) (n k:Int) (ab ac:Int) (ad:qg) (s:pu) (t:qo) (ae:np) (l m u:Int):=(FB K a b c d e r h f g).bind λi=>if (n==3)=true then (KP K a b c d e s).bind λj=>some (j.1,j.2.1,j.2.2.1,j.2.2.2.1,j.2.2.2.2.1,j.2.2.2.2.2,h,f,g) else if (n==4)=true then (LJ K t i).bind λo=>some (o.2,a,b,c,d,e,o.1,f,g) else if (n==7)=true then (if decide (l<0)=true then some true else if decide (l>m)=true then some true else some (decide (m>(i.size:Int)))).bind (λv=>if v=true then some ((10:Int),a,b,c,d,e,h,f,g) else ((CL K i l).bind λw=>if (!w)=true then some true else (CL K i m).bind λx=>some (!x)).bind (λy=>if y=true then some ((11:Int),a,b,c,d,e,h,f,g) else (C2 K f l m u).bind λp=>some (p.2,a,b,c,d,e,h,p.1,g))) else (if decide (k<=0)=true then some true else some (decide (k>=(i.size:Int)))).bind (λz=>if z=true then some ((10:Int),a,b,c,d,e,h,f,g) else (CL K i k).bind λaa=>if (!aa)=true then some ((11:Int),a,b,c,d,e,h,f,g) else (FN K g k).bind λq=>some (q.2,a,b,c,d,e,h,f,q.1))
def K0 (K:Nat) (i:rb) (j:qb) (d:Int) (k l:pu) (g:rz) (m:qo) (n:qe) (o:pu) (h q:Int) (r s:Int) (t:qg) (u:pu) (v:qo) (w:np) (x y z:Int):=(if decide (h<1)=true then some true else some (decide (h>8))).bind (λab=>if ab=true then some ((0:Int),(260:Int),i,j,d,k,l,g,m,n,o) else (IB K i j d k l g m n o).bind λb=>(K3 K).bind λe=>if 0<=h/\h<((9:Nat):Int) then (if (bb [e.1,e.2.1,e.2.2.1,e.2.2.2.1,e.2.2.2.2.1,e.2.2.2.2.2.1,e.2.2.2.2.2.2.1,e.2.2.2.2.2.2.2.1,e.2.2.2.2.2.2.2.2] h.toNat false)=true then (M7 K b.1 b.2.1 d b.2.2.1 b.2.2.2.1 g b.2.2.2.2.1 b.2.2.2.2.2.1 b.2.2.2.2.2.2 h q r s t u v w x y z).bind λc=>if (c.1==0)=true then (IC K c.2.1 c.2.2.1 d c.2.2.2.1 c.2.2.2.2 g b.2.2.2.2.1 b.2.2.2.2.2.1 b.2.2.2.2.2.2 i j d k l g m n o).bind λp=>some (c.2.1,c.2.2.1,d,c.2.2.2.1,c.2.2.2.2,p.2.1,p.2.2.1,p.2.2.2,p.1) else some (c.2.1,c.2.2.1,d,c.2.2.2.1,c.2.2.2.2,b.2.2.2.2.1,b.2.2.2.2.2.1,b.2.2.2.2.2.2,c.1) else (M8 K b.1 b.2.1 d b.2.2.1 b.2.2.2.1 g b.2.2.2.2.1 b.2.2.2.2.2.1 b.2.2.2.2.2.2 h q r s t u v w x y z).bind λf=>some (f.2.1,f.2.2.1,f.2.2.2.1,f.2.2.2.2.1,f.2.2.2.2.2.1,f.2.2.2.2.2.2.1,f.2.2.2.2.2.2.2.1,f.2.2.2.2.2.2.2.2,f.1)).bind (λa=>if (a.2.2.2.2.2.2.2.2 !=0)=true then some ((0:Int),a.2.2.2.2.2.2.2.2,i,j,d,k,l,g,m,n,o) else (HM K a.1 a.2.1 a.2.2.1 a.2.2.2.1 a.2.2.2.2.1 g a.2.2.2.2.2.1 a.2.2.2.2.2.2.1 a.2.2.2.2.2.2.2.1).bind λaa=>(CN K a.1 a.2.1 a.2.2.1 a.2.2.2.1 a.2.2.2.2.1 aa a.2.2.2.2.2.1 a.2.2.2.2.2.2.1 a.2.2.2.2.2.2.2.1).bind λac=>some (ac,(0:Int),a.1,a.2.1,a.2.2.1,a.2.2.2.1,a.2.2.2.2.1,aa,a.2.2.2.2.2.1,a.2.2.2.2.2.2.1,a.2.2.2.2.2.2.2.1)) else none)
def DS (K:Nat) (b:np) (a:Int):=(if decide (a<0)=true then some true else if decide (a>(b.size:Int))=true then some true else (BW K b).bind λc=>some (!c)).bind (λd=>if d=true then some false else if (a==(b.size:Int))=true then some true else if 0<=a/\a<(b.size:Int) then some ((bw (ba .i64 (bt b a)) (64:Int)) !=2) else none)
def OU (K:Nat) (a:rb) (b:qb) (c:Int) (d e:pu) (f:rz) (g:qo) (h:qe) (i:pu):=some ()
def BZ.l0 (K:Nat) (b:pu) (c:Int):Nat->Int->Option Bool
 |0,_=>none
 |d+1,a=>if decide (a<(b.length:Int))=true then if 0<=a/\a<(b.length:Int) then if ((bb b a.toNat (0:Int))==c)=true then some true else BZ.l0 K b c d (ba .i64 (a+1)) else none else some false
def BZ (K:Nat) (a:pu) (b:Int):=BZ.l0 K a b K (0:Int)
def J3 (K:Nat) (b:pu) (a:Int):=if (a !=(-1:Int))=true then (BZ K b a).bind λc=>some c else some false
def C0.l0 (K:Nat) (b:qo) (c:Int) (d:pu):Nat->Int->Option Bool
 |0,_=>none
 |e+1,a=>if decide (a<(b.length:Int))=true then (if decide ((bb b a.toNat zP).1<=c)=true then (J3 K d (bb b a.toNat zP).2).bind λf=>if 0<=a/\a<(b.length:Int) then some (!f) else none else if 0<=a/\a<(b.length:Int) then some false else none).bind (λg=>if g=true then some false else C0.l0 K b c d e (ba .i64 (a+1))) else some true
def C0 (K:Nat) (h:np) (c d i:Int) (e:qo) (a:Int) (b:pu):=(if decide (c>a)=true then some true else (J3 K b d).bind λf=>some f).bind (λg=>if g=true then some false else C0.l0 K e a b K (0:Int))
def CX.l0 (K:Nat) (b:rb) (e:Int) (f:pu):Nat->Int->pu->Int->Option pu
 |0,_,_,_=>none
 |g+1,c,d,a=>if decide (a<(b.length:Int))=true then (C0 K (bb b a.toNat zAt).1 (bb b a.toNat zAt).2.1 (bb b a.toNat zAt).2.2.1 (bb b a.toNat zAt).2.2.2.1 (bb b a.toNat zAt).2.2.2.2 e f).bind λh=>if 0<=a/\a<(b.length:Int) then if h=true then if (bg d+bg ([ba .i64 (c+(((cr (bb b a.toNat zAt).1):Nat):Int))]:pu))*8<=140737488355328 then CX.l0 K b e f g (ba .i64 (c+(((cr (bb b a.toNat zAt).1):Nat):Int))) (d++([ba .i64 (c+(((cr (bb b a.toNat zAt).1):Nat):Int))]:pu)) (ba .i64 (a+1)) else none else if (bg d+bg ([c]:pu))*8<=140737488355328 then CX.l0 K b e f g c (d++([c]:pu)) (ba .i64 (a+1)) else none else none else some d
def CX (K:Nat) (a:rb) (b:Int) (c:pu):=CX.l0 K a b c K (0:Int) ([(0:Int)]:pu) (0:Int)
def RE (K:Nat):=some (bn 120 false,[([]:pu)])
def RD (K:Nat):=(RE K).bind λa=>some (a.1,a.2)
def NV (K:Nat):=(RD K).bind λa=>some (a.1,a.2)
def DP.l0 (K:Nat) (b:rb):Nat->rb->Int->Option rb
 |0,_,_=>none
 |d+1,c,a=>if decide (a<(b.length:Int))=true then if 0<=a/\a<(b.length:Int)/\bg (bb b a.toNat zAt).2.2.2.2*16<=140737488355328 then if (bg c+1)*64<=140737488355328 then DP.l0 K b d (c++[bb b a.toNat zAt]) (ba .i64 (a+1)) else none else none else some c
def DP (K:Nat) (a:rb):=DP.l0 K a K ([]:rb) (0:Int)
def FY (K:Nat) (b c:Int) (d:List Bool) (e:qb) (a:Int):=if decide (a>=c)=true then some (decide (a<=b)) else some false
def EB (K:Nat) (c d:Int) (e:List Bool) (b:qb) (a:Int):=(FY K c d e b a).bind λf=>if (!f)=true then some ([]:pu) else if 0<=a/\a<(b.length:Int) then some (bb b a.toNat ([]:pu)) else none
def BQ.l0 (K:Nat) (b:rb) (d:Int) (e:pu):Nat->pu->Int->Option np
 |0,_,_=>none
 |f+1,c,a=>if decide (a<(b.length:Int))=true then (C0 K (bb b a.toNat zAt).1 (bb b a.toNat zAt).2.1 (bb b a.toNat zAt).2.2.1 (bb b a.toNat zAt).2.2.2.1 (bb b a.toNat zAt).2.2.2.2 d e).bind λg=>if 0<=a/\a<(b.length:Int) then if g=true then if (bg c+bg (tR (bb b a.toNat zAt).1))*1<=140737488355328 then BQ.l0 K b d e f (c++(tR (bb b a.toNat zAt).1)) (ba .i64 (a+1)) else none else BQ.l0 K b d e f c (ba .i64 (a+1)) else none else some (tP c)
def BQ (K:Nat) (a:rb) (b:Int) (c:pu):=BQ.l0 K a b c K ([]:pu) (0:Int)
def J4 (K:Nat) (b c:Int) (d:List Bool) (e:qb) (f:rb) (a:Int):=(FY K b c d e a).bind λg=>if (!g)=true then some (iu #[],false) else (EB K b c d e a).bind λh=>(BQ K f a h).bind λi=>some (i,true)
def NU (K:Nat) (a b:Int) (c:List Bool) (d:qb) (e:rb):=(J4 K a b c d e a).bind λf=>some f.1
def JA (K:Nat) (a b:Int) (c:List Bool) (d:qb) (e:rb) (g:qo) (h:qe) (i:pu):=(NU K a b c d e).bind λf=>some f
def C8.l0 (K:Nat) (b:qg):Nat->Int->Option Bool
 |0,_=>none
 |c+1,a=>if decide (a<(b.length:Int))=true then if 0<=(ba .i64 (a-1))/\(ba .i64 (a-1))<(b.length:Int)/\0<=a/\a<(b.length:Int) then (if (decide ((bb b a.toNat zE).1<(bb b (bc (ba .i64 (a-1))) zE).2.1))=true then some true else if ((bb b a.toNat zE).1==(bb b (bc (ba .i64 (a-1))) zE).1)=true then some ((bb b (bc (ba .i64 (a-1))) zE).1==(bb b (bc (ba .i64 (a-1))) zE).2.1) else some false).bind (λd=>if d=true then some false else C8.l0 K b c (ba .i64 (a+1))) else none else some true
def C8 (K:Nat) (a:qg):=C8.l0 K a K (1:Int)
def A9.l0 (K:Nat) (b:qg) (c:np):Nat->Int->Option (Int ⊕ Unit)
 |0,_=>none
 |d+1,a=>if decide (a<(b.length:Int))=true then (if decide ((bb b a.toNat zE).1<0)=true then if 0<=a/\a<(b.length:Int) then some true else none else if decide ((bb b a.toNat zE).2.1<(bb b a.toNat zE).1)=true then if 0<=a/\a<(b.length:Int) then some true else none else if 0<=a/\a<(b.length:Int) then some (decide ((bb b a.toNat zE).2.1>(c.size:Int))) else none).bind (λe=>if e=true then some (mj (10:Int)) else A9.l0 K b c d (ba .i64 (a+1))) else some (ln ())
def A9.l1 (K:Nat) (b:qg) (c:np):Nat->Int->Option (Int ⊕ Unit)
 |0,_=>none
 |d+1,a=>if decide (a<(b.length:Int))=true then ((DS K c (bb b a.toNat zE).1).bind λe=>if (!e)=true then if 0<=a/\a<(b.length:Int) then some true else none else (DS K c (bb b a.toNat zE).2.1).bind λf=>if 0<=a/\a<(b.length:Int) then some (!f) else none).bind (λg=>if g=true then some (mj (11:Int)) else A9.l1 K b c d (ba .i64 (a+1))) else some (ln ())
def A9.l2 (K:Nat) (b:qg):Nat->Int->Option (Int ⊕ Unit)
 |0,_=>none
 |c+1,a=>if decide (a<(b.length:Int))=true then (BW K (bb b a.toNat zE).2.2).bind λd=>if 0<=a/\a<(b.length:Int) then if (!d)=true then some (mj (12:Int)) else A9.l2 K b c (ba .i64 (a+1)) else none else some (ln ())
def A9.l3 (K:Nat) (b:qg):Nat->Int->Int->Option Int
 |0,_,_=>none
 |d+1,c,a=>if decide (a<(b.length:Int))=true then if 0<=a/\a<(b.length:Int) then A9.l3 K b d (ba .i64 (c-(ba .i64 ((bb b a.toNat zE).2.1-(bb b a.toNat zE).1)))) (ba .i64 (a+1)) else none else some c
def A9.l4 (K:Nat) (b:qg):Nat->Int->Int->Option Int
 |0,_,_=>none
 |d+1,c,a=>if decide (a<(b.length:Int))=true then if 0<=a/\a<(b.length:Int) then if (decide ((((cr (bb b a.toNat zE).2.2):Nat):Int)>(ba .i64 ((20000:Int)-c))))=true then some (13:Int) else A9.l4 K b d (ba .i64 (c+(((cr (bb b a.toNat zE).2.2):Nat):Int))) (ba .i64 (a+1)) else none else some (0:Int)
def A9 (K:Nat) (b:np) (a:qg):=(BW K b).bind λd=>if (!d)=true then some (12:Int) else if decide ((a.length:Int)>8)=true then some (70:Int) else (A9.l0 K a b K (0:Int)).bind (la (λe=>some e) (λi=>(A9.l1 K a b K (0:Int)).bind (la (λf=>some f) (λj=>(C8 K a).bind λg=>if (!g)=true then some (180:Int) else (A9.l2 K a K (0:Int)).bind (la (λh=>some h) (λk=>(A9.l3 K a K (b.size:Int) (0:Int)).bind (λc=>if decide (c>20000)=true then some (13:Int) else A9.l4 K a K c (0:Int))))))))
def J8 (K:Nat) (a:Int):=if decide (a>=0)=true then some (decide (a<60)) else some false
def HB (K:Nat) (c d:Int) (e:List Bool) (a:qb) (b:pu):=if (bg a+bg ([b]:qb))*24<=140737488355328 then some (ba .i64 (c+1),a++([b]:qb)) else none
def L9 (K:Nat) (b f:Int) (c:List Bool) (d:qb) (a:Int):=((J8 K a).bind λg=>if (!g)=true then some true else if 0<=a/\a<((60:Nat):Int)/\2<=(62+(a.toNat*1))/\(62+(a.toNat*1))<122 then some (bb c ((62+(a.toNat*1))-2) false) else none).bind (λh=>if h=true then some ((0:Int),(210:Int),b,c,d) else if (b==200)=true then some ((0:Int),(70:Int),b,c,d) else if 0<=a/\a<((60:Nat):Int)/\2<=(2+(a.toNat*1))/\(2+(a.toNat*1))<122 then (HB K b f (dp c ((2+(a.toNat*1))-2) true) d (bb d b.toNat ([]:pu))).bind λe=>if 0<=b/\b<(d.length:Int) then some (e.1,(0:Int),ba .i64 (b+1),dp c ((2+(a.toNat*1))-2) true,e.2) else none else none)
def AV.l1 (K:Nat) (c:qg) (d:pu) (b:Int):Nat->pu->Int->Option pu
 |0,_,_=>none
 |f+1,e,a=>if decide (a<(c.length:Int))=true then (if decide ((bb d b.toNat (0:Int))>=(bb c a.toNat zE).1)=true then if b<(d.length:Int)/\0<=a/\a<(c.length:Int) then some (decide ((bb d b.toNat (0:Int))<(bb c a.toNat zE).2.1)) else none else if b<(d.length:Int)/\0<=a/\a<(c.length:Int) then some false else none).bind (λg=>if g=true then if (bg e+bg ([b]:pu))*8<=140737488355328 then AV.l1 K c d b f (e++([b]:pu)) (ba .i64 (a+1)) else none else AV.l1 K c d b f e (ba .i64 (a+1))) else some e
def AV.l0 (K:Nat) (b:rb) (d:Int) (e:pu) (f:qg) (g:pu):Nat->pu->Int->Option pu
 |0,_,_=>none
 |h+1,c,a=>if decide (a<(b.length:Int))=true then ((C0 K (bb b a.toNat zAt).1 (bb b a.toNat zAt).2.1 (bb b a.toNat zAt).2.2.1 (bb b a.toNat zAt).2.2.2.1 (bb b a.toNat zAt).2.2.2.2 d e).bind λi=>if 0<=a/\a<(b.length:Int) then if (!i)=true then some c else AV.l1 K f g a K c (0:Int) else none).bind (λj=>AV.l0 K b d e f g h j (ba .i64 (a+1))) else some c
def AV (K:Nat) (a:rb) (b:Int) (c:pu) (d:qg):=(BQ K a b c).bind λe=>(A9 K e d).bind λf=>if (f !=0)=true then some ([]:pu) else (CX K a b c).bind λg=>AV.l0 K a b c d g K ([]:pu) (0:Int)
def AH.l1 (K:Nat) (b:rb) (f:Int) (g d:pu) (c:Int) (e:qg):Nat->Int->Int->Option Int
 |0,_,_=>none
 |h+1,i,a=>if decide (a<(b.length:Int))=true then ((C0 K (bb b a.toNat zAt).1 (bb b a.toNat zAt).2.1 (bb b a.toNat zAt).2.2.1 (bb b a.toNat zAt).2.2.2.1 (bb b a.toNat zAt).2.2.2.2 f g).bind λj=>if j=true then if 0<=a/\a<(b.length:Int)/\a<(d.length:Int)/\0<=c/\c<(e.length:Int) then some (decide ((bb d a.toNat (0:Int))<(bb e c.toNat zE).1)) else none else if 0<=a/\a<(b.length:Int) then some false else none).bind (λk=>if k=true then AH.l1 K b f g d c e h (ba .i64 (a+1)) (ba .i64 (a+1)) else AH.l1 K b f g d c e h i (ba .i64 (a+1))) else some i
def AH.l2 (K:Nat) (b:rb) (d e:Int) (c:pu):Nat->Int->Option pu
 |0,_=>none
 |f+1,a=>(if decide (a<(b.length:Int))=true then if decide ((bb b a.toNat zAt).2.1>d)=true then if 0<=a/\a<(b.length:Int) then some (decide ((bb b a.toNat zAt).2.2.2.1<=e)) else none else if 0<=a/\a<(b.length:Int) then some false else none else some false).bind (λg=>if g=true then AH.l2 K b d e c f (ba .i64 (a+1)) else if (bg c+bg ([a]:pu))*8<=140737488355328 then some (c++([a]:pu)) else none)
def AH.l0 (K:Nat) (a:qg) (b:rb) (c:Int) (e f:pu) (g:Int):Nat->pu->Int->Option pu
 |0,_,_=>none
 |i+1,h,d=>if decide (d<(a.length:Int))=true then ((AH.l1 K b c e f d a K (0:Int) (0:Int)).bind (λj=>AH.l2 K b c g h K j)).bind (λk=>AH.l0 K a b c e f g i k (ba .i64 (d+1))) else some h
def AH (K:Nat) (a:rb) (b:Int) (c:pu) (d:qg) (e:Int):=(BQ K a b c).bind λf=>(A9 K f d).bind λg=>if (g !=0)=true then some ([]:pu) else (CX K a b c).bind λh=>AH.l0 K d a b c h e K ([]:pu) (0:Int)
def FW.l0 (K:Nat) (b:np):Nat->np->Int->Option np
 |0,_,_=>none
 |e+1,d,a=>if decide (a<(b.size:Int))=true then (B9 K b a).bind λc=>if (c==0)=true then if cr d+cr (iu #[239,191,189])<=9223372036854775807 then FW.l0 K b e (d++(iu #[239,191,189])) (ba .i64 (a+1)) else none else if 0<=a/\a<=(ba .i64 (a+c))/\(ba .i64 (a+c))<=(b.size:Int)/\cr d+cr (io b a.toNat (bc (ba .i64 (a+c))))<=9223372036854775807 then FW.l0 K b e (d++(io b a.toNat (bc (ba .i64 (a+c))))) (ba .i64 (a+c)) else none else some d
def FW (K:Nat) (a:np):=(BW K a).bind λb=>if b=true then some a else FW.l0 K a K (iu #[]) (0:Int)
def EA.l0 (K:Nat) (b:np):Nat->(List np)->Int->Option (List np)
 |0,_,_=>none
 |e+1,d,a=>if decide (a<(b.size:Int))=true then (B9 K b a).bind λc=>if 0<=a/\a<=(ba .i64 (a+c))/\(ba .i64 (a+c))<=(b.size:Int)/\(bg d+bg ([io b a.toNat (bc (ba .i64 (a+c)))]:List np))*16<=140737488355328 then EA.l0 K b e (d++([io b a.toNat (bc (ba .i64 (a+c)))]:List np)) (ba .i64 (a+c)) else none else some d
def EA (K:Nat) (a:np):=(FW K a).bind λb=>EA.l0 K b K ([]:List np) (0:Int)
def DQ.l0 (K:Nat) (c:List np) (f g h:Int) (a:rb) (d:Int):Nat->rb->Int->Option rb
 |0,_,_=>none
 |i+1,e,b=>if decide (b<(c.length:Int))=true then if 0<=b/\b<(c.length:Int)/\(bg e+bg ([(bb c b.toNat cc,f,g,h,([]:List (Int × Int)))]:rb))*64<=140737488355328 then DQ.l0 K c f g h a d i (e++([(bb c b.toNat cc,f,g,h,([]:List (Int × Int)))]:rb)) (ba .i64 (b+1)) else none else if (bg e+bg (cu (a.length-(bc (mx2 (0:Int) (mn2 d (a.length:Int))))) (gf (bc (mx2 (0:Int) (mn2 d (a.length:Int)))) a)))*64<=140737488355328 then some (e++(cu (a.length-(bc (mx2 (0:Int) (mn2 d (a.length:Int))))) (gf (bc (mx2 (0:Int) (mn2 d (a.length:Int)))) a))) else none
def DQ (K:Nat) (c:rb) (b:Int) (d:np) (e f g:Int):=(DP K c).bind λa=>(EA K d).bind λh=>if 0<=(mx2 (0:Int) (mn2 b (a.length:Int)))/\(mx2 (0:Int) (mn2 b (a.length:Int)))<=(a.length:Int)/\bg (cu ((bc (mx2 (0:Int) (mn2 b (a.length:Int))))-0) (gf 0 a))*64<=140737488355328 then DQ.l0 K h e f g a b K (cu ((bc (mx2 (0:Int) (mn2 b (a.length:Int))))-0) (gf 0 a)) (0:Int) else none
def AW.l0 (K:Nat) (b:pu) (d e:Int):Nat->rb->Int->Option rb
 |0,_,_=>none
 |f+1,c,a=>if decide (a<(b.length:Int))=true then if 0<=a/\a<(b.length:Int)/\0<=(bb b a.toNat (0:Int))/\(bb b a.toNat (0:Int))<(c.length:Int)/\(bc (bb b a.toNat (0:Int)))<c.length/\(bg (bb c (bc (bb b a.toNat (0:Int))) zAt).2.2.2.2+bg ([(d,e)]:List (Int × Int)))*16<=140737488355328/\(bc (bb b a.toNat (0:Int)))=(bc (bb b a.toNat (0:Int))) then AW.l0 K b d e f (uZ c (bc (bb b a.toNat (0:Int))) ((bb c (bc (bb b a.toNat (0:Int))) zAt).2.2.2.2++([(d,e)]:List (Int × Int)))) (ba .i64 (a+1)) else none else some c
def AW.l1 (K:Nat) (b:pu) (c:qg) (d e f:Int):Nat->rb->Int->Option rb
 |0,_,_=>none
 |h+1,g,a=>if decide (a>=0)=true then (DQ K g (bb b a.toNat (0:Int)) (bb c a.toNat zE).2.2 d e f).bind λi=>if 0<=a/\a<(b.length:Int)/\a<(c.length:Int) then AW.l1 K b c d e f h i (ba .i64 (a-1)) else none else some g
def AW (K:Nat) (a:rb) (c:Int) (d:pu) (b:qg) (e f g:Int):=(AV K a c d b).bind λi=>(AH K a c d b g).bind λh=>(DP K a).bind λj=>(AW.l0 K i e f K j (0:Int)).bind (λk=>AW.l1 K h b e f g K k (ba .i64 ((h.length:Int)-1)))
def HA (K:Nat) (b c:Int) (d:List Bool) (a:qb):=if bg a*24<=140737488355328 then some () else none
def FX (K:Nat) (b f:Int) (c:List Bool) (d:qb) (e:rb) (g j h:Int) (k:qg):=(J4 K b f c d e g).bind λl=>if (!l.2)=true then some ((0:Int),(190:Int),b,c,d,e) else (A9 K l.1 k).bind λm=>if (m !=0)=true then some ((0:Int),m,b,c,d,e) else (HA K b f c d).bind λr=>(L9 K b f c d j).bind λa=>if (a.2.1 !=0)=true then some ((0:Int),a.2.1,b,c,d,e) else (if decide (h<0)=true then some true else some (decide (h>1000000))).bind (λn=>if n=true then some ((0:Int),(10:Int),b,c,d,e) else (EB K b f c d g).bind λo=>(AW K e g o k a.1 j h).bind λi=>if decide ((i.length:Int)>4000)=true then some ((0:Int),(70:Int),b,c,d,e) else (EB K a.2.2.1 f a.2.2.2.1 a.2.2.2.2 a.1).bind λp=>(BQ K i a.1 p).bind λq=>if decide ((q.size:Int)>20000)=true then some ((0:Int),(13:Int),b,c,d,e) else some (a.1,(0:Int),a.2.2.1,a.2.2.2.1,a.2.2.2.2,i))
def J6 (K:Nat) (d e:Int) (b:List Bool) (f:qb) (a:Int):=(J8 K a).bind λc=>if c=true then if (bb b ((2+(a.toNat*1))-2) false)=true then if 0<=a/\a<((60:Nat):Int)/\2<=(2+(a.toNat*1))/\(2+(a.toNat*1))<122/\2<=(62+(a.toNat*1))/\(62+(a.toNat*1))<122 then some (!(bb b ((62+(a.toNat*1))-2) false)) else none else if 0<=a/\a<((60:Nat):Int)/\2<=(2+(a.toNat*1))/\(2+(a.toNat*1))<122 then some false else none else some false
def BI.l0 (K:Nat) (b:pu) (c:Int):Nat->pu->Bool->Int->Option (pu×Bool)
 |0,_,_,_=>none
 |g+1,e,f,a=>if decide (a<(b.length:Int))=true then (if f=true then if 0<=a/\a<(b.length:Int) then some (decide ((bb b a.toNat (0:Int))>c)) else none else some false).bind (λh=>(if h=true then if (bg e+bg ([c]:pu))*8<=140737488355328 then some (e++([c]:pu),false) else none else some (e,f)).bind (λd=>if 0<=a/\a<(b.length:Int) then if ((bb b a.toNat (0:Int)) !=c)=true then if (bg d.1+bg ([bb b a.toNat (0:Int)]:pu))*8<=140737488355328 then BI.l0 K b c g (d.1++([bb b a.toNat (0:Int)]:pu)) d.2 (ba .i64 (a+1)) else none else BI.l0 K b c g d.1 d.2 (ba .i64 (a+1)) else none)) else some (e,f)
def BI (K:Nat) (c:pu) (a:Int):=(BZ K c a).bind λd=>(BI.l0 K c a K ([]:pu) (!d) (0:Int)).bind (λb=>if b.2=true then if (bg b.1+bg ([a]:pu))*8<=140737488355328 then some (b.1++([a]:pu)) else none else some b.1)
def LC (K:Nat) (a c:Int) (d:List Bool) (b:qb) (e:Int):=(J6 K a c d b e).bind λg=>if (!g)=true then some ((0:Int),(210:Int),a,b) else if (a==200)=true then some ((0:Int),(70:Int),a,b) else (BI K (bb b a.toNat ([]:pu)) e).bind λh=>(HB K a c d b h).bind λf=>if 0<=a/\a<(b.length:Int) then some (f.1,(0:Int),ba .i64 (a+1),f.2) else none
def J5 (K:Nat) (b d:Int) (e:List Bool) (c:qb) (f:rb) (g:Int):=(HA K b d e c).bind λj=>(LC K b d e c g).bind λa=>if (a.2.1 !=0)=true then some ((0:Int),a.2.1,b,c) else (EB K a.2.2.1 d e a.2.2.2 a.1).bind λh=>(BQ K f a.1 h).bind λi=>if decide ((i.size:Int)>20000)=true then some ((0:Int),(13:Int),b,c) else some (a.1,(0:Int),a.2.2.1,a.2.2.2)
def AQ.l0 (K:Nat) (b:pu) (f c:Int) (d:List Bool) (e:qb):Nat->Int->Option ((Int×Int×(List Bool)×qb) ⊕ Unit)
 |0,_=>none
 |g+1,a=>if decide (a<(b.length:Int))=true then ((J6 K f c d e (bb b a.toNat (0:Int))).bind λh=>if (!h)=true then if 0<=a/\a<(b.length:Int) then some true else none else (BZ K (cu a.toNat b) (bb b a.toNat (0:Int))).bind λi=>if 0<=a/\a<(b.length:Int)/\0<=a/\a<=(b.length:Int) then some i else none).bind (λj=>if j=true then some (mj ((210:Int),c,d,e)) else AQ.l0 K b f c d e g (ba .i64 (a+1))) else some (ln ())
def AQ.l1 (K:Nat) (b:qb) (c:Int) (e:pu):Nat->pu->Int->Option pu
 |0,_,_=>none
 |f+1,d,a=>if (decide (a<(((bg (bb b c.toNat ([]:pu))):Nat):Int)))=true then (BZ K e (bb (bb b c.toNat ([]:pu)) a.toNat (0:Int))).bind λg=>if 0<=a/\a<(((bg (bb b c.toNat ([]:pu))):Nat):Int) then if (!g)=true then if (bg d+bg ([bb (bb b c.toNat ([]:pu)) a.toNat (0:Int)]:pu))*8<=140737488355328 then AQ.l1 K b c e f (d++([bb (bb b c.toNat ([]:pu)) a.toNat (0:Int)]:pu)) (ba .i64 (a+1)) else none else AQ.l1 K b c e f d (ba .i64 (a+1)) else none else some d
def AQ.l2 (K:Nat) (b:pu):Nat->(List Bool)->Int->Option (List Bool)
 |0,_,_=>none
 |d+1,c,a=>if decide (a<(b.length:Int))=true then if 0<=a/\a<(b.length:Int)/\0<=(bb b a.toNat (0:Int))/\(bb b a.toNat (0:Int))<((60:Nat):Int)/\2<=(62+((bc (bb b a.toNat (0:Int)))*1))/\(62+((bc (bb b a.toNat (0:Int)))*1))<122 then AQ.l2 K b d (dp c ((62+((bc (bb b a.toNat (0:Int)))*1))-2) true) (ba .i64 (a+1)) else none else some c
def AQ (K:Nat) (a e:Int) (d:List Bool) (b:qb) (c:pu):=(AQ.l0 K c a e d b K (0:Int)).bind (la (λf=>some f) (λi=>if 0<=a/\a<(b.length:Int) then (AQ.l1 K b a c K ([]:pu) (0:Int)).bind (λg=>(AQ.l2 K c K d (0:Int)).bind (λh=>some ((0:Int),a,h,dp b a.toNat g))) else none))
def DD.l0 (K:Nat) (a:qo) (d e:pu) (f:np) (g h i:Int):Nat->qo->Int->Option ((ByteArray×Int×Int×Int×qo×Bool) ⊕ qo)
 |0,_,_=>none
 |j+1,c,b=>if decide (b<(a.length:Int))=true then if 0<=b/\b<(a.length:Int) then (BZ K d (bb a b.toNat zP).2).bind λk=>if (!k)=true then if (bg c+bg ([((bb a b.toNat zP).1,(bb a b.toNat zP).2)]:List (Int × Int)))*16<=140737488355328 then DD.l0 K a d e f g h i j (c++([((bb a b.toNat zP).1,(bb a b.toNat zP).2)]:List (Int × Int))) (ba .i64 (b+1)) else none else (BZ K e (bb a b.toNat zP).2).bind λl=>if (!l)=true then some (mj (f,g,h,i,a,false)) else DD.l0 K a d e f g h i j c (ba .i64 (b+1)) else none else some (ln c)
def DD (K:Nat) (b:np) (c a d:Int) (e:qo) (f g:pu):=(BZ K f a).bind λi=>(if i=true then (BZ K g a).bind λj=>if j=true then some (mj (b,c,a,d,e,false)) else some (ln (-1:Int)) else some (ln a)).bind (la (λk=>some k) (λh=>(DD.l0 K e f g b c h d K ([]:qo) (0:Int)).bind (la (λl=>some l) (λm=>some (b,c,h,d,m,true)))))
def DC.l0 (K:Nat) (c:rb) (e f:pu):Nat->rb->Int->Option rb
 |0,_,_=>none
 |g+1,d,b=>if decide (b<(c.length:Int))=true then (DD K (bb c b.toNat zAt).1 (bb c b.toNat zAt).2.1 (bb c b.toNat zAt).2.2.1 (bb c b.toNat zAt).2.2.2.1 (bb c b.toNat zAt).2.2.2.2 e f).bind λa=>if 0<=b/\b<(c.length:Int) then if a.2.2.2.2.2=true then if (bg d+bg ([(a.1,a.2.1,a.2.2.1,a.2.2.2.1,a.2.2.2.2.1)]:rb))*64<=140737488355328 then DC.l0 K c e f g (d++([(a.1,a.2.1,a.2.2.1,a.2.2.2.1,a.2.2.2.2.1)]:rb)) (ba .i64 (b+1)) else none else DC.l0 K c e f g d (ba .i64 (b+1)) else none else some d
def DC (K:Nat) (b c:Int) (d:List Bool) (e:qb) (f:rb) (g:pu):=(EB K b c d e b).bind λh=>(HA K b c d e).bind λj=>(AQ K b c d e g).bind λa=>if (a.1 !=0)=true then some (a.1,c,d,e,f) else (DC.l0 K f g h K ([]:rb) (0:Int)).bind (λi=>some ((0:Int),a.2.1,a.2.2.1,a.2.2.2,i))
def CG (K:Nat) (a b:Int):=some (mn2 a b,mx2 a b)
def AF.l1 (K:Nat) (b:qo) (c:Int×Int):Nat->Int->Option Int
 |0,_=>none
 |d+1,a=>(if decide (a>0)=true then (CG K (bb b (bc (ba .i64 (a-1))) zP).1 (bb b (bc (ba .i64 (a-1))) zP).2).bind λe=>if decide (e.1>c.1)=true then if 0<=(ba .i64 (a-1))/\(ba .i64 (a-1))<(b.length:Int) then some true else none else (CG K (bb b (bc (ba .i64 (a-1))) zP).1 (bb b (bc (ba .i64 (a-1))) zP).2).bind λf=>if (f.1==c.1)=true then (CG K (bb b (bc (ba .i64 (a-1))) zP).1 (bb b (bc (ba .i64 (a-1))) zP).2).bind λg=>if 0<=(ba .i64 (a-1))/\(ba .i64 (a-1))<(b.length:Int) then some (decide (g.2>c.2)) else none else if 0<=(ba .i64 (a-1))/\(ba .i64 (a-1))<(b.length:Int) then some false else none else some false).bind (λh=>if h=true then AF.l1 K b c d (ba .i64 (a-1)) else some a)
def AF.l0 (K:Nat) (c:qo):Nat->qo->Int->Option qo
 |0,_,_=>none
 |e+1,a,b=>if decide (b<(c.length:Int))=true then ((CG K (bb c b.toNat zP).1 (bb c b.toNat zP).2).bind λf=>if 0<=b/\b<(c.length:Int) then (AF.l1 K a f K (a.length:Int)).bind (λd=>if 0<=d/\d<=(a.length:Int)/\bg (cu (d.toNat-0) (gf 0 a))*16<=140737488355328/\(bg (cu (d.toNat-0) (gf 0 a))+bg ([((bb c b.toNat zP).1,(bb c b.toNat zP).2)]:List (Int × Int)))*16<=140737488355328 then if (bg ((cu (d.toNat-0) (gf 0 a))++([((bb c b.toNat zP).1,(bb c b.toNat zP).2)]:List (Int × Int)))+bg (cu (a.length-d.toNat) (gf d.toNat a)))*16<=140737488355328 then some (((cu (d.toNat-0) (gf 0 a))++([((bb c b.toNat zP).1,(bb c b.toNat zP).2)]:List (Int × Int)))++(cu (a.length-d.toNat) (gf d.toNat a))) else none else none) else none).bind (λg=>AF.l0 K c e g (ba .i64 (b+1))) else some a
def AF.l2 (K:Nat) (c:qo):Nat->qo->Int->Option qo
 |0,_,_=>none
 |e+1,a,b=>if decide (b<(c.length:Int))=true then (CG K (bb c b.toNat zP).1 (bb c b.toNat zP).2).bind λf=>if 0<=b/\b<(c.length:Int) then (if ((a.length:Int)==0)=true then some true else (CG K (bb a (bc (ba .i64 ((a.length:Int)-1))) zP).1 (bb a (bc (ba .i64 ((a.length:Int)-1))) zP).2).bind λg=>if 0<=(ba .i64 ((a.length:Int)-1))/\(ba .i64 ((a.length:Int)-1))<(a.length:Int) then some (decide (f.1>g.2)) else none).bind (λh=>if h=true then if (bg a+bg ([((bb c b.toNat zP).1,(bb c b.toNat zP).2)]:List (Int × Int)))*16<=140737488355328 then AF.l2 K c e (a++([((bb c b.toNat zP).1,(bb c b.toNat zP).2)]:List (Int × Int))) (ba .i64 (b+1)) else none else if 0<=(ba .i64 ((a.length:Int)-1))/\(ba .i64 ((a.length:Int)-1))<(a.length:Int) then (CG K (bb a (bc (ba .i64 ((a.length:Int)-1))) zP).1 (bb a (bc (ba .i64 ((a.length:Int)-1))) zP).2).bind λd=>if (decide ((bb a (bc (ba .i64 ((a.length:Int)-1))) zP).2<(bb a (bc (ba .i64 ((a.length:Int)-1))) zP).1))=true then AF.l2 K c e (dp a (bc (ba .i64 ((a.length:Int)-1))) (mx2 f.2 d.2,d.1)) (ba .i64 (b+1)) else AF.l2 K c e (dp a (bc (ba .i64 ((a.length:Int)-1))) (d.1,mx2 f.2 d.2)) (ba .i64 (b+1)) else none) else none else some a
def AF (K:Nat) (a:qo):=(AF.l0 K a K ([]:qo) (0:Int)).bind (λb=>AF.l2 K b K ([]:qo) (0:Int))
def BS.l0 (K:Nat) (b:qo) (c:np):Nat->Int->Option ((qo×Int) ⊕ Unit)
 |0,_=>none
 |e+1,a=>if decide (a<(b.length:Int))=true then (CG K (bb b a.toNat zP).1 (bb b a.toNat zP).2).bind λd=>if 0<=a/\a<(b.length:Int) then (if decide (d.1<0)=true then some true else some (decide (d.2>(c.size:Int)))).bind (λf=>if f=true then some (mj (([]:List (Int × Int)),(10:Int))) else BS.l0 K b c e (ba .i64 (a+1))) else none else some (ln ())
def BS.l1 (K:Nat) (b:qo) (c:np):Nat->Int->Option ((qo×Int) ⊕ Unit)
 |0,_=>none
 |d+1,a=>if decide (a<(b.length:Int))=true then ((DS K c (bb b a.toNat zP).1).bind λe=>if (!e)=true then if 0<=a/\a<(b.length:Int) then some true else none else (DS K c (bb b a.toNat zP).2).bind λf=>if 0<=a/\a<(b.length:Int) then some (!f) else none).bind (λg=>if g=true then some (mj (([]:List (Int × Int)),(11:Int))) else BS.l1 K b c d (ba .i64 (a+1))) else some (ln ())
def BS (K:Nat) (a:qo) (b:np):=if ((a.length:Int)==0)=true then some (([]:qo),(12:Int)) else if decide ((a.length:Int)>8)=true then some (([]:qo),(70:Int)) else (BS.l0 K a b K (0:Int)).bind (la (λc=>some c) (λf=>(BS.l1 K a b K (0:Int)).bind (la (λd=>some d) (λg=>(AF K a).bind λe=>some (e,(0:Int))))))
def EY.l0 (K:Nat) (b:qo) (d:np):Nat->qg->Int->Option qg
 |0,_,_=>none
 |f+1,e,a=>if decide (a<(b.length:Int))=true then (CG K (bb b a.toNat zP).1 (bb b a.toNat zP).2).bind λc=>if 0<=a/\a<(b.length:Int) then if (bg e+bg ([(c.1,c.2,d)]:List (Int × (Int × np))))*32<=140737488355328 then EY.l0 K b d f (e++([(c.1,c.2,d)]:List (Int × (Int × np)))) (ba .i64 (a+1)) else none else none else some e
def EY (K:Nat) (a:qo) (b:np):=EY.l0 K a b K ([]:qg) (0:Int)
def DU.l0 (K:Nat) (b:qo) (c:np):Nat->Int->Option Bool
 |0,_=>none
 |d+1,a=>if decide (a<(b.length:Int))=true then ((DS K c (bb b a.toNat zP).1).bind λe=>if (!e)=true then if 0<=a/\a<(b.length:Int) then some true else none else (DS K c (bb b a.toNat zP).2).bind λf=>if (!f)=true then if 0<=a/\a<(b.length:Int) then some true else none else if decide (a>0)=true then (CG K (bb b a.toNat zP).1 (bb b a.toNat zP).2).bind λg=>(CG K (bb b (bc (ba .i64 (a-1))) zP).1 (bb b (bc (ba .i64 (a-1))) zP).2).bind λh=>if 0<=a/\a<(b.length:Int)/\0<=(ba .i64 (a-1))/\(ba .i64 (a-1))<(b.length:Int) then some (decide (g.1<=h.2)) else none else if 0<=a/\a<(b.length:Int) then some false else none).bind (λi=>if i=true then some false else DU.l0 K b c d (ba .i64 (a+1))) else some true
def DU (K:Nat) (a:qo) (b:np):=(if decide ((a.length:Int)<1)=true then some true else some (decide ((a.length:Int)>8))).bind (λc=>if c=true then some false else DU.l0 K a b K (0:Int))
def E9.l0 (K:Nat) (b:np):Nat->Int->Option Int
 |0,_=>none
 |c+1,a=>(if decide (a>0)=true then if 0<=a/\a<(b.size:Int) then some ((bw (ba .i64 (bt b a)) (64:Int))==2) else none else some false).bind (λd=>if d=true then E9.l0 K b c (ba .i64 (a-1)) else some a)
def E9 (K:Nat) (b:np) (a:Int):=(if decide (a<1)=true then some true else if decide (a>(b.size:Int))=true then some true else (DS K b a).bind λc=>some (!c)).bind (λd=>if d=true then some a else E9.l0 K b K (ba .i64 (a-1)))
def DT.l0 (K:Nat) (c:qo) (f:np):Nat->qg->Int->Int->Option qg
 |0,_,_,_=>none
 |h+1,d,e,b=>if decide (b<(c.length:Int))=true then (CG K (bb c b.toNat zP).1 (bb c b.toNat zP).2).bind λa=>if 0<=b/\b<(c.length:Int) then (if (a.1==a.2)=true then (E9 K f a.2).bind λi=>some i else some a.1).bind (λg=>if decide ((mx2 g e)<a.2)=true then if (bg d+bg ([(mx2 g e,a.2,cc)]:List (Int × (Int × np))))*32<=140737488355328 then DT.l0 K c f h (d++([(mx2 g e,a.2,cc)]:List (Int × (Int × np)))) a.2 (ba .i64 (b+1)) else none else DT.l0 K c f h d e (ba .i64 (b+1))) else none else some d
def DT (K:Nat) (a:qo) (b:np):=(DU K a b).bind λc=>if (!c)=true then some ([]:qg) else DT.l0 K a b K ([]:qg) (0:Int) (0:Int)
def DN.l0 (K:Nat) (b:qe) (c:Int):Nat->Int->Int->Int->Option Bool
 |0,_,_,_=>none
 |e+1,d,f,a=>if decide (a<(b.length:Int))=true then if 0<=a/\a<(b.length:Int) then (if decide ((bb b a.toNat zS).2.2<1)=true then some true else if decide ((bb b a.toNat zS).2.2>100)=true then some true else if decide ((bb b a.toNat zS).1<d)=true then some true else if decide ((bb b a.toNat zS).2.1<=(bb b a.toNat zS).1)=true then some true else if decide ((bb b a.toNat zS).2.1>(mn2 c (20000:Int)))=true then some true else if decide (a>0)=true then if ((bb b a.toNat zS).1==d)=true then some ((bb b a.toNat zS).2.2==f) else some false else some false).bind (λg=>if g=true then some false else DN.l0 K b c e (bb b a.toNat zS).2.1 (bb b a.toNat zS).2.2 (ba .i64 (a+1))) else none else some true
def DN (K:Nat) (a:qe) (b:Int):=if decide ((a.length:Int)>60)=true then some false else DN.l0 K a b K (0:Int) (0:Int) (0:Int)
def DB.l0 (K:Nat) (c:qe):Nat->qe->Int->Option qe
 |0,_,_=>none
 |d+1,b,a=>if decide (a<(c.length:Int))=true then (if decide ((bb c a.toNat zS).2.1<=(bb c a.toNat zS).1)=true then if 0<=a/\a<(c.length:Int) then some true else none else if 0<=a/\a<(c.length:Int) then some ((bb c a.toNat zS).2.2==0) else none).bind (λe=>if e=true then DB.l0 K c d b (ba .i64 (a+1)) else (if decide ((b.length:Int)>0)=true then if ((bb b (bc (ba .i64 ((b.length:Int)-1))) zS).2.1==(bb c a.toNat zS).1)=true then if 0<=(ba .i64 ((b.length:Int)-1))/\(ba .i64 ((b.length:Int)-1))<(b.length:Int)/\0<=a/\a<(c.length:Int) then some ((bb b (bc (ba .i64 ((b.length:Int)-1))) zS).2.2==(bb c a.toNat zS).2.2) else none else if 0<=(ba .i64 ((b.length:Int)-1))/\(ba .i64 ((b.length:Int)-1))<(b.length:Int)/\0<=a/\a<(c.length:Int) then some false else none else some false).bind (λf=>if f=true then if 0<=a/\a<(c.length:Int)/\0<=(ba .i64 ((b.length:Int)-1))/\(ba .i64 ((b.length:Int)-1))<(b.length:Int) then DB.l0 K c d (dp b (bc (ba .i64 ((b.length:Int)-1))) ((bb b (bc (ba .i64 ((b.length:Int)-1))) zS).1,(bb c a.toNat zS).2.1,(bb b (bc (ba .i64 ((b.length:Int)-1))) zS).2.2)) (ba .i64 (a+1)) else none else if 0<=a/\a<(c.length:Int)/\(bg b+bg ([((bb c a.toNat zS).1,(bb c a.toNat zS).2.1,(bb c a.toNat zS).2.2)]:List (Int × (Int × Int))))*24<=140737488355328 then DB.l0 K c d (b++([((bb c a.toNat zS).1,(bb c a.toNat zS).2.1,(bb c a.toNat zS).2.2)]:List (Int × (Int × Int)))) (ba .i64 (a+1)) else none)) else some b
def DB (K:Nat) (a:qe):=DB.l0 K a K ([]:qe) (0:Int)
def BG.l0 (K:Nat) (b:qe) (c:Int):Nat->qe->Int->Option qe
 |0,_,_=>none
 |e+1,d,a=>if decide (a<(b.length:Int))=true then if 0<=a/\a<(b.length:Int)/\(bg d+bg ([((bb b a.toNat zS).1,mn2 (bb b a.toNat zS).2.1 c,(bb b a.toNat zS).2.2)]:List (Int × (Int × Int))))*24<=140737488355328 then BG.l0 K b c e (d++([((bb b a.toNat zS).1,mn2 (bb b a.toNat zS).2.1 c,(bb b a.toNat zS).2.2)]:List (Int × (Int × Int)))) (ba .i64 (a+1)) else none else some d
def BG.l1 (K:Nat) (b:qe) (c:Int):Nat->qe->Int->Option qe
 |0,_,_=>none
 |e+1,d,a=>if decide (a<(b.length:Int))=true then if 0<=a/\a<(b.length:Int)/\(bg d+bg ([(mx2 (bb b a.toNat zS).1 c,(bb b a.toNat zS).2.1,(bb b a.toNat zS).2.2)]:List (Int × (Int × Int))))*24<=140737488355328 then BG.l1 K b c e (d++([(mx2 (bb b a.toNat zS).1 c,(bb b a.toNat zS).2.1,(bb b a.toNat zS).2.2)]:List (Int × (Int × Int)))) (ba .i64 (a+1)) else none else some d
def BG (K:Nat) (c:qe) (a b d:Int):=((DN K c (20000:Int)).bind λg=>if (!g)=true then some true else if decide (d<0)=true then some true else if decide (d>100)=true then some true else if decide (a<0)=true then some true else if decide (b<a)=true then some true else some (decide (b>20000))).bind (λh=>if h=true then some (([]:qe),(12:Int)) else if (a==b)=true then some (c,(0:Int)) else (BG.l0 K c a K ([]:qe) (0:Int)).bind (λe=>if (bg e+bg ([(a,b,d)]:qe))*24<=140737488355328 then (BG.l1 K c b K (e++([(a,b,d)]:qe)) (0:Int)).bind (λi=>(DB K i).bind λf=>if decide ((f.length:Int)>60)=true then some (([]:qe),(70:Int)) else some (f,(0:Int))) else none))
def NX (K:Nat) (k l:Int) (m:List Bool) (n:qb) (o:rb) (p:qo) (a:qe) (q:pu) (b c f:Int) (e:np):=(if decide (b<0)=true then some true else if decide (c<b)=true then some true else some (decide (c>(e.size:Int)))).bind (λg=>if g=true then some ((10:Int),a) else ((DS K e b).bind λh=>if (!h)=true then some true else (DS K e c).bind λi=>some (!i)).bind (λj=>if j=true then some ((11:Int),a) else (BG K a b c f).bind λd=>if (d.2==0)=true then some (d.2,d.1) else some (d.2,a)))
def E8.l0 (K:Nat) (b:pu) (c:Int):Nat->Int->Option Bool
 |0,_=>none
 |d+1,a=>if decide (a<(b.length:Int))=true then (if decide ((bb b a.toNat (0:Int))<1)=true then if 0<=a/\a<(b.length:Int) then some true else none else if decide ((bb b a.toNat (0:Int))>=(mn2 c (20000:Int)))=true then if 0<=a/\a<(b.length:Int) then some true else none else if decide (a>0)=true then if 0<=a/\a<(b.length:Int)/\0<=(ba .i64 (a-1))/\(ba .i64 (a-1))<(b.length:Int) then some (decide ((bb b a.toNat (0:Int))<=(bb b (bc (ba .i64 (a-1))) (0:Int)))) else none else if 0<=a/\a<(b.length:Int) then some false else none).bind (λe=>if e=true then some false else E8.l0 K b c d (ba .i64 (a+1))) else some (decide ((b.length:Int)<=60))
def E8 (K:Nat) (a:pu) (b:Int):=E8.l0 K a b K (0:Int)
def DO.l0 (K:Nat) (b:pu) (c:Int):Nat->Int->Option Int
 |0,_=>none
 |d+1,a=>(if decide (a<(b.length:Int))=true then if 0<=a/\a<(b.length:Int) then some (decide ((bb b a.toNat (0:Int))<c)) else none else some false).bind (λe=>if e=true then DO.l0 K b c d (ba .i64 (a+1)) else some a)
def DO (K:Nat) (a:pu) (c:Int):=((E8 K a (20000:Int)).bind λd=>if (!d)=true then some true else if decide (c<1)=true then some true else some (decide (c>=20000))).bind (λe=>if e=true then some (([]:pu),(12:Int)) else (DO.l0 K a c K (0:Int)).bind (λb=>(if decide (b<(a.length:Int))=true then if 0<=b/\b<(a.length:Int) then some ((bb a b.toNat (0:Int))==c) else none else some false).bind (λf=>if f=true then some (a,(0:Int)) else if ((a.length:Int)==60)=true then some (([]:pu),(70:Int)) else if 0<=b/\b<=(a.length:Int)/\bg (cu b.toNat a)*8<=140737488355328/\(bg (cu b.toNat a)+bg ([c]:pu))*8<=140737488355328/\(bg ((cu b.toNat a)++([c]:pu))+bg (gf b.toNat a))*8<=140737488355328 then some (((cu b.toNat a)++([c]:pu))++(gf b.toNat a),(0:Int)) else none)))
def NW (K:Nat) (g h:Int) (i:List Bool) (j:qb) (k:rb) (l:qo) (m:qe) (a:pu) (b:Int) (d:np):=(if decide (b<1)=true then some true else some (decide (b>=(d.size:Int)))).bind (λe=>if e=true then some ((10:Int),a) else (DS K d b).bind λf=>if (!f)=true then some ((11:Int),a) else (DO K a b).bind λc=>if (c.2==0)=true then some (c.2,c.1) else some (c.2,a))
def FZ (K:Nat) (b a:Int) (c:List Bool) (f:qb) (d:rb) (e:qo) (g:qe) (h:pu) (i r:Int) (n v:Int) (w:qg) (x:pu) (y:qo) (z:np) (aa ab ac:Int):=(JA K b a c f d e g h).bind λo=>if (i==1)=true then (FX K b a c f d r n v w).bind λj=>some (j.2.1,j.2.2.1,a,j.2.2.2.1,j.2.2.2.2.1,j.2.2.2.2.2,e,g,h) else if (i==2)=true then (J5 K b a c f d n).bind λq=>some (q.2.1,q.2.2.1,a,c,q.2.2.2,d,e,g,h) else if (i==3)=true then (DC K b a c f d x).bind λk=>some (k.1,b,k.2.1,k.2.2.1,k.2.2.2.1,k.2.2.2.2,e,g,h) else if (i==4)=true then (BS K y o).bind λp=>if (p.2==0)=true then some (p.2,b,a,c,f,d,p.1,g,h) else some (p.2,b,a,c,f,d,e,g,h) else if (i==5)=true then (EY K e z).bind λad=>(FX K b a c f d b n (0:Int) ad).bind λl=>some (l.2.1,l.2.2.1,a,l.2.2.2.1,l.2.2.2.2.1,l.2.2.2.2.2,e,g,h) else if (i==6)=true then (DT K e o).bind λs=>if ((s.length:Int)==0)=true then some ((0:Int),b,a,c,f,d,e,g,h) else (FX K b a c f d b n (0:Int) s).bind λm=>some (m.2.1,m.2.2.1,a,m.2.2.2.1,m.2.2.2.2.1,m.2.2.2.2.2,e,g,h) else if (i==7)=true then (NX K b a c f d e g h aa ab ac o).bind λt=>some (t.1,b,a,c,f,d,e,t.2,h) else if (i==8)=true then (NW K b a c f d e g h r o).bind λu=>some (u.1,b,a,c,f,d,e,g,u.2) else some ((260:Int),b,a,c,f,d,e,g,h)
def AJ.l1 (K:Nat) (b:qo):Nat->Int->pu->Option (Int×pu)
 |0,_,_=>none
 |d+1,a,c=>(if decide (a<(b.length:Int))=true then if 0<=a/\a<(b.length:Int) then some (decide ((bb b a.toNat zP).1<0)) else none else some false).bind (λe=>if e=true then if 0<=a/\a<(b.length:Int)/\(bg c+bg ([(bb b a.toNat zP).2]:pu))*1<=140737488355328 then AJ.l1 K b d (ba .i64 (a+1)) (c++([(bb b a.toNat zP).2]:pu)) else none else some (a,c))
def AJ.l2 (K:Nat) (b:qo):Nat->Int->Option Int
 |0,_=>none
 |c+1,a=>(if decide (a<(b.length:Int))=true then if 0<=a/\a<(b.length:Int)/\0<=(ba .i64 (a-1))/\(ba .i64 (a-1))<(b.length:Int) then some ((bb b a.toNat zP).1==(ba .i64 ((bb b (bc (ba .i64 (a-1))) zP).1+1))) else none else some false).bind (λd=>if d=true then AJ.l2 K b c (ba .i64 (a+1)) else some a)
def AJ.l0 (K:Nat) (a:qo):Nat->qg->Int->Option qg
 |0,_,_=>none
 |g+1,c,b=>if decide (b<(a.length:Int))=true then (if 0<=b/\b<(a.length:Int) then if decide ((bb a b.toNat zP).1<0)=true then (AJ.l1 K a K (ba .i64 (b+1)) ([(bb a b.toNat zP).2]:pu)).bind (λe=>if (bg c+bg ([((0:Int),(0:Int),tP e.2)]:List (Int × (Int × np))))*32<=140737488355328 then some (c++([((0:Int),(0:Int),tP e.2)]:List (Int × (Int × np))),e.1) else none) else (AJ.l2 K a K (ba .i64 (b+1))).bind (λd=>if 0<=(ba .i64 (d-1))/\(ba .i64 (d-1))<(a.length:Int)/\(bg c+bg ([((bb a b.toNat zP).1,ba .i64 ((bb a (bc (ba .i64 (d-1))) zP).1+1),cc)]:List (Int × (Int × np))))*32<=140737488355328 then some (c++([((bb a b.toNat zP).1,ba .i64 ((bb a (bc (ba .i64 (d-1))) zP).1+1),cc)]:List (Int × (Int × np))),d) else none) else none).bind (λf=>AJ.l0 K a g f.1 f.2) else some c
def AJ.l3 (K:Nat) (b:qg):Nat->Int->Option ((Int×qg×Int) ⊕ Unit)
 |0,_=>none
 |c+1,a=>if decide (a<(b.length:Int))=true then (BW K (bb b a.toNat zE).2.2).bind λd=>if 0<=a/\a<(b.length:Int) then if (!d)=true then some (mj ((0:Int),([]:List (Int × (Int × np))),(12:Int))) else AJ.l3 K b c (ba .i64 (a+1)) else none else some (ln ())
def AJ (K:Nat) (b:Int) (c:qo):=(AJ.l0 K c K ([]:qg) (0:Int)).bind (λa=>(AJ.l3 K a K (0:Int)).bind (la (λd=>some d) (λe=>if decide ((a.length:Int)>60)=true then some ((0:Int),([]:qg),(70:Int)) else some (b,a,(0:Int)))))
def AP.l1 (K:Nat) (b:rb) (c:Int) (g e:Bool) (f:Int):Nat->qo->Int->Option qo
 |0,_,_=>none
 |h+1,d,a=>if (decide (a<(((cr (bb b c.toNat zAt).1):Nat):Int)))=true then (if g=true then some e else some false).bind (λi=>if i=true then if (bg d+bg ([(ba .i64 (f+a),(0:Int))]:List (Int × Int)))*16<=140737488355328 then AP.l1 K b c g e f h (d++([(ba .i64 (f+a),(0:Int))]:List (Int × Int))) (ba .i64 (a+1)) else none else if e=true then if 0<=a/\a<(((cr (bb b c.toNat zAt).1):Nat):Int)/\(bg d+bg ([((-1:Int),bt (bb b c.toNat zAt).1 a)]:List (Int × Int)))*16<=140737488355328 then AP.l1 K b c g e f h (d++([((-1:Int),bt (bb b c.toNat zAt).1 a)]:List (Int × Int))) (ba .i64 (a+1)) else none else AP.l1 K b c g e f h d (ba .i64 (a+1))) else some d
def AP.l0 (K:Nat) (b:rb) (d:Int) (e:pu) (f:Int) (g:pu):Nat->qo->Int->Int->Option (qo×Int)
 |0,_,_,_=>none
 |l+1,h,c,a=>if decide (a<(b.length:Int))=true then (if 0<=a/\a<(b.length:Int) then (C0 K (bb b a.toNat zAt).1 (bb b a.toNat zAt).2.1 (bb b a.toNat zAt).2.2.1 (bb b a.toNat zAt).2.2.2.1 (bb b a.toNat zAt).2.2.2.2 d e).bind λi=>(C0 K (bb b a.toNat zAt).1 (bb b a.toNat zAt).2.1 (bb b a.toNat zAt).2.2.1 (bb b a.toNat zAt).2.2.2.1 (bb b a.toNat zAt).2.2.2.2 f g).bind λm=>(AP.l1 K b a i m c K h (0:Int)).bind (λj=>if i=true then some (j,ba .i64 (c+(((cr (bb b a.toNat zAt).1):Nat):Int))) else some (j,c)) else none).bind (λk=>AP.l0 K b d e f g l k.1 k.2 (ba .i64 (a+1))) else some (h,c)
def AP (K:Nat) (a b:Int) (c:List Bool) (d:qb) (i:rb) (e f:Int):=((FY K a b c d e).bind λj=>if (!j)=true then some true else (FY K a b c d f).bind λk=>some (!k)).bind (λl=>if l=true then some ((0:Int),([]:qg),(190:Int)) else (EB K a b c d e).bind λm=>(EB K a b c d f).bind λn=>(AP.l0 K i e m f n K ([]:qo) (0:Int) (0:Int)).bind (λh=>(AJ K h.2 h.1).bind λg=>some (g.1,g.2.1,g.2.2)))
def C7.l0 (K:Nat) (b:qg) (d:Int):Nat->Int->Bool->Int->Int->Option Bool
 |0,_,_,_,_=>none
 |f+1,e,g,c,a=>if decide (a<(b.length:Int))=true then if 0<=a/\a<(b.length:Int) then if (!(ex (bb b a.toNat zE).2.2==ex (iu #[])))=true then (if ((bb b a.toNat zE).1 !=0)=true then some true else if ((bb b a.toNat zE).2.1 !=0)=true then some true else if decide (a>0)=true then if g=true then some true else if (decide ((((cr (bb b a.toNat zE).2.2):Nat):Int)>(ba .i64 ((20000:Int)-c))))=true then some true else (BW K (bb b a.toNat zE).2.2).bind λh=>some (!h) else if (decide ((((cr (bb b a.toNat zE).2.2):Nat):Int)>(ba .i64 ((20000:Int)-c))))=true then some true else (BW K (bb b a.toNat zE).2.2).bind λi=>some (!i)).bind (λj=>if j=true then some false else C7.l0 K b d f e true (ba .i64 (c+(((cr (bb b a.toNat zE).2.2):Nat):Int))) (ba .i64 (a+1))) else (if decide ((bb b a.toNat zE).1<e)=true then some true else if decide (a>0)=true then if (!g)=true then if ((bb b a.toNat zE).1==e)=true then some true else if decide ((bb b a.toNat zE).2.1<=(bb b a.toNat zE).1)=true then some true else if decide ((bb b a.toNat zE).2.1>d)=true then some true else some (decide ((ba .i64 ((bb b a.toNat zE).2.1-(bb b a.toNat zE).1))>(ba .i64 ((20000:Int)-c)))) else if decide ((bb b a.toNat zE).2.1<=(bb b a.toNat zE).1)=true then some true else if decide ((bb b a.toNat zE).2.1>d)=true then some true else some (decide ((ba .i64 ((bb b a.toNat zE).2.1-(bb b a.toNat zE).1))>(ba .i64 ((20000:Int)-c)))) else if decide ((bb b a.toNat zE).2.1<=(bb b a.toNat zE).1)=true then some true else if decide ((bb b a.toNat zE).2.1>d)=true then some true else some (decide ((ba .i64 ((bb b a.toNat zE).2.1-(bb b a.toNat zE).1))>(ba .i64 ((20000:Int)-c))))).bind (λk=>if k=true then some false else C7.l0 K b d f (bb b a.toNat zE).2.1 false (ba .i64 ((ba .i64 (c+(bb b a.toNat zE).2.1))-(bb b a.toNat zE).1)) (ba .i64 (a+1))) else none else some true
def C7 (K:Nat) (a:Int) (b:qg):=(if decide (a<0)=true then some true else if decide (a>20000)=true then some true else some (decide ((b.length:Int)>60))).bind (λc=>if c=true then some false else C7.l0 K b a K (0:Int) true (0:Int) (0:Int))
def AS.l1 (K:Nat) (b:qg) (c:Int):Nat->qo->Int->Option qo
 |0,_,_=>none
 |e+1,d,a=>if (decide (a<(((cr (bb b c.toNat zE).2.2):Nat):Int)))=true then if 0<=a/\a<(((cr (bb b c.toNat zE).2.2):Nat):Int)/\(bg d+bg ([((-1:Int),bt (bb b c.toNat zE).2.2 a)]:List (Int × Int)))*16<=140737488355328 then AS.l1 K b c e (d++([((-1:Int),bt (bb b c.toNat zE).2.2 a)]:List (Int × Int))) (ba .i64 (a+1)) else none else some d
def AS.l2 (K:Nat) (c:qg) (d:Int):Nat->qo->Int->Option qo
 |0,_,_=>none
 |e+1,b,a=>if decide (a<(bb c d.toNat zE).2.1)=true then if (bg b+bg ([(a,(0:Int))]:List (Int × Int)))*16<=140737488355328 then AS.l2 K c d e (b++([(a,(0:Int))]:List (Int × Int))) (ba .i64 (a+1)) else none else some b
def AS.l0 (K:Nat) (b:qg):Nat->qo->Int->Option qo
 |0,_,_=>none
 |d+1,c,a=>if decide (a<(b.length:Int))=true then (if 0<=a/\a<(b.length:Int) then (AS.l1 K b a K c (0:Int)).bind (λe=>AS.l2 K b a K e (bb b a.toNat zE).1) else none).bind (λf=>AS.l0 K b d f (ba .i64 (a+1))) else some c
def AS (K:Nat) (b:Int) (a:qg):=AS.l0 K a K ([]:qo) (0:Int)
def B1.l0 (K:Nat) (b:qo) (c d:Int):Nat->Int->Int->Option Int
 |0,_,_=>none
 |e+1,f,a=>if decide (a<(b.length:Int))=true then (if decide ((bb b a.toNat zP).1>=0)=true then if 0<=a/\a<(b.length:Int) then some (decide ((bb b a.toNat zP).1<(mx2 (0:Int) (mn2 c d)))) else none else if 0<=a/\a<(b.length:Int) then some false else none).bind (λg=>if g=true then B1.l0 K b c d e (ba .i64 (a+1)) (ba .i64 (a+1)) else B1.l0 K b c d e f (ba .i64 (a+1))) else some f
def B1.l1 (K:Nat) (b:qo):Nat->Int->Option Int
 |0,_=>none
 |c+1,a=>(if decide (a<(b.length:Int))=true then if 0<=a/\a<(b.length:Int) then some (decide ((bb b a.toNat zP).1<0)) else none else some false).bind (λd=>if d=true then B1.l1 K b c (ba .i64 (a+1)) else some a)
def B1 (K:Nat) (a:Int) (b:qg) (e:Int) (f:Bool):=(C7 K a b).bind λg=>if (!g)=true then some (0:Int) else (AS K a b).bind λc=>(B1.l0 K c e a K (0:Int) (0:Int)).bind (λd=>if (!f)=true then some d else B1.l1 K c K d)
def BT.l0 (K:Nat) (b:qo) (c:Int):Nat->Int->Option ((qo×Int) ⊕ Unit)
 |0,_=>none
 |e+1,a=>if decide (a<(b.length:Int))=true then (CG K (bb b a.toNat zP).1 (bb b a.toNat zP).2).bind λd=>if 0<=a/\a<(b.length:Int) then (if decide (d.1<0)=true then some true else some (decide (d.2>c))).bind (λf=>if f=true then some (mj (([]:List (Int × Int)),(12:Int))) else BT.l0 K b c e (ba .i64 (a+1))) else none else some (ln ())
def BT.l1 (K:Nat) (b:qo) (c:Int) (d:qg):Nat->qo->Int->Option qo
 |0,_,_=>none
 |h+1,e,a=>if decide (a<(b.length:Int))=true then (B1 K c d (bb b a.toNat zP).1 true).bind λf=>(B1 K c d (bb b a.toNat zP).2 true).bind λg=>if 0<=a/\a<(b.length:Int)/\(bg e+bg ([(f,g)]:List (Int × Int)))*16<=140737488355328 then BT.l1 K b c d h (e++([(f,g)]:List (Int × Int))) (ba .i64 (a+1)) else none else some e
def BT (K:Nat) (a:qo) (b:Int) (c:qg):=((C7 K b c).bind λd=>if (!d)=true then some true else some ((a.length:Int)==0)).bind (λe=>if e=true then some (([]:qo),(12:Int)) else (BT.l0 K a b K (0:Int)).bind (la (λf=>some f) (λi=>if decide ((a.length:Int)>8)=true then some (([]:qo),(70:Int)) else (BT.l1 K a b c K ([]:qo) (0:Int)).bind (λg=>(AF K g).bind λh=>some (h,(0:Int))))))
def L7 (K:Nat) (a:Int) (b:qg) (d e:Int):=(C7 K a b).bind λf=>if (!f)=true then some ((0:Int),(0:Int)) else (B1 K a b d true).bind λc=>(B1 K a b e false).bind λg=>some (c,mx2 c g)
def CW.l0 (K:Nat) (b:qe) (e:Int) (f:qg):Nat->qe->Int->Option qe
 |0,_,_=>none
 |g+1,d,a=>if decide (a<(b.length:Int))=true then (L7 K e f (bb b a.toNat zS).1 (bb b a.toNat zS).2.1).bind λc=>if 0<=a/\a<(b.length:Int) then if (bg d+bg ([(c.1,c.2,(bb b a.toNat zS).2.2)]:List (Int × (Int × Int))))*24<=140737488355328 then CW.l0 K b e f g (d++([(c.1,c.2,(bb b a.toNat zS).2.2)]:List (Int × (Int × Int)))) (ba .i64 (a+1)) else none else none else some d
def CW (K:Nat) (b:qe) (a:Int) (c:qg):=((C7 K a c).bind λd=>if (!d)=true then some true else (DN K b a).bind λe=>some (!e)).bind (λf=>if f=true then some (([]:qe),(12:Int)) else (CW.l0 K b a c K ([]:qe) (0:Int)).bind (λg=>(DB K g).bind λh=>some (h,(0:Int))))
def D9.l0 (K:Nat) (c:pu) (e:Int) (f:qg) (g:qo):Nat->pu->Int->Option (pu×Int)
 |0,_,_=>none
 |h+1,a,b=>if decide (b<(c.length:Int))=true then (B1 K e f (bb c b.toNat (0:Int)) false).bind λd=>if 0<=b/\b<(c.length:Int) then (if decide (d>0)=true then if decide (d<(g.length:Int))=true then if ((a.length:Int)==0)=true then some true else if 0<=(ba .i64 ((a.length:Int)-1))/\(ba .i64 ((a.length:Int)-1))<(a.length:Int) then some ((bb a (bc (ba .i64 ((a.length:Int)-1))) (0:Int)) !=d) else none else some false else some false).bind (λi=>if i=true then if (bg a+bg ([d]:pu))*8<=140737488355328 then D9.l0 K c e f g h (a++([d]:pu)) (ba .i64 (b+1)) else none else D9.l0 K c e f g h a (ba .i64 (b+1))) else none else some (a,(0:Int))
def D9 (K:Nat) (c:pu) (a:Int) (b:qg):=((C7 K a b).bind λd=>if (!d)=true then some true else (E8 K c a).bind λe=>some (!e)).bind (λf=>if f=true then some (([]:pu),(12:Int)) else (AS K a b).bind λg=>D9.l0 K c a b g K ([]:pu) (0:Int))
def LF (K:Nat) (h i:Int) (j:List Bool) (k:qb) (l:rb) (b:qo) (c:qe) (d:pu) (m:Int):=(AP K h i j k l m h).bind λa=>if (a.2.2 !=0)=true then some (a.2.2,b,c,d) else (BT K b a.1 a.2.1).bind λe=>if (e.2 !=0)=true then some (e.2,b,c,d) else (CW K c a.1 a.2.1).bind λf=>if (f.2 !=0)=true then some (f.2,b,c,d) else (D9 K d a.1 a.2.1).bind λg=>if (g.2 !=0)=true then some (g.2,b,c,d) else some ((0:Int),e.1,f.1,g.1)
def NT (K:Nat) (b c:Int) (d:List Bool) (a:qb) (e:rb):=(HA K b c d a).bind λg=>(DP K e).bind λf=>some (a,f)
def J9 (K:Nat) (b c:Int) (d:List Bool) (e:qb) (f:rb) (g:qo) (h:qe) (i:pu):=(NT K b c d e f).bind λa=>if bg g*16<=140737488355328/\bg h*24<=140737488355328/\bg i*8<=140737488355328 then some (a.1,a.2) else none
def HC (K:Nat) (b e:Int) (f:List Bool) (j:qb) (k:rb) (g:qo) (h:qe) (i:pu) (m n:Int) (o p:Int) (q:qg) (r:pu) (s:qo) (t:np) (u v w:Int):=(J9 K b e f j k g h i).bind λl=>(FZ K b e f l.1 l.2 g h i m n o p q r s t u v w).bind λa=>(if (a.1==0)=true then some (a.2.1 !=b) else some false).bind (λx=>(if x=true then (LF K a.2.1 a.2.2.1 a.2.2.2.1 a.2.2.2.2.1 a.2.2.2.2.2.1 a.2.2.2.2.2.2.1 a.2.2.2.2.2.2.2.1 a.2.2.2.2.2.2.2.2 b).bind λd=>some (d.2.1,d.2.2.1,d.2.2.2,d.1) else some (a.2.2.2.2.2.2.1,a.2.2.2.2.2.2.2.1,a.2.2.2.2.2.2.2.2,a.1)).bind (λc=>if (c.2.2.2 !=0)=true then some ((0:Int),c.2.2.2,b,e,f,j,k,g,h,i) else some (a.2.1,(0:Int),a.2.1,a.2.2.1,a.2.2.2.1,a.2.2.2.2.1,a.2.2.2.2.2.1,c.1,c.2.1,c.2.2.1)))
def EE.l0 (K:Nat) (b c:qo):Nat->Int->Option Bool
 |0,_=>none
 |d+1,a=>if decide (a<(b.length:Int))=true then if 0<=a/\a<(b.length:Int)/\a<(c.length:Int) then if (!(((bb b a.toNat zP).1==(bb c a.toNat zP).1)&&((bb b a.toNat zP).2==(bb c a.toNat zP).2)))=true then some false else EE.l0 K b c d (ba .i64 (a+1)) else none else some true
def EE (K:Nat) (a b:qo):=if ((a.length:Int) !=(b.length:Int))=true then some false else EE.l0 K a b K (0:Int)
def EF.l0 (K:Nat) (b c:qe):Nat->Int->Option Bool
 |0,_=>none
 |d+1,a=>if decide (a<(b.length:Int))=true then if 0<=a/\a<(b.length:Int)/\a<(c.length:Int) then if (!(((bb b a.toNat zS).1==(bb c a.toNat zS).1)&&(((bb b a.toNat zS).2.1==(bb c a.toNat zS).2.1)&&((bb b a.toNat zS).2.2==(bb c a.toNat zS).2.2))))=true then some false else EF.l0 K b c d (ba .i64 (a+1)) else none else some true
def EF (K:Nat) (a b:qe):=if ((a.length:Int) !=(b.length:Int))=true then some false else EF.l0 K a b K (0:Int)
def BH.l1 (K:Nat) (c:rb) (b:Int) (d:rb):Nat->Int->Option (Bool ⊕ Unit)
 |0,_=>none
 |e+1,a=>if (decide (a<(((bg (bb c b.toNat zAt).2.2.2.2):Nat):Int)))=true then if 0<=a/\a<(((bg (bb c b.toNat zAt).2.2.2.2):Nat):Int)/\a<(((bg (bb d b.toNat zAt).2.2.2.2):Nat):Int) then if (!(((bb (bb c b.toNat zAt).2.2.2.2 a.toNat zP).1==(bb (bb d b.toNat zAt).2.2.2.2 a.toNat zP).1)&&((bb (bb c b.toNat zAt).2.2.2.2 a.toNat zP).2==(bb (bb d b.toNat zAt).2.2.2.2 a.toNat zP).2)))=true then some (mj false) else BH.l1 K c b d e (ba .i64 (a+1)) else none else some (ln ())
def BH.l0 (K:Nat) (b c:rb):Nat->Int->Option Bool
 |0,_=>none
 |d+1,a=>if decide (a<(b.length:Int))=true then (if 0<=a/\a<(b.length:Int)/\a<(c.length:Int) then (if (!(ex (bb b a.toNat zAt).1==ex (bb c a.toNat zAt).1))=true then some true else if ((bb b a.toNat zAt).2.1 !=(bb c a.toNat zAt).2.1)=true then some true else if ((bb b a.toNat zAt).2.2.1 !=(bb c a.toNat zAt).2.2.1)=true then some true else if ((bb b a.toNat zAt).2.2.2.1 !=(bb c a.toNat zAt).2.2.2.1)=true then some true else some ((((bg (bb b a.toNat zAt).2.2.2.2):Nat):Int) !=(((bg (bb c a.toNat zAt).2.2.2.2):Nat):Int))).bind (λe=>if e=true then some (mj false) else BH.l1 K b a c K (0:Int)) else none).bind (la (λf=>some f) (λg=>BH.l0 K b c d (ba .i64 (a+1)))) else some true
def BH (K:Nat) (a b:rb):=if ((a.length:Int) !=(b.length:Int))=true then some false else BH.l0 K a b K (0:Int)
def EC.l0 (K:Nat) (c:List (Int×Int×Int×Int×qg×pu×qo×ByteArray×Int×Int×Int)):Nat->rb->qb->Int->pu->pu->rz->qo->qe->pu->Int->Int->(List Bool)->qb->rb->qo->qe->pu->Int->Option (Bool ⊕ (rb×qb×Int×pu×pu×rz×qo×qe×pu×Int×Int×(List Bool)×qb×rb×qo×qe×pu))
 |0,_,_,_,_,_,_,_,_,_,_,_,_,_,_,_,_,_,_=>none
 |v+1,e,f,g,h,i,j,k,l,m,n,o,p,q,r,s,t,u,b=>if decide (b<(c.length:Int))=true then (K0 K e f g h i j k l m (bb c b.toNat zAb).1 (bb c b.toNat zAb).2.1 (bb c b.toNat zAb).2.2.1 (bb c b.toNat zAb).2.2.2.1 (bb c b.toNat zAb).2.2.2.2.1 (bb c b.toNat zAb).2.2.2.2.2.1 (bb c b.toNat zAb).2.2.2.2.2.2.1 (bb c b.toNat zAb).2.2.2.2.2.2.2.1 (bb c b.toNat zAb).2.2.2.2.2.2.2.2.1 (bb c b.toNat zAb).2.2.2.2.2.2.2.2.2.1 (bb c b.toNat zAb).2.2.2.2.2.2.2.2.2.2).bind λa=>if 0<=b/\b<(c.length:Int) then (HC K n o p q r s t u (bb c b.toNat zAb).1 (bb c b.toNat zAb).2.1 (bb c b.toNat zAb).2.2.1 (bb c b.toNat zAb).2.2.2.1 (bb c b.toNat zAb).2.2.2.2.1 (bb c b.toNat zAb).2.2.2.2.2.1 (bb c b.toNat zAb).2.2.2.2.2.2.1 (bb c b.toNat zAb).2.2.2.2.2.2.2.1 (bb c b.toNat zAb).2.2.2.2.2.2.2.2.1 (bb c b.toNat zAb).2.2.2.2.2.2.2.2.2.1 (bb c b.toNat zAb).2.2.2.2.2.2.2.2.2.2).bind λd=>(if (a.1 !=d.1)=true then some true else if (a.2.1 !=d.2.1)=true then some true else (FB K a.2.2.1 a.2.2.2.1 a.2.2.2.2.1 a.2.2.2.2.2.1 a.2.2.2.2.2.2.1 a.2.2.2.2.2.2.2.1 a.2.2.2.2.2.2.2.2.1 a.2.2.2.2.2.2.2.2.2.1 a.2.2.2.2.2.2.2.2.2.2).bind λw=>(JA K d.2.2.1 d.2.2.2.1 d.2.2.2.2.1 d.2.2.2.2.2.1 d.2.2.2.2.2.2.1 d.2.2.2.2.2.2.2.1 d.2.2.2.2.2.2.2.2.1 d.2.2.2.2.2.2.2.2.2).bind λx=>if (!(ex w==ex x))=true then some true else (K1 K a.2.2.1 a.2.2.2.1 a.2.2.2.2.1 a.2.2.2.2.2.1 a.2.2.2.2.2.2.1 a.2.2.2.2.2.2.2.1 a.2.2.2.2.2.2.2.2.1 a.2.2.2.2.2.2.2.2.2.1 a.2.2.2.2.2.2.2.2.2.2).bind λy=>(EE K y d.2.2.2.2.2.2.2.1).bind λz=>if (!z)=true then some true else (K2 K a.2.2.1 a.2.2.2.1 a.2.2.2.2.1 a.2.2.2.2.2.1 a.2.2.2.2.2.2.1 a.2.2.2.2.2.2.2.1 a.2.2.2.2.2.2.2.2.1 a.2.2.2.2.2.2.2.2.2.1 a.2.2.2.2.2.2.2.2.2.2).bind λaa=>(EF K aa d.2.2.2.2.2.2.2.2.1).bind λab=>if (!ab)=true then some true else (JZ K a.2.2.1 a.2.2.2.1 a.2.2.2.2.1 a.2.2.2.2.2.1 a.2.2.2.2.2.2.1 a.2.2.2.2.2.2.2.1 a.2.2.2.2.2.2.2.2.1 a.2.2.2.2.2.2.2.2.2.1 a.2.2.2.2.2.2.2.2.2.2).bind λac=>(ED K ac d.2.2.2.2.2.2.2.2.2).bind λad=>some (!ad)).bind (λae=>if ae=true then some (mj false) else EC.l0 K c v a.2.2.1 a.2.2.2.1 a.2.2.2.2.1 a.2.2.2.2.2.1 a.2.2.2.2.2.2.1 a.2.2.2.2.2.2.2.1 a.2.2.2.2.2.2.2.2.1 a.2.2.2.2.2.2.2.2.2.1 a.2.2.2.2.2.2.2.2.2.2 d.2.2.1 d.2.2.2.1 d.2.2.2.2.1 d.2.2.2.2.2.1 d.2.2.2.2.2.2.1 d.2.2.2.2.2.2.2.1 d.2.2.2.2.2.2.2.2.1 d.2.2.2.2.2.2.2.2.2 (ba .i64 (b+1))) else none else some (ln (e,f,g,h,i,j,k,l,m,n,o,p,q,r,s,t,u))
def EC (K:Nat) (c:List (Int×Int×Int×Int×qg×pu×qo×ByteArray×Int×Int×Int)):=(LG K).bind λe=>if (!e)=true then some false else (EZ K c).bind λf=>if (!f)=true then some true else (JY K).bind λb=>(NV K).bind λd=>(EC.l0 K c K ([]:rb) b.1 (0:Int) b.2.1 b.2.2.1 b.2.2.2 (bn 1 zP) ([]:qe) ([]:pu) (0:Int) (0:Int) d.1 d.2 ([]:rb) ([((0:Int),(0:Int))]:qo) ([]:qe) ([]:pu) (0:Int)).bind (la (λg=>some g) (λa=>(OU K a.1 a.2.1 a.2.2.1 a.2.2.2.1 a.2.2.2.2.1 a.2.2.2.2.2.1 a.2.2.2.2.2.2.1 a.2.2.2.2.2.2.2.1 a.2.2.2.2.2.2.2.2.1).bind λj=>(HS K a.1 a.2.1 a.2.2.1 a.2.2.2.1 a.2.2.2.2.1).bind λh=>(BH K h a.2.2.2.2.2.2.2.2.2.2.2.2.2.1).bind λi=>some i))
end Go.Pal
