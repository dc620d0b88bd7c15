/- A part of the proof of WholeView. -/
import Derived.Test.YtidbfmbocikkgaaGreatFunWholeView
open BitVec renaming ofInt→bi,toNat→bz,toNat_ofInt→oh,toNat_or→wd
open Bool renaming and_eq_false_iff→me,and_eq_true→bq,and_true→mn,eq_iff_iff→jj,false_and→ec,false_eq_true→iq,false_or→mm,not_eq_false'→tu,not_eq_true'→iz,not_false→sw,not_not→ut,of_not_eq_false→ta,or_eq_false_iff→ml,or_eq_true→fl,true_and→dq,true_or→qy
open ByteArray renaming empty→cc,mk→iu,size→cr,toList→ex
open ByteArray.toList renaming loop→pc
open Go.IntKind renaming bits→bh,signed→oj,wrap→ba
open Go.Utf8 renaming decode→gj,encode→gi,valid→kr
open Int renaming add_mul→vo,add_zero→yi,fdiv→bw,le_refl→eo,le_total→uv,le_trans→yh,lt_or_le→nu,max_eq_left→wh,max_eq_right→vf,mul_nonneg→sx,natCast_add→rx,natCast_zero→ix,toNat→bc
open List renaming all_cons→kj,all_eq_true→cn,any_cons→ii,any_eq_true→kk,append_nil→cm,cons_append→db,drop_eq_getElem_cons→ij,drop_eq_nil_of_le→lx,eq_nil_of_length_eq_zero→bx,filter_append→og,filter_cons→fx,filter_eq_nil_iff→ko,filter_eq_self→ir,filter_sublist→nw,flatten_cons→lt,flatten_nil→nt,foldl_cons→fk,foldr_cons→rv,getD→bb,getD_cons_succ→th,getD_cons_zero→lv,getD_eq_getElem?_getD→bu,getElem?_append_left→dk,getElem?_append_right→dd,getElem?_eq_getElem→bj,getElem?_map→fu,getElem_drop→nm,getElem_take→mi,length_drop→cq,length_eq_one_iff→ot,length_filter_le→mc,length_flatten→gm,length_map→du,length_nil→eb,length_pos_iff→mr,length_set→iw,length_singleton→ck,length_take→co,map_cons→dj,map_map→nb,mem_append→cf,mem_cons→bv,mem_filter→ef,mem_iff_getElem→lb,mem_map→cj,mem_singleton→df,nil_append→cd,nodup_cons→dy,not_mem_nil→gu,pairwise_append→ej,pairwise_cons→dz,pairwise_filter→pn,pairwise_iff_getElem→fw,pairwise_map→ku,pairwise_singleton→kf,perm_append_singleton→qa,perm_middle→qw,replicate→bn,reverse_perm→ur,set_append_right→jz,set_cons_zero→pv,singleton_append→jD,take→cu,takeWhile_cons→jv,take_append_drop→dm,take_append_of_le_length→pm,take_length→my
open List.Pairwise renaming imp_of_mem→xr,nil→iy
open List.Perm renaming append_left→sc,refl→kx
open List.cons renaming injEq→ia
open Nat renaming add_sub_cancel→ky,eq_zero_or_pos→ki,le_refl→bp,lt_or_ge→gw,sub_self→nf,zero_add→ew
open Option renaming getD_some→gt,isSome_some→nj,map_some→fy
open Option.some renaming inj→fg
open Sum renaming elim_inl→rk,elim_inr→gq
open UInt8 renaming ofNat→cw
namespace Go.Pal
open Go
set_option linter.unusedVariables false
set_option linter.unusedSimpArgs false
set_option linter.unnecessarySimpa false
abbrev Atm:=ByteArray×Int×Int×Int×List (Int×Int)
abbrev zA:Atm:=(cc,((0:Int),(0:Int),(0:Int),([]:List (Int×Int))))
abbrev Chg:=Int×Int×ByteArray
abbrev zC:Chg:=((0:Int),((0:Int),cc))
abbrev Eng:=List Atm×List (List Int)×Int×List Int×List Int
abbrev QO:Kd:=.pair (.int .i64) (.pair (.int .i64) .str)
abbrev El:=Int×Int×ByteArray
abbrev el0:El:=((0:Int),((0:Int),cc))
abbrev Sp:=Int×Int×Int
abbrev sp0:Sp:=((0:Int),((0:Int),(0:Int)))
abbrev Rg:=Int×Int
abbrev rg0:Rg:=((0:Int),(0:Int))
abbrev Ce:=Int×Int
abbrev Acv:=Int×Int×Int×Int×List Chg×List Int×List (Int×Int)×ByteArray×Int×Int×Int
abbrev zAc:Acv:=((0:Int),((0:Int),(0:Int),(0:Int),([]:List Chg),([]:List Int),([]:List (Int×Int)),cc,(0:Int),(0:Int),(0:Int)))
abbrev kAc:Kd:=.pair (.int .i64) (.pair (.int .i64) (.pair (.int .i64) (.pair (.int .i64) (.pair (.slice QO) (.pair (.slice (.int .i64)) (.pair (.slice (.pair (.int .i64) (.int .i64))) (.pair .str (.pair (.int .i64) (.pair (.int .i64) (.int .i64))))))))))
variable {n b x a e f v p rev w f' grp to r' kd y z q:Int}
variable {j K i m h:Nat}
variable {s t:ByteArray}
variable {u o g gs u':List Int}
variable {l old:List Atm}
variable {us U:List (List Int)}
variable {c:List Chg}
variable {d:List El}
variable {A X B P Q D sp:List Sp}
variable {ps:List ByteArray}
variable {sel rg:List Rg}
variable {R:Option (Option tH)}
theorem w64 (h1: -9223372036854775808<=n:=by omega) (h2:n<9223372036854775808:=by omega):ba .i64 n=n:=by simp only[ba,bh,oj];simp;omega
theorem A0 {α:Type} {l:List α} {g:α} {r:List α} (h:l.drop j=g::r) (d:α):j<l.length/\l.getD j d=g/\l.drop (j+1)=r:=by
 have hj:j<l.length:=by
  rcases gw j l.length with h'|h';·exact h'
  ·rw[lx h'] at h;cases h
 rw[ij hj] at h;obtain⟨h1,h2⟩:=List.cons.inj h;exact⟨hj,by simp[bb,hj,h1],h2⟩
theorem A1 {α:Type} {l:List α} (h:l.drop j=[]):l.length<=j:=List.drop_eq_nil_iff.1 h
theorem D3 {P:Int->Prop} (h:∀m:Fin 256,P ((m.val:Nat):Int)) {c:Int} (h0:0<=c) (h1:c<=255):P c:=by have:=h ⟨c.toNat,by omega⟩;simpa[Int.toNat_of_nonneg h0] using this
theorem AU {i:Int}:0<=bt s i/\bt s i<=255:=by unfold bt;have:=(s[i.toNat]?.getD 0).toNat_lt;omega
def A3 (b:Int):Prop:=128<=b/\b<192
instance (b:Int):Decidable (A3 b):=inferInstanceAs (Decidable (_/\_))
theorem HN (h0:0<=b) (h1:b<=255):(ba .u8 (bz (bi (bh .u8) b&&&bi (bh .u8) (192:Int))) !=(128:Int))=!decide (A3 b):=
 D3 (P:=λb=>(ba .u8 (bz (bi (bh .u8) b&&&bi (bh .u8) (192:Int))) !=(128:Int))=!decide (A3 b)) (by decide +kernel) h0 h1
theorem kA (h0:0<=b) (h1:b<=255):ba .u8 (bz (bi (bh .u8) b&&& ~~~bi (bh .u8) (192:Int)))=b%64:=
 D3 (P:=λb=>ba .u8 (bz (bi (bh .u8) b&&& ~~~bi (bh .u8) (192:Int)))=b%64) (by decide +kernel) h0 h1
theorem k9 (h0:0<=b) (h1:b<=255):ba .u8 (bz (bi (bh .u8) b&&& ~~~bi (bh .u8) (128:Int)))=b%128:=
 D3 (P:=λb=>ba .u8 (bz (bi (bh .u8) b&&& ~~~bi (bh .u8) (128:Int)))=b%128) (by decide +kernel) h0 h1
theorem kB (h0:0<=b) (h1:b<=255):ba .u8 (bz (bi (bh .u8) b&&& ~~~bi (bh .u8) (224:Int)))=b%32:=
 D3 (P:=λb=>ba .u8 (bz (bi (bh .u8) b&&& ~~~bi (bh .u8) (224:Int)))=b%32) (by decide +kernel) h0 h1
theorem kC (h0:0<=b) (h1:b<=255):ba .u8 (bz (bi (bh .u8) b&&& ~~~bi (bh .u8) (240:Int)))=b%16:=
 D3 (P:=λb=>ba .u8 (bz (bi (bh .u8) b&&& ~~~bi (bh .u8) (240:Int)))=b%16) (by decide +kernel) h0 h1
theorem kD (h0:0<=b) (h1:b<=255):ba .u8 (bz (bi (bh .u8) b&&& ~~~bi (bh .u8) (248:Int)))=b%8:=
 D3 (P:=λb=>ba .u8 (bz (bi (bh .u8) b&&& ~~~bi (bh .u8) (248:Int)))=b%8) (by decide +kernel) h0 h1
theorem iK (h0:0<=b) (h1:b<=255):(ba .u8 (bz (bi (bh .u8) b&&&bi (bh .u8) (128:Int)))==(0:Int))=decide (b<128):=
 D3 (P:=λb=>(ba .u8 (bz (bi (bh .u8) b&&&bi (bh .u8) (128:Int)))==(0:Int))=decide (b<128)) (by decide +kernel) h0 h1
theorem iL (h0:0<=b) (h1:b<=255):(ba .u8 (bz (bi (bh .u8) b&&&bi (bh .u8) (224:Int)))==(192:Int))=decide (192<=b/\b<224):=
 D3 (P:=λb=>(ba .u8 (bz (bi (bh .u8) b&&&bi (bh .u8) (224:Int)))==(192:Int))=decide (192<=b/\b<224)) (by decide +kernel) h0 h1
theorem iM (h0:0<=b) (h1:b<=255):(ba .u8 (bz (bi (bh .u8) b&&&bi (bh .u8) (240:Int)))==(224:Int))=decide (224<=b/\b<240):=
 D3 (P:=λb=>(ba .u8 (bz (bi (bh .u8) b&&&bi (bh .u8) (240:Int)))==(224:Int))=decide (224<=b/\b<240)) (by decide +kernel) h0 h1
theorem iO (h0:0<=b) (h1:b<=255):(ba .u8 (bz (bi (bh .u8) b&&&bi (bh .u8) (248:Int)))==(240:Int))=decide (240<=b/\b<248):=
 D3 (P:=λb=>(ba .u8 (bz (bi (bh .u8) b&&&bi (bh .u8) (248:Int)))==(240:Int))=decide (240<=b/\b<248)) (by decide +kernel) h0 h1
theorem cQ (h0:0<=b) (h1:b<=255):ba .i64 (bz (bi (bh .i64) b&&&bi (bh .i64) (63:Int)))=b%64:=
 D3 (P:=λb=>ba .i64 (bz (bi (bh .i64) b&&&bi (bh .i64) (63:Int)))=b%64) (by decide +kernel) h0 h1
theorem cP (h0:0<=b) (h1:b<=255):ba .i64 (bz (bi (bh .i64) b&&&bi (bh .i64) (31:Int)))=b%32:=
 D3 (P:=λb=>ba .i64 (bz (bi (bh .i64) b&&&bi (bh .i64) (31:Int)))=b%32) (by decide +kernel) h0 h1
theorem cO (h0:0<=b) (h1:b<=255):ba .i64 (bz (bi (bh .i64) b&&&bi (bh .i64) (15:Int)))=b%16:=
 D3 (P:=λb=>ba .i64 (bz (bi (bh .i64) b&&&bi (bh .i64) (15:Int)))=b%16) (by decide +kernel) h0 h1
theorem cR (h0:0<=b) (h1:b<=255):ba .i64 (bz (bi (bh .i64) b&&&bi (bh .i64) (7:Int)))=b%8:=
 D3 (P:=λb=>ba .i64 (bz (bi (bh .i64) b&&&bi (bh .i64) (7:Int)))=b%8) (by decide +kernel) h0 h1
theorem MK (h0:0<=b) (h1:b<=255):(bw b 64 !=2)=!decide (A3 b):=
 D3 (P:=λb=>(bw b 64 !=2)=!decide (A3 b)) (by decide +kernel) h0 h1
theorem X2 {r x:Nat} (hx:x<64):(r*64)|||x=r*64+x:=by have:=Nat.two_pow_add_eq_or_of_lt (i:=6) hx r;rw[Nat.mul_comm] at this;exact this.symm
theorem w32 (h1 : -2147483648<=n) (h2:n<2147483648):ba .i32 n=n:=by simp only[ba,bh,oj];simp;omega
theorem kL {r:Int} (h0:0<=r) (h1:r<1048576) (h2:0<=x) (h3:x<64):ba .i32 (bz (bi (bh .i32) (ba .i32 (r*(64:Int)))|||bi (bh .i32) (ba .i32 x)))=r*64+x:=by
 rw[w32 (n:=r*64) (by omega) (by omega),w32 (n:=x) (by omega) (by omega)];obtain⟨a,rfl⟩:∃a:Nat,r=a:=⟨r.toNat,by omega⟩;obtain⟨b,rfl⟩:∃b:Nat,x=b:=⟨x.toNat,by omega⟩;have e1:(bi (bh .i32) ((a:Int)*64)|||bi (bh .i32) (b:Int)).toNat=a*64+b:=by
  rw[wd,oh,oh];have h4:((a:Int)*64%((2 ^ bh .i32:Nat):Int)).toNat=a*64:=by have:bh .i32=32:=rfl;rw[this];omega
  have h5:((b:Int)%((2 ^ bh .i32:Nat):Int)).toNat=b:=by have:bh .i32=32:=rfl;rw[this];omega
  rw[h4,h5,X2 (by omega)]
 rw[e1,w32 (by omega) (by omega)];omega
theorem kM {r:Int} (h0:0<=r) (h1:r<1048576) (h2:0<=x) (h3:x<64):ba .i64 (bz (bi (bh .i64) (ba .i64 (r*(64:Int)))|||bi (bh .i64) x))=r*64+x:=by
 rw[w64 (n:=r*64)];obtain⟨a,rfl⟩:∃a:Nat,r=a:=⟨r.toNat,by omega⟩;obtain⟨b,rfl⟩:∃b:Nat,x=b:=⟨x.toNat,by omega⟩;have e1:(bi (bh .i64) ((a:Int)*64)|||bi (bh .i64) (b:Int)).toNat=a*64+b:=by
  rw[wd,oh,oh];have h4:((a:Int)*64%((2 ^ bh .i64:Nat):Int)).toNat=a*64:=by have:bh .i64=64:=rfl;rw[this];omega
  have h5:((b:Int)%((2 ^ bh .i64:Nat):Int)).toNat=b:=by have:bh .i64=64:=rfl;rw[this];omega
  rw[h4,h5,X2 (by omega)]
 rw[e1,w64];omega
def B6 (n c d e f:Int):Int:=
 if c<128 then 1
 else if 192<=c/\c<224 then (if 2<=n/\A3 d/\128<=c%32*64+d%64 then 2 else 0)
 else if 224<=c/\c<240 then (if 3<=n/\A3 d/\A3 e/\2048<=(c%16*64+d%64)*64+e%64/\¬(55296<=(c%16*64+d%64)*64+e%64/\(c%16*64+d%64)*64+e%64<57344) then 3 else 0)
 else if 240<=c/\c<248 then (if 4<=n/\A3 d/\A3 e/\A3 f/\65536<=((c%8*64+d%64)*64+e%64)*64+f%64/\((c%8*64+d%64)*64+e%64)*64+f%64<=1114111 then 4 else 0)
 else 0
theorem NB {r i:Int} {k:Nat} (h:¬i<n):BC.l0 K n a s (k+1) r i=some (.inr r):=by rw[BC.l0,iN (by simpa using h)]
theorem IV (h0:0<=a) (hs:(s.size:Int)<=1000000000000) {r i:Int} {k:Nat} (h:i<n) (hi:0<=i) (hr:a+i<s.size) (hc:¬A3 (bt s (a+i))):BC.l0 K n a s (k+1) r i=some (.inl (0,0)):=by rw[BC.l0,w64 (n:=a+i),iP (by simpa using h),iP ⟨by omega,by omega⟩,HN AU.1 AU.2,iP (by simpa using hc)]
theorem IW (h0:0<=a) (hs:(s.size:Int)<=1000000000000) {r i:Int} {k:Nat} (h:i<n) (hi:0<=i) (hr:a+i<s.size) (hc:A3 (bt s (a+i))) (r0:0<=r) (r1:r<1048576):BC.l0 K n a s (k+1) r i=BC.l0 K n a s k (r*64+bt s (a+i)%64) (i+1):=by have hb:=AU (s:=s) (i:=a+i);rw[BC.l0,w64 (n:=a+i),iP (by simpa using h),iP ⟨by omega,by omega⟩,HN hb.1 hb.2,iN (by simpa using hc),kA hb.1 hb.2,kL r0 r1 (by omega) (by omega),w64 (n:=i+1)]
theorem JL (h0:0<=a) (hs:(s.size:Int)<=1000000000000) {r i:Int} {k:Nat} (h:i<n) (hi:0<=i) (hr:a+i<s.size) (hc:¬A3 (bt s (a+i))):B9.l0 K n a s (k+1) r i=some (.inl 0):=by have hb:=AU (s:=s) (i:=a+i);rw[B9.l0,w64 (n:=a+i),iP (by simpa using h),iP ⟨by omega,by omega⟩,w64 (n:=bt s (a+i)),MK hb.1 hb.2,iP (by simpa using hc)]
theorem SF {r i:Int} {k:Nat} (h:¬i<n):B9.l0 K n a s (k+1) r i=some (.inr r):=by rw[B9.l0,iN (by simpa using h)]
theorem JM (h0:0<=a) (hs:(s.size:Int)<=1000000000000) {r i:Int} {k:Nat} (h:i<n) (hi:0<=i) (hr:a+i<s.size) (hc:A3 (bt s (a+i))) (r0:0<=r) (r1:r<1048576):B9.l0 K n a s (k+1) r i=B9.l0 K n a s k (r*64+bt s (a+i)%64) (i+1):=by have hb:=AU (s:=s) (i:=a+i);rw[B9.l0,w64 (n:=a+i),iP (by simpa using h),iP ⟨by omega,by omega⟩,w64 (n:=bt s (a+i)),MK hb.1 hb.2,iN (by simpa using hc),cQ hb.1 hb.2,kM r0 r1 (by omega) (by omega),w64 (n:=i+1)]
def usz (s:ByteArray) (a:Int):Int:=if a<0\/a>=s.size then 0 else B6 (s.size-a) (bt s a) (bt s (a+1)) (bt s (a+2)) (bt s (a+3))
theorem rT {c d:Int} (hn:1<=n):0<=B6 n c d e f/\B6 n c d e f<=4/\B6 n c d e f<=n:=by
 unfold B6;split;·omega
 ·split;·split<;>omega
  ·split;·split<;>omega
   ·split;·split<;>omega
    ·omega
theorem CK:0<=usz s a/\usz s a<=4/\(0<=a->a<s.size->a+usz s a<=s.size):=by
 unfold usz;split;·rename_i h;exact⟨by omega,by omega,λh1 h2=>by omega⟩
 ·have:=rT (n:=s.size-a) (c:=bt s a) (d:=bt s (a+1)) (e:=bt s (a+2)) (f:=bt s (a+3)) (by omega);exact⟨by omega,by omega,λh1 h2=>by omega⟩
theorem mK {r:Int} (h0:0<=r):IA K r=some (decide (r<=1114111/\¬(55296<=r/\r<57344))):=by
 unfold IA;rw[iP (by simpa using h0)];by_cases h1:r<=1114111
 ·rw[iP (by simpa using h1)];by_cases h2:r<55296
  ·rw[iP (by simpa using h2)];congr 1;symm;simp;omega
  ·rw[iN (by simpa using h2)];congr 1;by_cases h3:r>57343;·simp[h3];omega
   ·simp[h3];omega
 ·rw[iN (by simpa using h1)];congr 1;symm;simp;omega
def EP (n v least:Int):Int×Int:=if least<=v/\v<=1114111/\¬(55296<=v/\v<57344) then (v,n) else (0,0)
theorem NC {least:Int} (h0:0<=v):((if decide (v<least)=true then some true else (IA K v).bind λr_28=>some (!r_28)).bind λz_39=>if z_39=true then some ((0:Int),(0:Int)) else some (v,n))=some (EP n v least):=by
 unfold EP;rw[mK h0];by_cases h1:v<least;·rw[iP (by simpa using h1),oB,iP rfl,tz]
 ·rw[iN (by simpa using h1),oB,oB];by_cases h2:v<=1114111/\¬(55296<=v/\v<57344);·rw[tt,tw]
  ·rw[tq,tz]
theorem iZ (hK:10<=K) (h0:0<=a) (hs:(s.size:Int)<=1000000000000) (ha:a<s.size) (hc:bt s a<128):BC K s a 1 128 0 0=some (bt s a,1):=by obtain⟨k,rfl⟩:∃k,K=k+5:=⟨K-5,by omega⟩;have hb:=AU (s:=s) (i:=a);unfold BC;rw[w64,tt,iP ⟨h0,ha⟩,k9 hb.1 hb.2,w32 (by omega) (by omega),NB (by omega),oB];simp only[gq];rw[NC (by omega)];unfold EP;rw[tw];congr 2;omega
theorem j0 (hK:10<=K) (h0:0<=a) (hs:(s.size:Int)<=1000000000000) (ha:a<s.size):BC K s a 2 224 192 128 =
 some (if 2<=(s.size:Int)-a/\A3 (bt s (a+1)) then EP 2 (bt s a%32*64+bt s (a+1)%64) 128 else (0,0)):=by
 obtain⟨k,rfl⟩:∃k,K=k+5:=⟨K-5,by omega⟩;have hb:=AU (s:=s) (i:=a);have hb1:=AU (s:=s) (i:=a+1);unfold BC;rw[w64];by_cases hn:(s.size:Int)-a<2;·rw[iP (by simpa using hn),tz]
 ·rw[iN (by simpa using hn),iP ⟨h0,ha⟩,kB hb.1 hb.2,w32 (by omega) (by omega)];by_cases c1:A3 (bt s (a+1))
  ·rw[IW h0 hs (by omega) (by omega) (by omega) c1 (by omega) (by omega),NB (by omega),oB];simp only[gq];rw[NC (by omega),iP ⟨by omega,c1⟩]
  ·rw[IV h0 hs (by omega) (by omega) (by omega) c1,oB,iN (λh=>c1 h.2)];rfl
theorem j3 (hK:10<=K) (h0:0<=a) (hs:(s.size:Int)<=1000000000000) (ha:a<s.size):BC K s a 3 240 224 2048 =
 some (if 3<=(s.size:Int)-a/\A3 (bt s (a+1))/\A3 (bt s (a+2)) then EP 3 ((bt s a%16*64+bt s (a+1)%64)*64+bt s (a+2)%64) 2048 else (0,0)):=by
 obtain⟨k,rfl⟩:∃k,K=k+5:=⟨K-5,by omega⟩;have hb:=AU (s:=s) (i:=a);have hb1:=AU (s:=s) (i:=a+1);have hb2:=AU (s:=s) (i:=a+2);unfold BC;rw[w64];by_cases hn:(s.size:Int)-a<3;·rw[iP (by simpa using hn),tz]
 ·rw[iN (by simpa using hn),iP ⟨h0,ha⟩,kC hb.1 hb.2,w32 (by omega) (by omega)];by_cases c1:A3 (bt s (a+1))
  ·rw[IW h0 hs (by omega) (by omega) (by omega) c1 (by omega) (by omega)];by_cases c2:A3 (bt s (a+2))
   ·rw[show (1:Int)+1=2 from rfl,IW h0 hs (by omega) (by omega) (by omega) c2 (by omega) (by omega),NB (by omega),oB];simp only[gq];rw[NC (by omega),iP ⟨by omega,c1,c2⟩]
   ·rw[show (1:Int)+1=2 from rfl,IV h0 hs (by omega) (by omega) (by omega) c2,oB,iN (λh=>c2 h.2.2)];rfl
  ·rw[IV h0 hs (by omega) (by omega) (by omega) c1,oB,iN (λh=>c1 h.2.1)];rfl
theorem j4 {k:Nat} (h0:0<=a) (hs:(s.size:Int)<=1000000000000) (hn:¬(s.size:Int)-a<4):BC.l0 K 4 a s (k+4) (bt s a%8) 1 =
 some (if A3 (bt s (a+1))/\A3 (bt s (a+2))/\A3 (bt s (a+3)) then .inr (((bt s a%8*64+bt s (a+1)%64)*64+bt s (a+2)%64)*64+bt s (a+3)%64) else .inl (0,0)):=by
 have hb:=AU (s:=s) (i:=a);have hb1:=AU (s:=s) (i:=a+1);have hb2:=AU (s:=s) (i:=a+2);have hb3:=AU (s:=s) (i:=a+3);have r1:0<=bt s a%8/\bt s a%8<8:=by omega
 have r2:0<=bt s (a+1)%64/\bt s (a+1)%64<64:=by omega
 have r3:0<=bt s (a+2)%64/\bt s (a+2)%64<64:=by omega
 by_cases c1:A3 (bt s (a+1))
 ·have g1:=IW (K:=K) h0 hs (n:=4) (r:=bt s a%8) (i:=1) (k:=k+3) (by omega) (by omega) (by omega) c1 (by omega) (by omega);rw[g1,show (1:Int)+1=2 from rfl];by_cases c2:A3 (bt s (a+2))
  ·have g2:=IW (K:=K) h0 hs (n:=4) (r:=bt s a%8*64+bt s (a+1)%64) (i:=2) (k:=k+2) (by omega) (by omega) (by omega) c2 (by omega) (by omega);rw[g2,show (2:Int)+1=3 from rfl];by_cases c3:A3 (bt s (a+3))
   ·have g3:=IW (K:=K) h0 hs (n:=4) (r:=(bt s a%8*64+bt s (a+1)%64)*64+bt s (a+2)%64) (i:=3) (k:=k+1) (by omega) (by omega) (by omega) c3 (by omega) (by omega);rw[g3,NB (by omega),iP ⟨c1,c2,c3⟩]
   ·have g3:=IV (K:=K) h0 hs (n:=4) (r:=(bt s a%8*64+bt s (a+1)%64)*64+bt s (a+2)%64) (i:=3) (k:=k+1) (by omega) (by omega) (by omega) c3;rw[g3,iN (λh=>c3 h.2.2)]
  ·have g2:=IV (K:=K) h0 hs (n:=4) (r:=bt s a%8*64+bt s (a+1)%64) (i:=2) (k:=k+2) (by omega) (by omega) (by omega) c2;rw[g2,iN (λh=>c2 h.2.1)]
 ·have g1:=IV (K:=K) h0 hs (n:=4) (r:=bt s a%8) (i:=1) (k:=k+3) (by omega) (by omega) (by omega) c1;rw[g1,iN (λh=>c1 h.1)]
theorem j5 {least:Int} (hK:10<=K) (h0:0<=a) (hs:(s.size:Int)<=1000000000000) (ha:a<s.size):BC K s a 4 248 240 least =
 some (if 4<=(s.size:Int)-a/\A3 (bt s (a+1))/\A3 (bt s (a+2))/\A3 (bt s (a+3)) then EP 4 (((bt s a%8*64+bt s (a+1)%64)*64+bt s (a+2)%64)*64+bt s (a+3)%64) least else (0,0)):=by
 obtain⟨k,rfl⟩:∃k,K=k+4:=⟨K-4,by omega⟩;have hb:=AU (s:=s) (i:=a);have r0:0<=bt s a%8/\bt s a%8<8:=by omega
 have r1:0<=bt s (a+1)%64:=by omega
 have r2:0<=bt s (a+2)%64:=by omega
 have r3:0<=bt s (a+3)%64:=by omega
 unfold BC;rw[w64 (n:=(s.size:Int)-a)];by_cases hn:(s.size:Int)-a<4;·rw[iP (by simpa using hn),tz]
 ·rw[iN (by simpa using hn),iP ⟨h0,ha⟩,kD hb.1 hb.2,w32 (n:=bt s a%8) (by omega) (by omega),j4 h0 hs hn];by_cases c:A3 (bt s (a+1))/\A3 (bt s (a+2))/\A3 (bt s (a+3))
  ·rw[iP c,oB,iP ⟨by omega,c⟩];simp only[gq];generalize bt s a%8=x0 at *;generalize bt s (a+1)%64=x1 at *;generalize bt s (a+2)%64=x2 at *;generalize bt s (a+3)%64=x3 at *;rw[NC (by omega)]
  ·rw[iN c,oB,iN (λh=>c h.2)];simp only[rk]
def upt (s:ByteArray) (a:Int):Int×Int:=
 if a<0\/a>=s.size then (0,0)
 else if bt s a<128 then (bt s a,1)
 else if 192<=bt s a/\bt s a<224 then (if 2<=(s.size:Int)-a/\A3 (bt s (a+1)) then EP 2 (bt s a%32*64+bt s (a+1)%64) 128 else (0,0))
 else if 224<=bt s a/\bt s a<240 then (if 3<=(s.size:Int)-a/\A3 (bt s (a+1))/\A3 (bt s (a+2)) then EP 3 ((bt s a%16*64+bt s (a+1)%64)*64+bt s (a+2)%64) 2048 else (0,0))
 else if 240<=bt s a/\bt s a<248 then (if 4<=(s.size:Int)-a/\A3 (bt s (a+1))/\A3 (bt s (a+2))/\A3 (bt s (a+3)) then EP 4 (((bt s a%8*64+bt s (a+1)%64)*64+bt s (a+2)%64)*64+bt s (a+3)%64) 65536 else (0,0))
 else (0,0)
theorem OP {least:Int}:(EP n v least).2=if least<=v/\v<=1114111/\¬(55296<=v/\v<57344) then n else 0:=by unfold EP;split<;>rfl
theorem bV:(upt s a).2=usz s a:=by
 unfold upt usz B6;have hb:=AU (s:=s) (i:=a);have hb1:=AU (s:=s) (i:=a+1);have hb2:=AU (s:=s) (i:=a+2);have hb3:=AU (s:=s) (i:=a+3);by_cases h:a<0\/a>=s.size;·rw[iP h,iP h]
 ·rw[iN h,iN h];by_cases h1:bt s a<128;·rw[iP h1,iP h1]
  ·rw[iN h1,iN h1];by_cases h2:192<=bt s a/\bt s a<224
   ·rw[iP h2,iP h2];by_cases c:2<=(s.size:Int)-a/\A3 (bt s (a+1))
    ·rw[iP c,OP];congr 1;apply propext;constructor;·intro h;exact⟨c.1,c.2,h.1⟩
     ·intro h;exact⟨h.2.2,by omega,by omega⟩
    ·rw[iN c,iN (λh=>c ⟨h.1,h.2.1⟩)]
   ·rw[iN h2,iN h2];by_cases h3:224<=bt s a/\bt s a<240
    ·rw[iP h3,iP h3];by_cases c:3<=(s.size:Int)-a/\A3 (bt s (a+1))/\A3 (bt s (a+2))
     ·rw[iP c,OP];congr 1;apply propext;constructor;·intro h;exact⟨c.1,c.2.1,c.2.2,h.1,h.2.2⟩
      ·intro h;exact⟨h.2.2.2.1,by omega,h.2.2.2.2⟩
     ·rw[iN c,iN (λh=>c ⟨h.1,h.2.1,h.2.2.1⟩)]
    ·rw[iN h3,iN h3];by_cases h4:240<=bt s a/\bt s a<248
     ·rw[iP h4,iP h4];by_cases c:4<=(s.size:Int)-a/\A3 (bt s (a+1))/\A3 (bt s (a+2))/\A3 (bt s (a+3))
      ·rw[iP c,OP];congr 1;apply propext;constructor;·intro h;exact⟨c.1,c.2.1,c.2.2.1,c.2.2.2,h.1,h.2.1⟩
       ·intro h;exact⟨h.2.2.2.2.1,h.2.2.2.2.2,by omega⟩
      ·rw[iN c,iN (λh=>c ⟨h.1,h.2.1,h.2.2.1,h.2.2.2.1⟩)]
     ·rw[iN h4,iN h4]
theorem rO (hK:10<=K) (hs:(s.size:Int)<=1000000000000):FA K s a=some (upt s a):=by
 obtain⟨k,hk⟩:∃k,K=k+5:=⟨K-5,by omega⟩;have hb:=AU (s:=s) (i:=a);unfold FA upt;by_cases h:a<0\/a>=s.size
 ·have:(if decide (a<0)=true then some true else some (decide (a>=((s.size:Nat):Int))))=some true:=by
   by_cases h1:a<0;·rw[iP (by simpa using h1)]
   ·rw[iN (by simpa using h1)];simp;omega
  rw[this,oB,iP rfl,iP h]
 ·have:(if decide (a<0)=true then some true else some (decide (a>=((s.size:Nat):Int))))=some false:=by
   rw[tt];simp;omega
  rw[this,oB,uf,iN h];unfold OT;rw[oB];have hin:0<=a/\a<((s.size:Nat):Int):=⟨by omega,by omega⟩;have hw0:ba .i64 ((0:Int)+1)=1:=by decide
  have hw1:ba .i64 ((1:Int)+1)=2:=by decide
  have hw2:ba .i64 ((2:Int)+1)=3:=by decide
  have hw3:ba .i64 ((3:Int)+1)=4:=by decide
  rw[hk];simp only[FA.l0,iP hin,hw0,hw1,hw2,hw3];simp only[show ((0:Int)).toNat=0 from rfl,show ((1:Int)).toNat=1 from rfl,show ((2:Int)).toNat=2 from rfl,show ((3:Int)).toNat=3 from rfl,lv,th,iK hb.1 hb.2,iL hb.1 hb.2,iM hb.1 hb.2,iO hb.1 hb.2];rw[<-hk];simp only[dE];by_cases h1:bt s a<128;·rw[tw,tw,iP h1,iP h1,iZ hK (by omega) hs (by omega) h1];rfl
  ·rw[tw,tw,iN h1,iN h1,tw,tw];by_cases h2:192<=bt s a/\bt s a<224;·rw[iP h2,iP h2,j0 hK (by omega) hs (by omega)];rfl
   ·rw[iN h2,iN h2,tw,tw];by_cases h3:224<=bt s a/\bt s a<240;·rw[iP h3,iP h3,j3 hK (by omega) hs (by omega)];rfl
    ·rw[iN h3,iN h3,tw,tw];by_cases h4:240<=bt s a/\bt s a<248;·rw[iP h4,iP h4,j5 hK (by omega) hs (by omega)];rfl
     ·rw[iN h4,iN h4,tz]
theorem rP (hK:10<=K) (hs:(s.size:Int)<=1000000000000):M4 K s a=some (usz s a):=by unfold M4;rw[rO hK hs,oB,bV]
theorem pA {least:Int}:((if decide (v<least)=true then some true else if decide (v>1114111)=true then some true else if decide (v>=55296)=true then some (decide (v<57344)) else some false).bind λz_76=>if z_76=true then some (0:Int) else some n)=some (EP n v least).2:=by
 rw[OP];by_cases h1:v<least;·rw[iP (by simpa using h1),oB,iP rfl,tz]
 ·rw[iN (by simpa using h1)];by_cases h2:v>1114111;·rw[iP (by simpa using h2),oB,iP rfl,tz]
  ·rw[iN (by simpa using h2)];by_cases h3:v>=55296
   ·rw[iP (by simpa using h3),oB];by_cases h4:v<57344;·rw[iP (by simpa using h4),tz]
    ·rw[iN (by simpa using h4),tw]
   ·rw[iN (by simpa using h3),oB,uf,tw]
theorem oV {k:Nat} {r:Int} (h0:0<=a) (hs:(s.size:Int)<=1000000000000) (hn:¬(s.size:Int)-a<2) (hr:0<=r/\r<64):B9.l0 K 2 a s (k+4) r 1 =
 some (if A3 (bt s (a+1)) then .inr (r*64+bt s (a+1)%64) else .inl 0):=by
 by_cases c1:A3 (bt s (a+1))
 ·have g1:=JM (K:=K) h0 hs (n:=2) (r:=r) (i:=1) (k:=k+3) (by omega) (by omega) (by omega) c1 (by omega) (by omega);rw[g1,SF (by omega),iP c1]
 ·have g1:=JL (K:=K) h0 hs (n:=2) (r:=r) (i:=1) (k:=k+3) (by omega) (by omega) (by omega) c1;rw[g1,iN c1]
theorem oW {k:Nat} {r:Int} (h0:0<=a) (hs:(s.size:Int)<=1000000000000) (hn:¬(s.size:Int)-a<3) (hr:0<=r/\r<64):B9.l0 K 3 a s (k+4) r 1 =
 some (if A3 (bt s (a+1))/\A3 (bt s (a+2)) then .inr ((r*64+bt s (a+1)%64)*64+bt s (a+2)%64) else .inl 0):=by
 have r2:0<=bt s (a+1)%64/\bt s (a+1)%64<64:=by omega
 by_cases c1:A3 (bt s (a+1))
 ·have g1:=JM (K:=K) h0 hs (n:=3) (r:=r) (i:=1) (k:=k+3) (by omega) (by omega) (by omega) c1 (by omega) (by omega);rw[g1,show (1:Int)+1=2 from rfl];by_cases c2:A3 (bt s (a+2))
  ·have g2:=JM (K:=K) h0 hs (n:=3) (r:=r*64+bt s (a+1)%64) (i:=2) (k:=k+2) (by omega) (by omega) (by omega) c2 (by omega) (by omega);rw[g2,SF (by omega),iP ⟨c1,c2⟩]
  ·have g2:=JL (K:=K) h0 hs (n:=3) (r:=r*64+bt s (a+1)%64) (i:=2) (k:=k+2) (by omega) (by omega) (by omega) c2;rw[g2,iN (λh=>c2 h.2)]
 ·have g1:=JL (K:=K) h0 hs (n:=3) (r:=r) (i:=1) (k:=k+3) (by omega) (by omega) (by omega) c1;rw[g1,iN (λh=>c1 h.1)]
theorem oX {k:Nat} {r:Int} (h0:0<=a) (hs:(s.size:Int)<=1000000000000) (hn:¬(s.size:Int)-a<4) (hr:0<=r/\r<64):B9.l0 K 4 a s (k+4) r 1 =
 some (if A3 (bt s (a+1))/\A3 (bt s (a+2))/\A3 (bt s (a+3)) then .inr (((r*64+bt s (a+1)%64)*64+bt s (a+2)%64)*64+bt s (a+3)%64) else .inl 0):=by
 have r2:0<=bt s (a+1)%64/\bt s (a+1)%64<64:=by omega
 have r3:0<=bt s (a+2)%64/\bt s (a+2)%64<64:=by omega
 by_cases c1:A3 (bt s (a+1))
 ·have g1:=JM (K:=K) h0 hs (n:=4) (r:=r) (i:=1) (k:=k+3) (by omega) (by omega) (by omega) c1 (by omega) (by omega);rw[g1,show (1:Int)+1=2 from rfl];by_cases c2:A3 (bt s (a+2))
  ·have g2:=JM (K:=K) h0 hs (n:=4) (r:=r*64+bt s (a+1)%64) (i:=2) (k:=k+2) (by omega) (by omega) (by omega) c2 (by omega) (by omega);rw[g2,show (2:Int)+1=3 from rfl];by_cases c3:A3 (bt s (a+3))
   ·have g3:=JM (K:=K) h0 hs (n:=4) (r:=(r*64+bt s (a+1)%64)*64+bt s (a+2)%64) (i:=3) (k:=k+1) (by omega) (by omega) (by omega) c3 (by omega) (by omega);rw[g3,SF (by omega),iP ⟨c1,c2,c3⟩]
   ·have g3:=JL (K:=K) h0 hs (n:=4) (r:=(r*64+bt s (a+1)%64)*64+bt s (a+2)%64) (i:=3) (k:=k+1) (by omega) (by omega) (by omega) c3;rw[g3,iN (λh=>c3 h.2.2)]
  ·have g2:=JL (K:=K) h0 hs (n:=4) (r:=r*64+bt s (a+1)%64) (i:=2) (k:=k+2) (by omega) (by omega) (by omega) c2;rw[g2,iN (λh=>c2 h.2.1)]
 ·have g1:=JL (K:=K) h0 hs (n:=4) (r:=r) (i:=1) (k:=k+3) (by omega) (by omega) (by omega) c1;rw[g1,iN (λh=>c1 h.1)]
theorem SG {r least:Int} {C:Prop} [Decidable C] (hw:ba .i64 ((s.size:Int)-a)=(s.size:Int)-a) (hg:¬(s.size:Int)-a<n->B9.l0 K n a s K r 1=some (if C then .inr v else .inl 0)) :
 (if decide (ba .i64 ((((cr s):Nat):Int)-a)<n)=true then some (0:Int) else (B9.l0 K n a s K r 1).bind (Sum.elim (λz_74=>some z_74) (λz_75=>(if (decide (z_75<least))=true then some true else if (decide (z_75>(1114111:Int)))=true then some true else if (decide (z_75>=(55296:Int)))=true then some (decide (z_75<(57344:Int))) else some false).bind (λz_76=>if z_76=true then some (0:Int) else some n)))) =
  some (if n<=(s.size:Int)-a/\C then EP n v least else (0,0)).2:=by
 rw[hw];by_cases h:(s.size:Int)-a<n;·rw[iP (by simpa using h),iN (λh'=>by omega)]
 ·rw[iN (by simpa using h),hg h];by_cases c:C
  ·rw[iP c,oB,iP ⟨by omega,c⟩];simp only[gq];rw[pA]
  ·rw[iN c,oB,iN (λh'=>c h'.2)];simp only[rk]
theorem Z6 (hK:10<=K) (hs:(s.size:Int)<=1000000000000):B9 K s a=some (usz s a):=by
 obtain⟨k,hk⟩:∃k,K=k+4:=⟨K-4,by omega⟩;have hb:=AU (s:=s) (i:=a);rw[<-bV];unfold B9 upt;by_cases h:a<0\/a>=s.size
 ·have:(if decide (a<0)=true then some true else some (decide (a>=((s.size:Nat):Int))))=some true:=by
   by_cases h1:a<0;·rw[iP (by simpa using h1)]
   ·rw[iN (by simpa using h1)];simp;omega
  rw[this,oB,iP rfl,iP h]
 ·have:(if decide (a<0)=true then some true else some (decide (a>=((s.size:Nat):Int))))=some false:=by
   rw[tt];simp;omega
  have hw:ba .i64 ((s.size:Int)-a)=(s.size:Int)-a:=w64;have e2:=SG (least:=128) (K:=K) (s:=s) (a:=a) (n:=2) (r:=bt s a%32) hw (λhn=>by rw[hk];exact oV (by omega) hs hn (by omega));have e3:=SG (least:=2048) (K:=K) (s:=s) (a:=a) (n:=3) (r:=bt s a%16) hw (λhn=>by rw[hk];exact oW (by omega) hs hn (by omega));have e4:=SG (least:=65536) (K:=K) (s:=s) (a:=a) (n:=4) (r:=bt s a%8) hw (λhn=>by rw[hk];exact oX (by omega) hs hn (by omega));rw[this,oB,uf,iN h,iP ⟨by omega,by omega⟩,w64 (n:=bt s a),cP hb.1 hb.2,cO hb.1 hb.2,cR hb.1 hb.2];by_cases h1:bt s a<128;·rw[iP (by simpa using h1),iP h1]
  ·rw[iN (by simpa using h1),iN h1];by_cases h2:192<=bt s a/\bt s a<224
   ·rw[tq,oB,tq,oB,iP h2];simp only[gq];exact e2
   ·have c2:(if decide (bt s a>=192)=true then some (decide (bt s a<224)) else some false)=some false:=by
     by_cases g:bt s a>=192;·rw[iP (by simpa using g)];simp;omega
     ·rw[iN (by simpa using g)]
    rw[c2,oB,uf,iN h2];by_cases h3:224<=bt s a/\bt s a<240
    ·rw[tq,oB,tq,oB,iP h3];simp only[gq];exact e3
    ·have c3:(if decide (bt s a>=224)=true then some (decide (bt s a<240)) else some false)=some false:=by
      by_cases g:bt s a>=224;·rw[iP (by simpa using g)];simp;omega
      ·rw[iN (by simpa using g)]
     rw[c3,oB,uf,iN h3];by_cases h4:240<=bt s a/\bt s a<248
     ·rw[tq,oB,tq,oB,iP h4];simp only[gq];exact e4
     ·have c4:(if decide (bt s a>=240)=true then some (decide (bt s a<248)) else some false)=some false:=by
       by_cases g:bt s a>=240;·rw[iP (by simpa using g)];simp;omega
       ·rw[iN (by simpa using g)]
      rw[c4,oB,uf,iN h4,oB];simp only[rk]
def AA (s:ByteArray):Nat->Int->Bool
 |0,_=>true
 |m+1,a=>if a<s.size then (if usz s a=0 then false else AA s m (a+usz s a)) else true
def A4 (s:ByteArray):Bool:=AA s s.size 0
theorem sG (hK:10<=K) (hs:(s.size:Int)<=1000000000000):∀(d k m:Nat) (a:Int),0<=a->(s.size:Int)-a<=d->a<=s.size->d<k->d<=m->BY.l0 K s k a=some (AA s m a):=by
 intro d;induction d with
 | zero =>
   intro k m a h0 h1 h2 hk hm;obtain⟨k,rfl⟩:=ug (k:=k);rw[BY.l0,tt];cases m with
   |zero=>rfl
   |succ m=>rw[AA,tz]
 | succ d ih =>
   intro k m a h0 h1 h2 hk hm;obtain⟨k,rfl⟩:=ug (k:=k);obtain⟨m,rfl⟩:=ug (k:=m);have hu:=CK (s:=s) (a:=a);rw[BY.l0,AA];by_cases h:a<s.size
   ·have hu3:=hu.2.2 h0 h;rw[iP (by simpa using h),iP h,rP hK hs,oB];by_cases hz:usz s a=0;·rw[iP (by simpa using hz),iP hz]
    ·rw[iN (by simpa using hz),iN hz,w64];exact ih k m _ (by omega) (by omega) (by omega) (by omega) (by omega)
   ·rw[iN (by simpa using h),iN h]
theorem M5 (hK:s.size+10<=K) (hs:(s.size:Int)<=1000000000000):BY K s=some (A4 s):=by unfold BY A4;exact sG (by omega) hs s.size K s.size 0 (by omega) (by omega) (by omega) (by omega) (by omega)
theorem oU (hK:10<=K) (hs:(s.size:Int)<=1000000000000):∀(d k m:Nat) (a:Int),0<=a->(s.size:Int)-a<=d->a<=s.size->d<k->d<=m->BW.l0 K s k a=some (AA s m a):=by
 intro d;induction d with
 | zero =>
   intro k m a h0 h1 h2 hk hm;obtain⟨k,rfl⟩:=ug (k:=k);rw[BW.l0,tt];cases m with
   |zero=>rfl
   |succ m=>rw[AA,tz]
 | succ d ih =>
   intro k m a h0 h1 h2 hk hm;obtain⟨k,rfl⟩:=ug (k:=k);obtain⟨m,rfl⟩:=ug (k:=m);have hu:=CK (s:=s) (a:=a);rw[BW.l0,AA];by_cases h:a<s.size
   ·have hu3:=hu.2.2 h0 h;rw[iP (by simpa using h),iP h,Z6 hK hs,oB];by_cases hz:usz s a=0;·rw[iP (by simpa using hz),iP hz]
    ·rw[iN (by simpa using hz),iN hz,w64];exact ih k m _ (by omega) (by omega) (by omega) (by omega) (by omega)
   ·rw[iN (by simpa using h),iN h]
theorem JJ (hK:s.size+10<=K) (hs:(s.size:Int)<=1000000000000):BW K s=some (A4 s):=by unfold BW A4;exact oU (by omega) hs s.size K s.size 0 (by omega) (by omega) (by omega) (by omega) (by omega)
theorem E5 (i:Nat):bt s (i:Int)=((s.get! i).toNat:Int):=by
 unfold bt;rw[tN];by_cases h:i<s.size
 ·rw[getElem?_pos s i h,gt];congr 2;show s.data[i]=s.data[i]!;rw[getElem!_pos s.data i h]
 ·rw[getElem?_neg s i h,Option.getD_none];show ((0:UInt8).toNat:Int)=((s.data[i]!).toNat:Int);rw[getElem!_neg s.data i h];rfl
theorem KM {c:Nat} (hc:c<=1114111/\¬(55296<=c/\c<57344)):(gi (c:Int)).size=if c<128 then 1 else if c<2048 then 2 else if c<65536 then 3 else 4:=by
 have hv:kr (c:Int)=true:=by unfold kr;simp only[fl,bq,dE];omega
 unfold gi;simp only[hv,if_true,tN];by_cases h1:c<128;·rw[iP h1,iP h1];rfl
 ·rw[iN h1,iN h1];by_cases h2:c<2048;·rw[iP h2,iP h2];rfl
  ·rw[iN h2,iN h2];by_cases h3:c<65536;·rw[iP h3,iP h3];rfl
   ·rw[iN h3,iN h3];rfl
theorem VJ:(s.get! i).toNat<256:=(s.get! i).toNat_lt
def dcd (n t b0 b1 b2 b3:Nat):Nat×Nat:=
 if b0<128 then (b0,1)
 else if b0/32==6&&(decide (t+1<n)&&b1/64==2) then
  (if b0%32*64+b1%64>=128 then (b0%32*64+b1%64,2) else (65533,1))
 else if b0/16==14&&(decide (t+1<n)&&b1/64==2)&&(decide (t+2<n)&&b2/64==2) then
  (if decide (b0%16*4096+b1%64*64+b2%64>=2048)&&kr (b0%16*4096+b1%64*64+b2%64:Nat) then (b0%16*4096+b1%64*64+b2%64,3) else (65533,1))
 else if b0/8==30&&(decide (t+1<n)&&b1/64==2)&&(decide (t+2<n)&&b2/64==2)&&(decide (t+3<n)&&b3/64==2) then
  (if decide (b0%8*262144+b1%64*4096+b2%64*64+b3%64>=65536)&&kr (b0%8*262144+b1%64*4096+b2%64*64+b3%64:Nat) then (b0%8*262144+b1%64*4096+b2%64*64+b3%64,4) else (65533,1))
 else (65533,1)
theorem UN {t:Nat}:gj s t=dcd s.size t (s.get! t).toNat (s.get! (t+1)).toNat (s.get! (t+2)).toNat (s.get! (t+3)).toNat:=rfl
theorem eC {n t b0 b1 b2 b3:Nat} (ht:t<n) (h0:b0<256) (hz:B6 ((n:Int)-t) b0 b1 b2 b3≠0) :
 ∃c z:Nat,dcd n t b0 b1 b2 b3=(c,z)/\B6 ((n:Int)-t) b0 b1 b2 b3=z/\(gi (c:Int)).size=z/\(c=10↔b0=10):=by
 unfold B6 A3 at *;unfold dcd;by_cases h1:b0<128
 ·rw[iP h1,iP (show (b0:Int)<128 by omega)];refine⟨b0,1,rfl,rfl,?_,Iff.rfl⟩;rw[KM (by omega),iP h1]
 rw[iN (show ¬(b0:Int)<128 by omega)] at hz ⊢;rw[iN h1];by_cases h2:192<=b0/\b0<224
 ·rw[iP (show (192:Int)<=b0/\(b0:Int)<224 by omega)] at hz ⊢;by_cases c:2<=(n:Int)-t/\((128:Int)<=b1/\(b1:Int)<192)/\(128:Int)<=b0%32*64+b1%64
  ·rw[iP c,tq,tw];refine⟨_,2,rfl,rfl,?_,by omega⟩;rw[KM (by omega),tz,tw]
  ·rw[iN c] at hz;exact(hz rfl).elim
 rw[iN (show ¬((192:Int)<=b0/\(b0:Int)<224) by omega)] at hz ⊢;rw[tt];by_cases h3:224<=b0/\b0<240
 ·rw[iP (show (224:Int)<=b0/\(b0:Int)<240 by omega)] at hz ⊢;by_cases c:3<=(n:Int)-t/\((128:Int)<=b1/\(b1:Int)<192)/\((128:Int)<=b2/\(b2:Int)<192)/\(2048:Int)<=(b0%16*64+b1%64)*64+b2%64/\¬((55296:Int)<=(b0%16*64+b1%64)*64+b2%64/\((b0:Int)%16*64+b1%64)*64+b2%64<57344)
  ·have hc:b0%16*4096+b1%64*64+b2%64<=1114111/\¬(55296<=b0%16*4096+b1%64*64+b2%64/\b0%16*4096+b1%64*64+b2%64<57344):=by omega
   have hv:kr ((b0%16*4096+b1%64*64+b2%64:Nat):Int)=true:=by unfold kr;simp only[fl,bq,dE];omega
   rw[iP c,tq,hv,tq];refine⟨_,3,rfl,rfl,?_,by omega⟩;rw[KM hc,tz,tz,tw]
  ·rw[iN c] at hz;exact(hz rfl).elim
 rw[iN (show ¬((224:Int)<=b0/\(b0:Int)<240) by omega)] at hz ⊢;rw[tt];by_cases h4:240<=b0/\b0<248
 ·rw[iP (show (240:Int)<=b0/\(b0:Int)<248 by omega)] at hz ⊢;by_cases c:4<=(n:Int)-t/\((128:Int)<=b1/\(b1:Int)<192)/\((128:Int)<=b2/\(b2:Int)<192)/\((128:Int)<=b3/\(b3:Int)<192)/\(65536:Int)<=((b0%8*64+b1%64)*64+b2%64)*64+b3%64/\(((b0:Int)%8*64+b1%64)*64+b2%64)*64+b3%64<=1114111
  ·have hc:b0%8*262144+b1%64*4096+b2%64*64+b3%64<=1114111/\¬(55296<=b0%8*262144+b1%64*4096+b2%64*64+b3%64/\b0%8*262144+b1%64*4096+b2%64*64+b3%64<57344):=by omega
   have hv:kr ((b0%8*262144+b1%64*4096+b2%64*64+b3%64:Nat):Int)=true:=by unfold kr;simp only[fl,bq,dE];omega
   rw[iP c,tq,hv,tq];refine⟨_,4,rfl,rfl,?_,by omega⟩;rw[KM hc,tz,tz,tz]
  ·rw[iN c] at hz;exact(hz rfl).elim
 rw[iN (show ¬((240:Int)<=b0/\(b0:Int)<248) by omega)] at hz;exact(hz rfl).elim
theorem KC {t:Nat} (ht:t<s.size) (hz:usz s t≠0) :
 ∃c z:Nat,gj s t=(c,z)/\usz s t=z/\(gi (c:Int)).size=z/\(c=10↔bt s t=10):=by
 unfold usz at *;rw[tz] at hz ⊢;rw[show (t:Int)+1=((t+1:Nat):Int) by omega,show (t:Int)+2=((t+2:Nat):Int) by omega,show (t:Int)+3=((t+3:Nat):Int) by omega,E5,E5,E5,E5] at hz;rw[show (t:Int)+1=((t+1:Nat):Int) by omega,show (t:Int)+2=((t+2:Nat):Int) by omega,show (t:Int)+3=((t+3:Nat):Int) by omega,E5,E5,E5,E5,UN];obtain⟨c,z,h1,h2,h3,h4⟩:=eC ht VJ hz;exact⟨c,z,h1,h2,h3,by rw[h4];omega⟩
def isE (s:ByteArray) (p:Int):Bool:=decide (0<=p/\p<=s.size)&&(A4 s&&(decide (p=s.size)||!decide (A3 (bt s p))))
theorem HI (hK:s.size+10<=K) (hs:s.size<=1000000):CL K s p=some (isE s p):=by
 unfold CL isE;have hb:=AU (s:=s) (i:=p);by_cases h0:0<=p
 ·rw[iP (by simpa using h0)];by_cases h1:p<=s.size
  ·rw[iP (by simpa using h1),decide_eq_true ⟨h0,h1⟩,dq,M5 hK (by omega)];by_cases h2:p=s.size;·rw[iP (by simpa using h2),oB,decide_eq_true h2,qy,mn]
   ·rw[iN (by simpa using h2),HN hb.1 hb.2,decide_eq_false h2,mm,oB];have hr:0<=p/\p<(s.size:Int):=⟨h0,by omega⟩;simp only[iP hr];by_cases hc:A3 (bt s p);·rw[decide_eq_true hc,uf];simp
    ·rw[decide_eq_false hc,iP (by simp)];simp
  ·rw[iN (by simpa using h1),decide_eq_false (by omega),ec]
 ·rw[iN (by simpa using h0),decide_eq_false (by omega),ec]
theorem Q9 (hv:A4 s=true) (h0:0<=p) (h1:p<=s.size) (hc:p=s.size\/¬A3 (bt s p)):isE s p=true:=by
 unfold isE;rw[decide_eq_true ⟨h0,h1⟩,hv,dq,dq];rcases hc with hc|hc;·rw[decide_eq_true hc,qy]
 ·rw[decide_eq_false hc];simp
theorem IS (h:isE s p=true):0<=p/\p<=s.size/\A4 s=true/\(p=s.size\/¬A3 (bt s p)):=by unfold isE at h;simp only[bq,dE,fl,iz,decide_eq_false_iff_not] at h;exact⟨h.1.1,h.1.2,h.2.1,h.2.2⟩
theorem iT (n:Nat):LG (n+40)=some true:=by kernel_rfl
theorem up1 (h:j<1000000:=by omega):ba .i64 ((j:Int)+1)=((j+1:Nat):Int):=by rw[w64];omega
theorem VS {K:Nat} {l:List Int} {v:Int} (hl:l.length<=50000):∀(r:List Int) (j k:Nat),l.drop j=r->r.length<k->∃n,CI.l0 K l v k (j:Int)=some n/\decide (n>=0)=r.contains v
 | [],j,k+1,h,_ => by have:=A1 h;refine⟨-1,?_,rfl⟩;rw[CI.l0,tt]
 | g :: r,j,k+1,h,hk => by
   obtain⟨h1,h2,h3⟩:=A0 h (0:Int);rw[CI.l0,tq,iP ⟨by omega,by omega⟩,tN,h2];by_cases e:v=g;·exact⟨j,by rw[iP (by simpa using e)],by simp[e]⟩
   ·obtain⟨n,h4,h5⟩:=VS hl r (j+1) k h3 (by simpa using hk);refine⟨n,by rw[iN (by simpa using e),up1];exact h4,by rw[h5];simp[e]⟩
theorem IJ {l:List Int} (hK:100000<=K) (hl:l.length<=50000):EL K l v=some (l.contains v):=by obtain⟨n,h1,h2⟩:=VS (K:=K) (v:=v) hl l 0 K rfl (by omega);have h1:CI.l0 K l v K 0=some n:=h1;rw[EL,CI,h1,oB,<-h2]
def holds (g:Int) (u:List Int):Bool:=g==-1||!u.contains g
theorem VQ {g:Int} (hK:100000<=K) (hu:u.length<=50000):IE K g u=some (holds g u):=by rw[IE,IJ hK hu,oB];unfold holds;by_cases h:g=-1<;>simp[h]
def EV (rev:Int) (u:List Int) (c:Int×Int):Bool:=decide (c.1<=rev)&&holds c.2 u
theorem dY {c d:Int} (hK:100000<=K) (hu:u.length<=50000):K6 K c d rev u=some (EV rev u (c,d)):=by rw[K6,VQ hK hu,oB];unfold EV;by_cases h:c<=rev<;>simp[h]
theorem UJ {K:Nat} {l:List (Int×Int)} {u:List Int} {rev:Int} (hK:100000<=K) (hu:u.length<=50000) (hl:l.length<=50000):∀(r:List (Int×Int)) (j k:Nat),l.drop j=r->r.length<k->∃n,F3.l0 K l rev u k (j:Int)=some n/\decide (n>=0)=r.any (EV rev u)
 | [],j,k+1,h,_ => by have:=A1 h;refine⟨-1,?_,rfl⟩;rw[F3.l0,tt]
 | g :: r,j,k+1,h,hk => by
   obtain⟨h1,h2,h3⟩:=A0 h zP;rw[F3.l0,tq,tN,h2,dY hK hu,oB,iP ⟨by omega,by omega⟩];cases e:EV rev u g with
   |true=>exact⟨j,by rw[iP rfl],by simp[e]⟩
   | false =>
     obtain⟨n,h4,h5⟩:=UJ hK hu hl r (j+1) k h3 (by simpa using hk);refine⟨n,by rw[iN (by simp[e]),up1];exact h4,by rw[h5];simp[e]⟩
def vis (rev:Int) (u:List Int) (a:Atm):Bool:=decide (a.2.1<=rev)&&holds a.2.2.1 u&&!a.2.2.2.2.any (EV rev u)
theorem K4 {a:Atm} (hK:100000<=K) (hu:u.length<=50000) (hl:a.2.2.2.2.length<=50000):FM K a.1 a.2.1 a.2.2.1 a.2.2.2.1 a.2.2.2.2 rev u=some (vis rev u a):=by
 obtain⟨n,h1,h2⟩:=UJ (rev:=rev) hK hu hl a.2.2.2.2 0 K rfl (by omega);rw[FM,VQ hK hu,OI,F3,show (0:Int)=((0:Nat):Int) from rfl,h1];simp only[oB];unfold vis;rw[<-h2];by_cases h:a.2.1<=rev
 ·have:¬a.2.1>rev:=by omega
  cases hh:holds a.2.2.1 u<;>simp[h,this]
 ·have:a.2.1>rev:=by omega
  simp[h,this]
def Aok (l:List Atm):Prop:=l.length<=20000/\∀a∈l,a.1.size<=10/\a.2.2.2.2.length<=1000
theorem Aok.tl {a:Atm} (h:Aok (a::l)):Aok l:=⟨by have:=h.1;simp at this;omega,λb hb=>h.2 b (mC _ hb)⟩
theorem CB:(tR s).length=s.size:=by simp[tR]
def vtx (rev:Int) (u:List Int):List Atm->List Int
 |[]=>[]
 |a::l=>if vis rev u a then tR a.1++vtx rev u l else vtx rev u l
theorem T0 {K:Nat} {l:List Atm} {u:List Int} {rev:Int} (hK:100000<=K) (hu:u.length<=50000) (hl:Aok l):∀(r:List Atm) (j k:Nat) (x:List Int),l.drop j=r->r.length<k->x.length+10*r.length<=1000000->
 CA.l0 K l rev u k x (j:Int)=some (x++vtx rev u r)
 | [],j,k+1,x,h,_,_ => by have:=A1 h;rw[CA.l0,tt];simp[vtx]
 | g :: r,j,k+1,x,h,hk,hx => by
   obtain⟨h1,h2,h3⟩:=A0 h zA;have hlen:=hl.1;have hg:=hl.2 g (mdr h);simp only[lC] at hx;rw[CA.l0,tq,iP ⟨by omega,by omega⟩,tN,h2,K4 hK hu (by omega),oB,up1];cases hv:vis rev u g with
   | true =>
     rw[iP rfl,JV,M0,oB,iP (by rw[CB];omega),oB,T0 hK hu hl r (j+1) k _ h3 (by simpa using hk) (by simp[CB];omega)];simp[vtx,hv]
   | false =>
     rw[uf,T0 hK hu hl r (j+1) k _ h3 (by simpa using hk) (by omega)];simp[vtx,hv]
theorem VV:inB (tR s)=true:=by unfold inB tR;rw[cn];intro x hx;obtain⟨b,_,rfl⟩:=cj.1 hx;have:=b.toNat_lt;simp;omega
theorem VU {x y:List Int}:inB (x++y)=(inB x&&inB y):=by simp[inB]
theorem Q5 {rev:Int} {u:List Int}:∀{l:List Atm},inB (vtx rev u l)=true
 |[]=>rfl
 | a :: l => by
   simp only[vtx];split;·rw[VU,VV,Q5];rfl
   ·exact Q5
theorem OQ (hK:100000<=K) (hu:u.length<=50000) (hl:Aok l):CA K l rev u=some (tP (vtx rev u l)):=by have hlen:=hl.1;rw[CA,show (0:Int)=((0:Nat):Int) from rfl,T0 hK hu hl l 0 K [] rfl (by omega) (by simp;omega),oB,cd,JU,iP Q5,oB]
def plc (rev:Int) (u:List Int):Int->List Atm->List Int
 |p,[]=>[p]
 |p,a::l=>p::plc rev u (if vis rev u a then p+a.1.size else p) l
theorem LH {rev:Int} {u:List Int}:∀{l:List Atm} {p:Int},(plc rev u p l).length=l.length+1
 |[],_=>rfl
 |a::l,p=>by simp[plc,LH]
theorem RJ {K:Nat} {l:List Atm} {u:List Int} {rev:Int} (hK:100000<=K) (hu:u.length<=50000) (hl:Aok l):∀(r:List Atm) (j k:Nat) (x:List Int) (p:Int),l.drop j=r->r.length<k->x.length+r.length<=1000000->0<=p->p+10*r.length<=1000000->
 D2.l0 K l rev u k x p (j:Int)=some (x++plc rev u p r)
 | [],j,k+1,x,p,h,_,hx,_,_ => by have:=A1 h;rw[D2.l0,tt,iP (by simp at hx ⊢;omega)];simp[plc]
 | g :: r,j,k+1,x,p,h,hk,hx,h0,hp => by
   obtain⟨h1,h2,h3⟩:=A0 h zA;have hlen:=hl.1;have hg:=hl.2 g (mdr h);simp only[lC] at hx hp;rw[D2.l0,tq,iP ⟨by omega,by omega,by simp;omega⟩,tN,h2,K4 hK hu (by omega),oB,up1];cases hv:vis rev u g with
   | true =>
     rw[iP rfl,w64,RJ hK hu hl r (j+1) k _ _ h3 (by simpa using hk) (by simp;omega) (by omega) (by omega)];simp[plc,hv]
   | false =>
     rw[uf,RJ hK hu hl r (j+1) k _ _ h3 (by simpa using hk) (by simp;omega) (by omega) (by omega)];simp[plc,hv]
theorem XE (hK:100000<=K) (hu:u.length<=50000) (hl:Aok l):D2 K l rev u=some (plc rev u 0 l):=by have hlen:=hl.1;rw[D2,w64,iP ⟨by omega,by omega,by omega⟩];have:=RJ (rev:=rev) hK hu hl l 0 K [] 0 rfl (by omega) (by simp;omega) (by omega) (by omega);simpa using this
theorem U7 {c:List (Int×Int)} (h:c.length<=1000):GJ K c=some c:=by rw[GJ,tq,cd]
theorem oZ:uZ l j (l.getD j zA).2.2.2.2=l:=by
 unfold uZ;rcases gw j l.length with h|h
 ·rw[bu,bj h,gt];exact List.set_getElem_self h
 ·exact List.set_eq_of_length_le h
theorem I4 {α:Type} {xs ys:List α} (h:ys.length=xs.length):tU xs ys 0=ys:=by simp[tU,h]
theorem UC {K:Nat} {l:List Atm} (hK:100000<=K) (hl:Aok l):∀(d j k:Nat),j+d=l.length->d<k->CO.l0 K l k j l (j:Int)=some l
 | 0,j,k+1,h,_ => by rw[CO.l0,I4 (by simp),tt,tw]
 | d+1,j,k+1,h,hk => by
   have hlen:=hl.1;have hj:j<l.length:=by omega
   have hg:=hl.2 (l.getD j zA) (by rw[bu,bj hj];simp);rw[CO.l0,I4 (by simp),tq,tN,U7 hg.2,oB,iP ⟨by omega,by omega,by omega,rfl⟩,up1,oZ];exact UC hK hl d (j+1) k (by omega) (by omega)
theorem MG (hK:100000<=K) (hl:Aok l):CO K l=some l:=by have hlen:=hl.1;rw[CO,iP ⟨by omega,by omega,by omega,by omega⟩,I4 (by simp)];have:=UC hK hl l.length 0 K (by omega) (by omega);simpa using this
theorem dQ (hK:100000<=K):G3 K=some []:=by obtain⟨k,rfl⟩:∃k,K=k+1:=⟨K-1,by omega⟩;rfl
theorem dR (hK:100000<=K):G4 K=some []:=by obtain⟨k,rfl⟩:∃k,K=k+1:=⟨K-1,by omega⟩;rfl
structure Rok (us:List (List Int)) (f:Int) (g o:List Int):Prop where
 ne:0<us.length
 len:us.length<=1000
 lo:0<=f
 hi:f<=1000
 u:∀u∈us,u.length<=100
 g:g.length<=100
 o:o.length<=100
def hdR (us:List (List Int)) (f:Int):Int:=f+us.length-1
def lvR (us:List (List Int)) (f r:Int):Bool:=decide (f<=r)&&decide (r<=hdR us f)
def unR (us:List (List Int)) (f r:Int):List Int:=if lvR us f r=true then us.getD (r-f).toNat [] else []
def lsR (us:List (List Int)):List Int:=us.getD (us.length-1) []
theorem HY {α:Type} {l:List α} {d:α} (h:i<l.length):l.getD i d∈l:=by rw[bu,bj h];simp
theorem F9 (h:Rok us f g o) {r:Int}:(unR us f r).length<=100:=by
 unfold unR;split
 ·rename_i hl;simp only[lvR,bq,dE] at hl;unfold hdR at hl;have hi:(r-f).toNat<us.length:=by omega
  exact h.u _ (HY hi)
 ·simp
theorem KW (h:Rok us f g o):(lsR us).length<=100:=by
 have:=h.ne;have hi:us.length-1<us.length:=by omega
 exact h.u _ (HY hi)
theorem KT (h:Rok us f g o):FI K us f g o=some (hdR us f):=by have:=h.len;have:=h.lo;have:=h.hi;have:=h.ne;rw[FI,w64 (n:=f+_),w64];rfl
theorem NA (h:Rok us f g o) {r:Int}:JC K us f g o r=some (lvR us f r):=by
 rw[JC,KT h,oB];unfold lvR;by_cases h1:f<=r;·rw[iP (by simpa using h1)];simp[h1]
 ·rw[iN (by simpa using h1)];simp[h1]
theorem q8 (hi:i<us.length) (hu:(us.getD i []).length<=1000):LS K us i=some (us.getD i []):=by rw[LS,iP ⟨hi,by omega,by omega,by omega,by omega⟩,QW,iP hi,oB,SI,iP ⟨hi,by omega⟩,oB];congr 1;generalize us.getD i []=x;rw[show (bn (bc ((x.length:Nat):Int)) (0:Int)).length=x.length by simp,my];exact I4 (by simp)
theorem M3 (h:Rok us f g o) {r:Int}:JD K us f g o r=some (unR us f r):=by
 rw[JD,NA h,oB];unfold unR;cases hl:lvR us f r with
 |false=>rfl
 | true =>
   simp only[lvR,bq,dE] at hl;unfold hdR at hl;have:=h.len;have:=h.lo;have:=h.hi;have hi:(r-f).toNat<us.length:=by omega
   have:=h.u _ (HY (d:=[]) hi);rw[uf,w64 (n:=r-f),q8 hi (by omega),oB,iP ⟨by omega,by omega⟩,iP rfl]
theorem Y2 {K:Nat} {us:List (List Int)} {g o:List Int} (h:us.length<=1000):∀(r:List (List Int)) (j k:Nat) (x:List (List Int)),us.drop j=r->r.length<k->x.length+r.length<=10000->EJ.l0 K us g o k x (j:Int)=some (x++r,g,o)
 | [],j,k+1,x,e,_,_ => by have:=A1 e;rw[EJ.l0,tt];simp
 | a :: r,j,k+1,x,e,hk,hx => by obtain⟨h1,h2,h3⟩:=A0 e [];simp only[lC] at hx;rw[EJ.l0,tq,iP ⟨by omega,by omega⟩,tN,I0,iP h1,oB,tw,up1,h2,Y2 h r (j+1) k _ h3 (by simpa using hk) (by simp;omega)];simp
theorem n8 (hK:100000<=K) (h:Rok us f g o):EJ K us f g o=some (us,g,o):=by have:=h.len;rw[EJ,KX,KX,oB,oB];have:=Y2 (K:=K) (g:=g) (o:=o) h.len us 0 K [] rfl (by omega) (by simp;omega);simpa using this
theorem WT (h:Rok us f g o):HE K us f g o=if 200<=hdR us f then some () else none:=by
 have:=h.len;have:=h.ne;rw[HE,KT h,oB];by_cases hh:200<=hdR us f;·rw[iP (by simpa using hh),iP hh]
 ·rw[iN (by simpa using hh),iN hh,w64,I0,tw,oB];repeat' split
  all_goals rfl
theorem WU (h:Rok us f g o) (hh:¬200<=hdR us f):JF K us f g o=some (lsR us,us):=by have:=h.len;have:=h.ne;rw[JF,KT h,oB,iN (by simpa using hh),w64,I0,tw,oB,iP ⟨by omega,by omega⟩,tw];unfold lsR;rw[show bc ((us.length:Int)-1)=us.length-1 by omega]
def adR (us:List (List Int)) (f:Int) (g o:List Int) (x:Int):Int×Int×List (List Int)×List Int:=
 if o.contains x=true\/x<0\/60<=x then (0,210,us,g) else if 200<=hdR us f then (0,70,us,g) else (hdR us f+1,0,us++[lsR us],tZ x g)
theorem cN (h:Rok us f g o):LQ K us f g o x=some (adR us f g o x):=by
 have:=h.len;have:=h.lo;have:=h.hi;rw[LQ];unfold adR;by_cases hx:o.contains x=true\/x<0\/60<=x
 ·have:(if o.contains x=true then some true else if decide (x<0)=true then some true else some (decide (x>=60)))=some true:=by
   rcases hx with h|h|h;·rw[iP h]
   ·split<;>simp[h]
   ·split;·rfl
    ·split;·rfl
     ·simpa using h
  rw[this,oB,iP rfl,iP hx]
 ·have:(if o.contains x=true then some true else if decide (x<0)=true then some true else some (decide (x>=60)))=some false:=by
   rw[iN (λh=>hx (.inl h)),iN (λh=>hx (.inr (.inl (by simpa using h))))];simp;omega
  rw[this,oB,uf,iN hx,WT h];by_cases hh:200<=hdR us f;·rw[iP hh,nj,iP rfl,oB,iP hh]
  ·rw[iN hh,uf,iN hh,WU h hh,oB,iP ⟨by omega,by omega⟩,OC,oB];dsimp only;rw[w64 (n:=f+_),w64];unfold hdR;congr 2;omega
def tgS (x:Int) (l:List Int):List Int:=if l.contains x=true then uQ x l else tZ x l
def tgR (us:List (List Int)) (f:Int) (g:List Int) (x:Int):Int×Int×List (List Int):=
 if g.contains x=true then if 200<=hdR us f then (0,70,us) else (hdR us f+1,0,us++[tgS x (lsR us)]) else (0,210,us)
theorem qX (h:Rok us f g o) (hg:∀x∈g,0<=x/\x<60):LR K us f g o x=some (tgR us f g x):=by
 have:=h.len;have:=h.lo;have:=h.hi;rw[LR,JE,oB];unfold tgR;cases hx:g.contains x with
 |false=>rfl
 | true =>
   have hxg:=hg x (by simpa using hx);rw[uf,iP rfl,WT h];by_cases hh:200<=hdR us f;·rw[iP hh,nj,iP rfl,oB,iP hh]
   ·rw[iN hh,uf,iN hh,WU h hh,oB];have key:∀z,(if (lsR us).contains x=true then some (us++[uQ x (lsR us)]) else if (-9223372036854775808:Int)<=x/\x<=9223372036854775807 then some (us++[tZ x (lsR us)]) else none)=some z->z=us++[tgS x (lsR us)]:=by
     intro z hz;unfold tgS;split at hz;·rename_i hc;rw[iP hc];exact(fg hz).symm
     ·rename_i hc;rw[iN hc];split at hz;·exact(fg hz).symm
      ·cases hz
    have:(if (lsR us).contains x=true then some (us++[uQ x (lsR us)]) else if (-9223372036854775808:Int)<=x/\x<=9223372036854775807 then some (us++[tZ x (lsR us)]) else none)=some (us++[tgS x (lsR us)]):=by
     unfold tgS;split;·rfl
     ·rw[iP ⟨by omega,by omega⟩]
    dsimp only;rw[this,oB,FI,oB,lA,ck,w64 (n:=f+_),w64];unfold hdR;congr 2;omega
def okF (g:List Int):List Int->List Int->Bool
 |_,[]=>true
 |seen,x::r=> !seen.contains x&&(g.contains x&&okF g (tZ x seen) r)
def fgL (gs seen:List Int):List Int:=gs.foldl (λl x=>tZ x l) seen
def foR (us:List (List Int)) (f:Int) (g o gs:List Int):Int×List (List Int)×Int×List Int×List Int:=
 if okF g [] gs=true then fgR (hdR us f) (fgL gs []) (lsR us) g o else (210,us,f,g,o)
theorem VH {K:Nat} {us:List (List Int)} {f:Int} {g o gs:List Int} (hg:∀x∈g,0<=x/\x<60) (hl:gs.length<=1000):∀(r:List Int) (j k:Nat) (seen:List Int),gs.drop j=r->r.length<k->
 C1.l0 K gs us f g o k seen (j:Int)=some (if okF g seen r=true then .inr (fgL r seen) else .inl 210)
 | [],j,k+1,seen,h,_ => by have:=A1 h;rw[C1.l0,tt];rfl
 | x :: r,j,k+1,seen,h,hk => by
   obtain⟨h1,h2,h3⟩:=A0 h (0:Int);rw[C1.l0,tq,iP ⟨by omega,by omega⟩,tN,h2,JE,oB,up1];cases hs:seen.contains x with
   | true =>
     rw[iP rfl,oB,iP rfl,iN (by simp only[okF,hs];simp)]
   | false =>
     rw[uf,oB];cases hx:g.contains x with
     |false=>rw[iP (by simp),iN (by simp only[okF,hs,hx];simp)]
     | true =>
       have:=hg x (by simpa using hx);rw[uf,iP ⟨by omega,by omega⟩,VH hg hl r (j+1) k _ h3 (by simpa using hk)];simp only[okF,hs,hx,sw,dq,fgL,fk]
theorem IY:∀{gs seen:List Int} {x:Int},x∈fgL gs seen↔x∈gs\/x∈seen
 |[],_,_=>by simp[fgL]
 | y :: gs,seen,x => by
   have:=IY (gs:=gs) (seen:=tZ y seen) (x:=x);simp only[fgL,fk] at this ⊢;rw[this,vS,bv];constructor
   ·rintro (h|h|h);·exact .inl (.inr h)
    ·exact .inl (.inl h)
    ·exact .inr h
   ·rintro ((h|h)|h);·exact .inr (.inl h)
    ·exact .inl h
    ·exact .inr (.inr h)
theorem J1 {g:List Int}:∀{gs seen:List Int},okF g seen gs=true->(∀x∈gs,x∈g/\x∉seen)/\gs.Nodup
 |[],_,_=>⟨by simp,List.nodup_nil⟩
 | y :: gs,seen,h => by
   simp only[okF,bq,iz] at h;obtain⟨h1,h2,h3⟩:=h;obtain⟨h4,h5⟩:=J1 h3;have h1':y∉seen:=by simpa using h1
   refine⟨λx hx=>?_,dy.2 ⟨λhy=>?_,h5⟩⟩
   ·rcases bv.1 hx with rfl|hx;·exact⟨by simpa using h2,h1'⟩
    ·exact⟨(h4 x hx).1,λhs=>(h4 x hx).2 (vS.2 (.inr hs))⟩
   ·exact(h4 y hy).2 (vS.2 (.inl rfl))
theorem i8 (hK:100000<=K) (h:Rok us f g o) (hg:∀x∈g,0<=x/\x<60) (hl:gs.length<=1000):C1 K us f g o gs=some (foR us f g o gs):=by
 have:=h.len;have:=h.ne;have e:=VH (K:=K) (us:=us) (f:=f) (o:=o) hg hl gs 0 K [] rfl (by omega);have e:C1.l0 K gs us f g o K [] 0=some (if okF g [] gs=true then .inr (fgL gs []) else .inl 210):=e;rw[C1,e,oB];unfold foR;cases hok:okF g [] gs with
 |false=>rfl
 | true =>
   have hw:inW (fgL gs [])=true:=by
    refine cn.2 λx hx=>?_;have hx:x∈gs:=by have:=IY.1 hx;simpa using this
    have:=hg x ((J1 hok).1 x hx).1;simp;omega
   simp only[if_true,gq];rw[w64 (n:=(us.length:Int)-1),iP ⟨by omega,by omega⟩,KT h,oB,tw,iP ⟨by omega,hw⟩];unfold lsR;rw[show bc ((us.length:Int)-1)=us.length-1 by omega]
def bdC (s:ByteArray) (c:Chg):Bool:=decide (c.1<0)||(decide (c.1>c.2.1)||decide (c.2.1>s.size))
def egC (s:ByteArray) (c:Chg):Bool:=!isE s c.1||!isE s c.2.1
def orC:List Chg->Bool
 |[]=>false
 |a::l=>(match l with|[]=>false|b::_=>decide (b.1<a.2.1)||(a.1==b.1&&a.2.1==b.1))||orC l
def lgA (n:Int) (l:List Chg):Int:=l.foldr (λc r=>mn2 (mx2 (ba .i64 (c.2.1-c.1)) 0) n+r) 0
def lgB:Int->List Chg->Int
 |left,[]=>if left<0 then 13 else 0
 |left,c::l=>if (c.2.2.size:Int)>left then 13 else lgB (left-c.2.2.size) l
def f5:List Int->Int
 |[]=>0
 |x::l=>if x=0 then f5 l else x
def BV (s:ByteArray) (c:List Chg):Int:=
 if A4 s=false then 12 else if 8<c.length then 70 else f5 [if c.any (bdC s) then 10 else 0,if c.any (egC s) then 11 else 0,if orC c then 180 else 0,if c.any (λx=>!A4 x.2.2) then 12 else 0,lgB (20000-s.size+lgA s.size c) c]
def Cok (c:List Chg):Prop:=c.length<=1000/\∀x∈c,x.2.2.size<=30000
theorem cZ:KK K a b t s=some (bdC s (a,b,t)):=by
 unfold KK bdC;by_cases h1:a<0;·rw[iP (by simpa using h1)];simp[h1]
 ·rw[iN (by simpa using h1)];by_cases h2:a>b;·rw[iP (by simpa using h2)];simp[h2]
  ·rw[iN (by simpa using h2)];simp[h1,h2]
theorem gI (hK:100000<=K) (hs:s.size<=50000):KL K a b t s=some (egC s (a,b,t)):=by unfold KL KJ egC;rw[HI (by omega) (by omega),HI (by omega) (by omega)];simp only[oB];cases isE s a<;>simp
theorem V7 {K:Nat} {s:ByteArray} {c:List Chg} {e:Int} (hl:c.length<=1000):∀(r:List Chg) (j k:Nat),c.drop j=r->r.length<k->BN.l0 K c s e k (j:Int)=some (if r.any (bdC s)=true then e else 0)
 | [],j,k+1,h,_ => by have:=A1 h;rw[BN.l0,tt];rfl
 | x :: r,j,k+1,h,hk => by
   obtain⟨h1,h2,h3⟩:=A0 h zC;rw[BN.l0,tq,iP ⟨by omega,by omega⟩,tN,h2,cZ,oB,up1];cases hb:bdC s x with
   |true=>rw[iP rfl];simp[hb]
   |false=>rw[uf,V7 hl r (j+1) k h3 (by simpa using hk),ii,hb];rfl
theorem V8 {K:Nat} {s:ByteArray} {c:List Chg} {e:Int} (hK:100000<=K) (hs:s.size<=50000) (hl:c.length<=1000):∀(r:List Chg) (j k:Nat),c.drop j=r->r.length<k->BO.l0 K c s e k (j:Int)=some (if r.any (egC s)=true then e else 0)
 | [],j,k+1,h,_ => by have:=A1 h;rw[BO.l0,tt];rfl
 | x :: r,j,k+1,h,hk => by
   obtain⟨h1,h2,h3⟩:=A0 h zC;rw[BO.l0,tq,iP ⟨by omega,by omega⟩,tN,h2,gI hK hs,oB,up1];cases hb:egC s x with
   |true=>rw[iP rfl];simp[hb]
   |false=>rw[uf,V8 hK hs hl r (j+1) k h3 (by simpa using hk),ii,hb];rfl
theorem V9 {K:Nat} {c:List Chg} {e:Int} (hK:100000<=K) (hc:Cok c):∀(r:List Chg) (j k:Nat),c.drop j=r->r.length<k->BP.l0 K c e k (j:Int)=some (if r.any (λx=>!A4 x.2.2)=true then e else 0)
 | [],j,k+1,h,_ => by have:=A1 h;rw[BP.l0,tt];rfl
 | x :: r,j,k+1,h,hk => by
   obtain⟨h1,h2,h3⟩:=A0 h zC;have hl:=hc.1;have hx:=hc.2 x (mdr h);rw[BP.l0,tq,iP ⟨by omega,by omega⟩,tN,h2,ML,M5 (by omega) (by omega),oB,oB,up1];cases hb:A4 x.2.2 with
   |false=>rw[iP (by simp)];simp[hb]
   |true=>rw[uf,V9 hK hc r (j+1) k h3 (by simpa using hk),ii,hb];rfl
theorem X3 {K:Nat} {c:List Chg} (hl:c.length<=1000):∀(r:List Chg) (j k:Nat) (a:Chg),c.drop j=a::r->r.length<k->BF.l0 K c k ((j+1:Nat):Int)=some (if orC (a::r)=true then 180 else 0)
 | [],j,k+1,a,h,_ => by obtain⟨h1,h2,h3⟩:=A0 h zC;have:=A1 h3;rw[BF.l0,tt];rfl
 | b :: r,j,k+1,a,h,hk => by
   obtain⟨h1,h2,h3⟩:=A0 h zC;obtain⟨h4,h5,h6⟩:=A0 h3 zC;rw[BF.l0,w64 (n:=((j+1:Nat):Int)-1),show ((j+1:Nat):Int)-1=(j:Int) by omega,tq,iP ⟨by omega,by omega,by omega,by omega⟩,tN,tN,h2,h5,up1];have ih:=X3 (K:=K) hl r (j+1) k b h3 (by simpa using hk);rw[ih];simp only[orC];by_cases e1:b.1<a.2.1;·simp[e1]
   ·by_cases e2:a.1=b.1;·by_cases e3:a.2.1=b.1<;>simp[e1,e2,e3]
    ·simp[e1,e2]
theorem kN (hK:100000<=K) (hl:c.length<=1000):BF K c=some (if orC c=true then 180 else 0):=by
 unfold BF;cases c with
 | nil =>
   obtain⟨k,rfl⟩:∃k,K=k+1:=⟨K-1,by omega⟩;rw[BF.l0,uf];rfl
 |cons a r=>exact X3 hl r 0 K a rfl (by simp at hl;omega)
theorem WP (h:0<=n):0<=mn2 (mx2 x 0) n/\mn2 (mx2 x 0) n<=n:=by unfold mn2 mx2;split<;>split<;>omega
theorem QR {n:Int} (h:0<=n):∀{r:List Chg},0<=lgA n r/\lgA n r<=r.length*n
 |[]=>by simp[lgA]
 | x :: r => by
   have:=QR h (r:=r);have:=WP (x:=ba .i64 (x.2.1-x.1)) h;simp only[lgA,rv,lC] at *;have:((r.length+1:Nat):Int)*n=r.length*n+n:=by rw[rx,vo];simp
   omega
theorem WJ {K:Nat} {s:ByteArray} {c:List Chg} (hs:s.size<=50000) (hl:c.length<=1000):∀(r:List Chg) (j k:Nat) (left:Int),c.drop j=r->r.length<k->-1000000<=left->left+r.length*(s.size:Int)<=1000000000->
 AN.l0 K c s k left (j:Int)=some (left+lgA s.size r)
 | [],j,k+1,left,h,_,_,_ => by have:=A1 h;rw[AN.l0,tt];simp[lgA]
 | x :: r,j,k+1,left,h,hk,h4,h5 => by
   obtain⟨h1,h2,h3⟩:=A0 h zC;have hm:=WP (x:=ba .i64 (x.2.1-x.1)) (n:=s.size) (by omega);have e:((r.length+1:Nat):Int)*(s.size:Int)=r.length*(s.size:Int)+s.size:=by rw[rx,vo];simp
   have e0:0<=(r.length:Int)*(s.size:Int):=sx (by omega) (by omega);simp only[lC,e] at h5;rw[AN.l0,tq,iP ⟨by omega,by omega⟩,tN,h2,up1,w64 (n:=left+_),WJ hs hl r (j+1) k _ h3 (by simpa using hk) (by omega) (by omega)];simp only[lgA,rv];congr 1;omega
theorem WK {K:Nat} {c:List Chg} (hc:Cok c):∀(r:List Chg) (j k:Nat) (left:Int),c.drop j=r->r.length<k->-100000000<=left-r.length*30000->left<=1000000000->
 (AN.l1 K c k left (j:Int)).bind (Sum.elim (λz=>some z) (λz=>if (decide (z<(0:Int)))=true then some (13:Int) else some (0:Int)))=some (lgB left r)
 | [],j,k+1,left,h,_,_,_ => by have:=A1 h;rw[AN.l1,tt,oB];simp only[gq,lgB];by_cases h:left<0<;>simp[h]
 | x :: r,j,k+1,left,h,hk,h4,h5 => by
   obtain⟨h1,h2,h3⟩:=A0 h zC;have hl:=hc.1;have hx:=hc.2 x (mdr h);simp only[lC] at h4;rw[AN.l1,tq,iP ⟨by omega,by omega⟩,tN,h2,up1];unfold lgB;by_cases e:(x.2.2.size:Int)>left;·rw[iP (by simpa using e),iP e];rfl
   ·rw[iN (by simpa using e),iN e,w64];exact WK hc r (j+1) k _ h3 (by simpa using hk) (by omega) (by omega)
theorem hX (a b x d e:Int) (hK:100000<=K):B4.l0 K a b x d e K 0=some (f5 [a,b,x,d,e]):=by
 obtain⟨k,rfl⟩:∃k,K=k+6:=⟨K-6,by omega⟩;have key:∀(K:Nat) (r:List Int) (j k:Nat),[a,b,x,d,e].drop j=r->r.length<k->B4.l0 K a b x d e k (j:Int)=some (f5 r):=by
  intro K r;induction r with
  | nil =>
    intro j k h hk;obtain⟨k,rfl⟩:∃k',k=k'+1:=⟨k-1,by simp at hk;omega⟩;have:=A1 h;rw[B4.l0,iN (by simp at this ⊢;omega)];rfl
  | cons y r ih =>
    intro j k h hk;obtain⟨k,rfl⟩:∃k',k=k'+1:=⟨k-1,by simp at hk;omega⟩;obtain⟨h1,h2,h3⟩:=A0 h (0:Int);simp only[lC,eb] at h1;rw[B4.l0,tq,iP ⟨by omega,by simp;omega⟩,tN,h2,up1,ih (j+1) k h3 (by simpa using hk)];unfold f5;by_cases e:y=0
    ·rw[iN (by simpa using e),iP e];cases r<;>rfl
    ·rw[iP (by simpa using e),iN e]
 exact key _ _ 0 (k+6) rfl (by simp)
theorem MF (hK:100000<=K) (hs:s.size<=50000) (hc:Cok c):B4 K s c=some (BV s c):=by
 have hl:=hc.1;rw[B4,M5 (by omega) (by omega),oB];unfold BV;cases hv:A4 s with
 |false=>rfl
 | true =>
   rw[uf,iN (show ¬(true=false) by simp)];by_cases h8:8<c.length;·rw[tq];simp[h8]
   ·have e2:=V7 (K:=K) (s:=s) (e:=10) hl c 0 K rfl (by omega);have e3:=V8 (K:=K) (s:=s) (e:=11) hK hs hl c 0 K rfl (by omega);have e4:=V9 (K:=K) (e:=12) hK hc c 0 K rfl (by omega);have hn:((c.length:Nat):Int)*(s.size:Int)<=8*50000:=Int.mul_le_mul (by omega) (by omega) (by omega) (by omega);have hn0:0<=((c.length:Nat):Int)*(s.size:Int):=sx (by omega) (by omega);have ha:=QR (n:=s.size) (by omega) (r:=c);have e5:=WJ (K:=K) hs hl c 0 K (20000-s.size) rfl (by omega) (by omega) (by omega);have e6:=WK (K:=K) hc c 0 K (20000-s.size+lgA s.size c) rfl (by omega) (by omega) (by omega);have e5:AN.l0 K c s K (20000-s.size) 0=_:=e5;have e7:AN K s c=some (lgB (20000-s.size+lgA s.size c) c):=by
     rw[AN,w64,e5,oB];exact e6
    rw[tt,BN,BO,BP,kN hK hl,e7];have e2:BN.l0 K c s 10 K 0=_:=e2;have e3:BO.l0 K c s 11 K 0=_:=e3;have e4:BP.l0 K c 12 K 0=_:=e4;rw[e2,e3,e4];simp only[oB,h8,if_false];exact hX _ _ _ _ _ hK
def ptL (s:ByteArray) (w g r:Int):Nat->Nat->List Atm
 |0,_=>[]
 |m+1,t=>if t<s.size then (gi (((gj s t).1:Nat):Int),w,g,r,[])::ptL s w g r m (t+(gj s t).2) else []
def DE (s:ByteArray) (w g r:Int):List Atm:=ptL s w g r s.size 0
theorem XQ {K:Nat} {s:ByteArray} {w g r:Int} (hs:s.size<=30000):∀(m t k:Nat) (x:List Atm),AA s m t=true->s.size<=t+m->m<k->x.length+m<=100000->E0.l0 K s w g r k x t=some (x++ptL s w g r m t)
 | 0,t,k+1,x,_,h,_,_ => by rw[E0.l0,tt];simp[ptL]
 | m+1,t,k+1,x,hu,h,hk,hx => by
   rw[E0.l0];by_cases ht:t<s.size
   ·have hz:usz s t≠0:=λhz=>by
     rw[AA,tw,iP hz] at hu;cases hu
    have hu2:AA s m (t+usz s t)=true:=by rw[AA,tw,iN hz] at hu;exact hu
    obtain⟨c,z,h1,h2,h3,_⟩:=KC ht hz;rw[iP (by simpa using ht),tq,XQ hs m _ k _ (by rw[h1];simp only;rw[show ((t+z:Nat):Int)=t+usz s t by omega];exact hu2) (by rw[h1];simp only;omega) (by omega) (by simp;omega)];simp[ptL,ht]
   ·rw[iN (by simpa using ht)];simp[ptL,ht]
theorem O2 {s:ByteArray} {w g r:Int}:∀{m t:Nat},(ptL s w g r m t).length<=m
 |0,_=>by simp[ptL]
 | m+1,t => by
   simp only[ptL];split
   ·have:=O2 (s:=s) (w:=w) (g:=g) (r:=r) (m:=m) (t:=t+(gj s t).2);simp;omega
   ·simp
theorem O3 {s:ByteArray} {w g r:Int}:∀{m t:Nat},AA s m t=true->∀a∈ptL s w g r m t,1<=a.1.size/\a.1.size<=4/\a.2=(w,(g,r,[]))
 |0,_,_,a,ha=>by simp[ptL] at ha
 | m+1,t,hu,a,ha => by
   simp only[ptL] at ha;split at ha
   ·rename_i ht;have hz:usz s t≠0:=λhz=>by
     rw[AA,tw,iP hz] at hu;cases hu
    have hu2:AA s m (t+usz s t)=true:=by rw[AA,tw,iN hz] at hu;exact hu
    obtain⟨c,z,h1,h2,h3,_⟩:=KC ht hz;have hok:=CK (s:=s) (a:=t);rcases bv.1 ha with rfl|ha
    ·refine⟨?_,?_,rfl⟩;·rw[h1];simp only;rw[h3];omega
     ·rw[h1];simp only;rw[h3];omega
    ·refine O3 (m:=m) ?_ a ha;rw[h1];simp only;rw[show ((t+z:Nat):Int)=t+usz s t by omega];exact hu2
   ·simp at ha
theorem PC (hK:100000<=K) (hs:s.size<=30000) (hv:A4 s=true):I9 K s=some s:=by rw[I9,M5 (by omega) (by omega),oB,hv,iP rfl]
theorem mQ {g r:Int} (hK:100000<=K) (hs:s.size<=30000) (hv:A4 s=true):E0 K [] 0 s w g r=some (DE s w g r):=by have hl:=O2 (s:=s) (w:=w) (g:=g) (r:=r) (m:=s.size) (t:=0);rw[E0,dQ hK,oB,iP (by decide),PC hK hs hv,oB,XQ hs s.size 0 K [] hv (by omega) (by omega) (by simp;omega),oB,dR hK,oB,cd,tq,cm];rfl
def cvr (p:Int) (c:List Chg):Bool:=c.any λx=>decide (p>=x.1)&&decide (p<x.2.1)
def ctB (rev:Int) (u:List Int) (c:List Chg):Int->List Atm->List Bool
 |_,[]=>[]
 |p,a::l=>if vis rev u a then cvr p c::ctB rev u c (p+a.1.size) l else false::ctB rev u c p l
def AR:Nat->List Bool->List Int
 |_,[]=>[]
 |i,b::l=>if b then (i:Int)::AR (i+1) l else AR (i+1) l
theorem PG {rev:Int} {u:List Int} {c:List Chg}:∀{l:List Atm} {p:Int},(ctB rev u c p l).length=l.length
 |[],_=>rfl
 |a::l,p=>by simp only[ctB];split<;>simp[PG]
theorem UI {K:Nat} {c:List Chg} {ps:List Int} {t:Int} {x:List Int} {p:Int} (hc:c.length<=1000) (hp:ps.getD t.toNat 0=p) (ht:t<ps.length) (hx:x.length<=100000):∀(r:List Chg) (j k:Nat),c.drop j=r->r.length<k->
 AM.l1 K c ps t x k (j:Int)=some (if cvr p r=true then x++[t] else x)
 | [],j,k+1,h,_ => by have:=A1 h;rw[AM.l1,tt];rfl
 | y :: r,j,k+1,h,hk => by
   obtain⟨h1,h2,h3⟩:=A0 h zC;rw[AM.l1,tq,iP ⟨by omega,by omega⟩,tN,h2,hp,iP ht,iP ht,up1,UI hc hp ht hx r (j+1) k h3 (by simpa using hk)];by_cases e1:p>=y.1
   ·by_cases e2:p<y.2.1;·rw[iP (by simpa using e1),oB,iP (by simpa using e2),tq,iP (by simp[cvr,e1,e2])]
    ·have hn:cvr p (y::r)=cvr p r:=by simp[cvr,e2]
     rw[iP (by simpa using e1),oB,iN (by simpa using e2),hn]
   ·have hn:cvr p (y::r)=cvr p r:=by simp[cvr,e1]
    rw[iN (by simpa using e1),oB,uf,hn]
theorem PH {K:Nat} {l:List Atm} {u:List Int} {rev:Int} {c:List Chg} {ps:List Int} (hK:100000<=K) (hu:u.length<=50000) (hl:Aok l) (hc:c.length<=1000) (hps:ps.length<=30000):∀(r:List Atm) (j k:Nat) (x:List Int) (p:Int),l.drop j=r->ps.drop j=plc rev u p r->r.length<k->x.length+r.length<=100000->
 AM.l0 K l rev u c ps k x (j:Int)=some (x++AR j (ctB rev u c p r))
 | [],j,k+1,x,p,h,_,_,_ => by have:=A1 h;rw[AM.l0,tt];simp[ctB,AR]
 | a :: r,j,k+1,x,p,h,hp,hk,hx => by
   obtain⟨h1,h2,h3⟩:=A0 h zA;have hg:=hl.2 a (mdr h);obtain⟨h4,h5,h6⟩:=A0 hp (0:Int);simp only[lC] at hx;have hlen:=hl.1;rw[AM.l0,tq,iP ⟨by omega,by omega⟩,tN,h2,K4 hK hu (by omega),oB,up1];have e1:=UI (K:=K) (ps:=ps) (t:=(j:Int)) (x:=x) (p:=p) hc (by rw[tN];exact h5) (by omega) (by omega) c 0 K rfl (by omega);have e1:AM.l1 K c ps j x K 0=_:=e1;rw[e1];cases hv:vis rev u a with
   | false =>
     rw[iP (by simp),oB,PH hK hu hl hc hps r (j+1) k x p h3 (by rw[h6,hv];simp) (by simpa using hk) (by omega)];simp[ctB,hv,AR]
   | true =>
     have hx2:(if cvr p c=true then x++[(j:Int)] else x).length+r.length<=100000:=by
      split;·simp;omega
      ·omega
     rw[uf,oB,PH hK hu hl hc hps r (j+1) k _ (p+a.1.size) h3 (by rw[h6,hv];simp) (by simpa using hk) hx2];simp only[ctB,hv,if_true,AR];cases cvr p c<;>simp
theorem dX (hK:100000<=K) (hu:u.length<=50000) (hl:Aok l) (hc:Cok c) (ht:(vtx rev u l).length<=50000) (h0:BV (tP (vtx rev u l)) c=0):AM K l rev u c=some (AR 0 (ctB rev u c 0 l)):=by have hlen:=hl.1;rw[AM,OQ hK hu hl,oB,MF hK (by simpa[tP,cr] using ht) hc,oB,h0,uf,XE hK hu hl,oB];have:=PH (K:=K) (rev:=rev) hK hu hl hc.1 (ps:=plc rev u 0 l) (by rw[LH];omega) l 0 K [] 0 rfl rfl (by omega) (by simp;omega);simpa using this
def spA (rev:Int) (u:List Int) (f:Int):Int->List Atm->Nat
 |_,[]=>0
 | p,a :: l =>
   let n:=spA rev u f (if vis rev u a then p+a.1.size else p) l;if n=0 then (if decide (p<f)&&vis rev u a then 1 else 0) else n+1
def skp (rev rank:Int) (l:List Atm):Nat:=(l.takeWhile λa=>decide (a.2.1>rev)&&decide (a.2.2.2.1<=rank)).length
def spt (rev:Int) (u:List Int) (rank f:Int) (l:List Atm):Nat:=spA rev u f 0 l+skp rev rank (l.drop (spA rev u f 0 l))
theorem JR {a:Atm}:spA rev u f p (a::l)=if spA rev u f (if vis rev u a=true then p+(a.1.size:Int) else p) l=0 then (if (decide (p<f)&&vis rev u a)=true then 1 else 0) else spA rev u f (if vis rev u a=true then p+(a.1.size:Int) else p) l+1:=rfl
theorem OL {rev:Int} {u:List Int} {f:Int}:∀{l:List Atm} {p:Int},spA rev u f p l<=l.length
 |[],_=>bp _
 | a :: l,p => by
   have:=OL (rev:=rev) (u:=u) (f:=f) (l:=l) (p:=if vis rev u a then p+a.1.size else p);rw[JR,lC];generalize spA rev u f (if vis rev u a=true then p+(a.1.size:Int) else p) l=n at *;repeat' split
   all_goals omega
theorem bG {α:Type} {q:α->Bool}:∀{l:List α},(l.takeWhile q).length<=l.length
 |[]=>bp _
 | a :: l => by have:=bG (q:=q) (l:=l);simp only[jv];split<;>simp<;>omega
theorem SN {rank:Int}:spt rev u rank f l<=l.length:=by have:=OL (rev:=rev) (u:=u) (f:=f) (l:=l) (p:=0);have:=bG (q:=λa:Atm=>decide (a.2.1>rev)&&decide (a.2.2.2.1<=rank)) (l:=l.drop (spA rev u f 0 l));unfold spt skp;simp only[cq] at this;omega
theorem aN {K:Nat} {l:List Atm} {u:List Int} {rev f:Int} {ps:List Int} (hK:100000<=K) (hu:u.length<=50000) (hl:Aok l) (hps:ps.length<=30000):∀(r:List Atm) (j k:Nat) (x p:Int),l.drop j=r->ps.drop j=plc rev u p r->r.length<k->
 BD.l0 K l ps f rev u k x (j:Int)=some (if spA rev u f p r=0 then x else ((j+spA rev u f p r:Nat):Int))
 | [],j,k+1,x,p,h,_,_ => by have:=A1 h;rw[BD.l0,tt];rfl
 | a :: r,j,k+1,x,p,h,hp,hk => by
   obtain⟨h1,h2,h3⟩:=A0 h zA;have hg:=hl.2 a (mdr h);obtain⟨h4,h5,h6⟩:=A0 hp (0:Int);have hlen:=hl.1;rw[BD.l0,tq,iP ⟨by omega,by omega⟩,tN,h2,h5,K4 hK hu (by omega),oB,up1];have hj:(j:Int)<ps.length:=by omega
   simp only[iP hj];have ih:=λx=>aN (f:=f) hK hu hl hps r (j+1) k x _ h3 h6 (by simpa using hk);rw[ih,ih];rw[JR];generalize spA rev u f (if vis rev u a=true then p+(a.1.size:Int) else p) r=n;have e:(if decide (p<f)=true then some (vis rev u a) else some false)=some (decide (p<f)&&vis rev u a):=by by_cases h:p<f<;>simp[h]
   rw[e,oB];cases (decide (p<f)&&vis rev u a)<;>by_cases hn:n=0<;>simp[hn]<;>omega
theorem aO {K:Nat} {l:List Atm} {rev rank:Int} (hl:Aok l):∀(r:List Atm) (j k:Nat),l.drop j=r->j<=l.length->r.length<k->BD.l1 K l rev rank k (j:Int)=some ((j+skp rev rank r:Nat):Int)
 | [],j,k+1,h,hj,_ => by have:=A1 h;rw[BD.l1,tt,oB,uf];rfl
 | a :: r,j,k+1,h,hj,hk => by
   obtain⟨h1,h2,h3⟩:=A0 h zA;have hlen:=hl.1;have hb:0<=(j:Int)/\(j:Int)<l.length:=⟨by omega,by omega⟩;rw[BD.l1,tq,tN,h2,up1,aO hl r (j+1) k h3 (by omega) (by simpa using hk)];simp only[iP hb];by_cases e1:a.2.1>rev
   ·by_cases e2:a.2.2.2.1<=rank
    ·rw[iP (by simpa using e1),oB,iP (by simpa using e2)];simp only[skp,jv,decide_eq_true e1,decide_eq_true e2];simp;omega
    ·rw[iP (by simpa using e1),oB,iN (by simpa using e2)];simp only[skp,jv,decide_eq_false e2];simp
   ·rw[iN (by simpa using e1),oB,uf];simp only[skp,jv,decide_eq_false e1];simp
theorem qC {rank:Int} (hK:100000<=K) (hu:u.length<=50000) (hl:Aok l):BD K l (plc rev u 0 l) rev u f rank=some ((spt rev u rank f l:Nat):Int):=by
 have hlen:=hl.1;have e:=aN (K:=K) (rev:=rev) (f:=f) hK hu hl (ps:=plc rev u 0 l) (by rw[LH];omega) l 0 K 0 0 rfl rfl (by omega);have e:BD.l0 K l (plc rev u 0 l) f rev u K 0 0=_:=e;rw[BD,e,oB];have hle:=OL (rev:=rev) (u:=u) (f:=f) (l:=l) (p:=0);have e2:(if spA rev u f 0 l=0 then (0:Int) else ((0+spA rev u f 0 l:Nat):Int))=((spA rev u f 0 l:Nat):Int):=by split<;>omega
 rw[e2,aO hl _ _ K rfl hle (by simp;omega)];rfl
theorem aP {K:Nat} {l:List Atm} {u:List Int} {rev rank:Int} {c:List Chg} (hK:100000<=K) (hu:u.length<=50000) (hl:Aok l) (hc:c.length<=1000):∀(r:List Chg) (j k:Nat) (x:List Int),c.drop j=r->r.length<k->x.length+r.length<=100000->
 BM.l0 K c l (plc rev u 0 l) rev u rank k x (j:Int)=some (x++r.map λy=>((spt rev u rank y.1 l:Nat):Int))
 | [],j,k+1,x,h,_,_ => by have:=A1 h;rw[BM.l0,tt];simp
 | y :: r,j,k+1,x,h,hk,hx => by obtain⟨h1,h2,h3⟩:=A0 h zC;simp only[lC] at hx;rw[BM.l0,tq,iP ⟨by omega,by omega⟩,tN,h2,qC hK hu hl,oB,tq,up1,aP hK hu hl hc r (j+1) k _ h3 (by simpa using hk) (by simp;omega)];simp
theorem qD {rank:Int} (hK:100000<=K) (hu:u.length<=50000) (hl:Aok l) (hc:Cok c) (ht:(vtx rev u l).length<=50000) (h0:BV (tP (vtx rev u l)) c=0):BM K l rev u c rank=some (c.map λy=>((spt rev u rank y.1 l:Nat):Int)):=by have hlen:=hl.1;have hcl:=hc.1;rw[BM,OQ hK hu hl,oB,MF hK (by simpa[tP,cr] using ht) hc,oB,h0,uf,XE hK hu hl,oB];have:=aP (K:=K) (rev:=rev) (rank:=rank) hK hu hl hc.1 c 0 K [] rfl (by omega) (by simp;omega);simpa using this
def DZ (a:Atm) (c:Int×Int):Atm:=(a.1,(a.2.1,a.2.2.1,a.2.2.2.1,a.2.2.2.2++[c]))
def ctA (c:Int×Int):List Bool->List Atm->List Atm
 |b::bs,a::l=>(if b then DZ a c else a)::ctA c bs l
 |_,l=>l
def spl (old:List Atm):Nat->List (Nat×List Atm)->List Atm
 |p,[]=>old.drop p
 |p,(s,x)::r=>(old.drop p).take (s-p)++(x++spl old s r)
def upS (rev:Int) (u:List Int) (c:List Chg) (w g rank:Int) (l:List Atm):List Atm:=
 spl (ctA (w,g) (ctB rev u c 0 l) l) 0 (c.map λy=>(spt rev u rank y.1 l,DE y.2.2 w g rank))
theorem PF {c:Int×Int}:∀{bs:List Bool} {l:List Atm},(ctA c bs l).length=l.length
 |[],l=>by simp[ctA]
 |b::bs,[]=>by simp[ctA]
 |b::bs,a::l=>by simp[ctA,PF]
theorem SE:∀{bs:List Bool} {pre:List Bool} {i:Nat},pre.length=i->(AR i bs).foldl (λacc (x:Int)=>acc.set x.toNat true) (pre++bn bs.length false)=pre++bs
 |[],pre,i,h=>by simp[AR]
 | b :: bs,pre,i,h => by
   have e:pre++bn (b::bs).length false=(pre++[false])++bn bs.length false:=by simp[List.replicate_succ]
   cases b with
   | false =>
     have:=SE (bs:=bs) (pre:=pre++[false]) (i:=i+1) (by simp[h]);simp only[AR,iq,if_false];rw[e,this];simp
   | true =>
     have:=SE (bs:=bs) (pre:=pre++[true]) (i:=i+1) (by simp[h]);simp only[AR,if_true,fk,tN];have e2:(pre++bn (true::bs).length false).set i true=(pre++[true])++bn bs.length false:=by rw[e,<-h];simp
     rw[e2,this];simp
theorem bP:∀{bs:List Bool} {i:Nat} {x:Int},x∈AR i bs->(i:Int)<=x/\x<i+bs.length
 |[],_,_,h=>by simp[AR] at h
 | b :: bs,i,x,h => by
   have ih:=λh=>bP (bs:=bs) (i:=i+1) (x:=x) h;simp only[AR] at h;split at h
   ·rcases bv.1 h with rfl|h;·simp;omega
    ·have:=ih h;simp only[lC];omega
   ·have:=ih h;simp only[lC];omega
theorem T5:∀{bs:List Bool} {i:Nat},(AR i bs).length<=bs.length
 |[],_=>by simp[AR]
 | b :: bs,i => by have:=T5 (bs:=bs) (i:=i+1);simp only[AR];split<;>simp<;>omega
theorem bT {K:Nat} {ts:List Int} (hts:ts.length<=50000):∀(r:List Int) (j k:Nat) (acc:List Bool),ts.drop j=r->r.length<k->(∀x∈r,0<=x/\x<acc.length)->
 AC.l0 K ts k acc (j:Int)=some (r.foldl (λacc (x:Int)=>acc.set x.toNat true) acc)
 | [],j,k+1,acc,h,_,_ => by have:=A1 h;rw[AC.l0,tt];rfl
 | x :: r,j,k+1,acc,h,hk,hb => by obtain⟨h1,h2,h3⟩:=A0 h (0:Int);have hx:=hb x mS;rw[AC.l0,tq,tN,h2,iP ⟨by omega,by omega,hx.1,hx.2⟩,up1,bT hts r (j+1) k _ h3 (by simpa using hk) (λy hy=>by rw[iw];exact hb y (mC _ hy))];rfl
theorem T7 {K:Nat} {l:List Atm} {cut:List Bool} {w g:Int} (hl:l.length<=20000) (hcl:cut.length=l.length):∀(r:List Atm) (j k:Nat) (pre:List Atm) (bs:List Bool),cut.drop j=bs->pre.length=j->j+r.length=l.length->r.length<k->(∀a∈r,a.2.2.2.2.length<=1000)->
 AC.l1 K l cut w g k (pre++r) (j:Int)=some (pre++ctA (w,g) bs r)
 | [],j,k+1,pre,bs,hb,hp,h,_,_ => by rw[AC.l1,iN (by simp at h ⊢;omega)];cases bs<;>simp[ctA]
 | a :: r,j,k+1,pre,[],hb,hp,h,hk,_ => by have:=A1 hb;simp at h;omega
 | a :: r,j,k+1,pre,b :: bs,hb,hp,h,hk,ha => by
   obtain⟨h1,h2,h3⟩:=A0 hb false;simp only[lC] at h;have hga:(pre++a::r).getD j zA=a:=by rw[bu,dd (by omega),hp];simp
   have hcu:=ha a mS;rw[AC.l1,tq,iP ⟨by omega,by omega⟩,tN,h2,hga,up1];have e:∀y:Atm,pre++y::r=(pre++[y])++r:=λy=>by simp
   cases b with
   | false =>
     rw[uf,e,T7 hl hcl r (j+1) k (pre++[a]) bs h3 (by simp[hp]) (by omega) (by simpa using hk) (λx hx=>ha x (mC _ hx))];simp[ctA]
   | true =>
     have es:uZ (pre++a::r) j (a.2.2.2.2++[(w,g)])=(pre++[DZ a (w,g)])++r:=by unfold uZ;rw[hga,jz _ _ (by omega),hp];simp[DZ]
     rw[iP rfl,iP ⟨by simp;omega,by simp;omega,by simp;omega,rfl⟩,es,T7 hl hcl r (j+1) k (pre++[DZ a (w,g)]) bs h3 (by simp[hp]) (by omega) (by simpa using hk) (λx hx=>ha x (mC _ hx))];simp[ctA]
theorem aG {rev:Int} {u:List Int} {f f':Int} (h:f<=f'):∀{l:List Atm} {p:Int},spA rev u f p l<=spA rev u f' p l
 |[],_=>bp _
 | a :: l,p => by
   have:=aG h (rev:=rev) (u:=u) (l:=l) (p:=if vis rev u a=true then p+(a.1.size:Int) else p);rw[JR,JR];generalize spA rev u f (if vis rev u a=true then p+(a.1.size:Int) else p) l=n at *;generalize spA rev u f' (if vis rev u a=true then p+(a.1.size:Int) else p) l=n' at *;by_cases e:n'=0
   ·rw[iP e,tw];by_cases e2:p<f
    ·have:p<f':=by omega
     rw[decide_eq_true e2,decide_eq_true this];exact bp _
    ·rw[decide_eq_false e2,ec,uf];omega
   ·rw[iN e];repeat' split
    all_goals omega
theorem aH {rev:Int} {u:List Int} {f:Int}:∀{l:List Atm} {p:Int} {n:Nat},spA rev u f p l=n+1->∃a,l[n]? =some a/\vis rev u a=true
 |[],_,_,h=>by simp[spA] at h
 | a :: l,p,n,h => by
   rw[JR] at h;generalize (if vis rev u a=true then p+(a.1.size:Int) else p)=q at h;by_cases e:spA rev u f q l=0
   ·rw[iP e] at h;by_cases hv:(decide (p<f)&&vis rev u a)=true
    ·rw[iP hv] at h;have:n=0:=by omega
     subst this;exact⟨a,rfl,by simp only[bq] at hv;exact hv.2⟩
    ·rw[iN hv] at h;omega
   ·rw[iN e] at h;obtain⟨m,hm⟩:∃m,n=m+1:=⟨n-1,by omega⟩;subst hm;have h3:spA rev u f q l=m+1:=by omega
    obtain⟨b,h1,h2⟩:=aH h3;exact⟨b,by simpa using h1,h2⟩
theorem ZW {rev rank:Int}:∀{l:List Atm} {i:Nat} {a:Atm},l[i]? =some a->a.2.1<=rev->skp rev rank l<=i
 |[],_,_,h,_=>by simp at h
 | b :: l,0,a,h,ha => by simp at h;subst h;simp only[skp,jv];rw[decide_eq_false (by omega)];simp
 | b :: l,i+1,a,h,ha => by
   have:=ZW (rank:=rank) (l:=l) (i:=i) (a:=a) (by simpa using h) ha;simp only[skp,jv] at *;split;·simp;omega
   ·simp
theorem tB {a:Atm} (h:vis rev u a=true):a.2.1<=rev:=by simp only[vis,bq,dE] at h;exact h.1.1
theorem SO {rank:Int} (h:f<=f'):spt rev u rank f l<=spt rev u rank f' l:=by
 have hm:=aG (rev:=rev) (u:=u) (l:=l) (p:=0) h;unfold spt;by_cases e:spA rev u f 0 l=spA rev u f' 0 l;·rw[e];exact bp _
 ·obtain⟨n,hn⟩:∃n,spA rev u f' 0 l=n+1:=⟨spA rev u f' 0 l-1,by omega⟩;obtain⟨a,h1,h2⟩:=aH hn;have:=ZW (rank:=rank) (l:=l.drop (spA rev u f 0 l)) (i:=n-spA rev u f 0 l) (a:=a) (by rw[List.getElem?_drop,show spA rev u f 0 l+(n-spA rev u f 0 l)=n by omega];exact h1) (tB h2);omega
theorem hY {l:List Int} (h:f5 l=0):∀x∈l,x=0:=by
 induction l with
 |nil=>simp
 | cons y l ih =>
   unfold f5 at h;split at h
   ·rename_i e;intro x hx;rcases bv.1 hx with rfl|hx;·exact e
    ·exact ih h x hx
   ·rename_i e;exact absurd h e
structure Gok (s:ByteArray) (c:List Chg):Prop where
 v:A4 s=true
 len:c.length<=8
 bd:∀x∈c,0<=x.1/\x.1<=x.2.1/\x.2.1<=s.size
 eg:∀x∈c,isE s x.1=true/\isE s x.2.1=true
 od:orC c=false
 vt:∀x∈c,A4 x.2.2=true
theorem II (h:BV s c=0):Gok s c:=by
 unfold BV at h;split at h;·omega
 ·rename_i h1;split at h;·omega
  ·rename_i h2;have h3:=hY h;have a1:=h3 _ (mS);have a2:=h3 _ (mC _ mS);have a3:=h3 _ (mC _ (mC _ mS));have a4:=h3 _ (mC _ (mC _ (mC _ mS)));refine⟨by simpa using h1,by omega,λx hx=>?_,λx hx=>?_,?_,λx hx=>?_⟩
   ·split at a1;·omega
    ·rename_i e;have:bdC s x=false:=by
      cases hb:bdC s x with
      |false=>rfl
      |true=>exact absurd (kk.2 ⟨x,hx,hb⟩) e
     simp only[bdC,ml,decide_eq_false_iff_not] at this;omega
   ·split at a2;·omega
    ·rename_i e;have:egC s x=false:=by
      cases hb:egC s x with
      |false=>rfl
      |true=>exact absurd (kk.2 ⟨x,hx,hb⟩) e
     simpa[egC] using this
   ·split at a3;·omega
    ·rename_i e;simpa using e
   ·split at a4;·omega
    ·rename_i e;cases hb:A4 x.2.2 with
     |true=>rfl
     |false=>exact absurd (kk.2 ⟨x,hx,by simp[hb]⟩) e
theorem H7 {a b:Chg} {l:List Chg} (h:orC (a::b::l)=false):a.2.1<=b.1/\orC (b::l)=false:=by rw[orC] at h;simp only[ml,decide_eq_false_iff_not] at h;exact⟨by omega,h.2⟩
theorem bU {K:Nat} {l old:List Atm} {u:List Int} {rev rank w g:Int} {c:List Chg} (hK:100000<=K) (hl:l.length<=20000) (ho:old.length=l.length) (hc:c.length<=8) (hv:∀x∈c,A4 x.2.2=true) (hz:∀x∈c,x.2.2.size<=30000) (hb:∀x∈c,x.1<=x.2.1) :
 ∀(r:List Chg) (j k p:Nat) (out:List Atm),c.drop j=r->r.length<k->p<=l.length->(∀y,r.head? =some y->p<=spt rev u rank y.1 l)->orC r=false->out.length+r.length*60000+20000<=10000000->
 AC.l2 K c (c.map λy=>((spt rev u rank y.1 l:Nat):Int)) old w g rank k out (p:Int) (j:Int)=some (out++spl old p (r.map λy=>(spt rev u rank y.1 l,DE y.2.2 w g rank)))
 | [],j,k+1,p,out,h,_,hp,_,_,hout => by have:=A1 h;rw[AC.l2,tt,iP ⟨by omega,by omega,by simp;omega⟩];simp only[List.map_nil,spl,tN];rw[<-cq,my]
 | y :: r,j,k+1,p,out,h,hk,hp,hh,hod,hout => by
   obtain⟨h1,h2,h3⟩:=A0 h zC
   have hy:y∈c:=by have:y∈c.drop j:=by rw [h]; exact mS
                   exact mD this
   have hs:=hh y rfl;have hle:=SN (rev:=rev) (u:=u) (rank:=rank) (f:=y.1) (l:=l);have hg:(c.map λy=>((spt rev u rank y.1 l:Nat):Int)).getD j 0=((spt rev u rank y.1 l:Nat):Int):=by
    rw[bu,fu];have:c[j]? =some y:=by rw[<-h2,bu,bj h1];rfl
    rw[this];rfl
   simp only[lC] at hout;have hpl:=O2 (s:=y.2.2) (w:=w) (g:=g) (r:=rank) (m:=y.2.2.size) (t:=0);have hpl:(DE y.2.2 w g rank).length<=y.2.2.size:=hpl;have hzy:=hz y hy;have htl:(cu ((spt rev u rank y.1 l)-p) (List.drop p old)).length<=20000:=by simp;omega
   rw[AC.l2,iP (by simp;omega),tN,h2,hg,tN,tN,iP ⟨by omega,by omega,by simp;omega,by omega,by omega,by omega,by omega⟩,mQ hK hzy (hv y hy),oB,iP (by rw[lA];omega),up1,
    bU hK hl ho hc hv hz hb r (j+1) k _ _ h3 (by simpa using hk) hle (λz hz'=>by
     cases r with
     |nil=>simp at hz'
     | cons z' r =>
       simp at hz';subst hz';have:=H7 hod;exact SO (yh (hb y hy) this.1)) (by
     cases r with
     |nil=>rfl
     |cons z' r=>exact(H7 hod).2) (by rw[lA,lA];omega)]
   simp[spl]
theorem rN {rank g:Int} (hK:100000<=K) (hu:u.length<=50000) (hl:Aok l) (hc:Cok c) (ht:(vtx rev u l).length<=50000) (h0:BV (tP (vtx rev u l)) c=0):AC K l rev u c w g rank=some (upS rev u c w g rank l):=by
 have hlen:=hl.1;have G:=II h0;have hbl:=PG (rev:=rev) (u:=u) (c:=c) (l:=l) (p:=0);rw[AC,qD hK hu hl hc ht h0,oB,OQ hK hu hl,oB,MF hK (by simpa[tP,cr] using ht) hc,oB,h0,uf,iP ⟨by omega,by omega,by omega,by omega,by omega⟩,dX hK hu hl hc ht h0,oB];have htl:=T5 (bs:=ctB rev u c 0 l) (i:=0);have e0:=bT (K:=K) (ts:=AR 0 (ctB rev u c 0 l)) (by omega) (AR 0 (ctB rev u c 0 l)) 0 K (bn l.length false) rfl (by omega) (λx hx=>by have:=bP hx;simp;omega)
 have e0:AC.l0 K (AR 0 (ctB rev u c 0 l)) K (bn l.length false) 0=_:=e0;have e1:=SE (bs:=ctB rev u c 0 l) (pre:=[]) (i:=0) rfl;rw[cd,cd,hbl] at e1;rw[tN,e0,e1,oB,MG hK hl,oB,iP (by simp)];have e2:=T7 (K:=K) (l:=l) (cut:=ctB rev u c 0 l) (w:=w) (g:=g) hlen hbl l 0 K [] _ rfl rfl (by omega) (by omega) (λa ha=>(hl.2 a ha).2);have e2:AC.l1 K l (ctB rev u c 0 l) w g K l 0=_:=e2;rw[e2,oB,cd];have e3:=bU (K:=K) (l:=l) (old:=ctA (w,g) (ctB rev u c 0 l) l) (u:=u) (rev:=rev) (rank:=rank) (w:=w) (g:=g) (c:=c) hK hlen PF G.len G.vt hc.2 (λx hx=>(G.bd x hx).2.1) c 0 K 0 [] rfl (by have:=G.len;omega) (by omega) (λ_ _=>by omega) G.od (by have:=G.len;simp;omega);have e3:AC.l2 K c _ _ w g rank K [] 0 0=_:=e3;exact e3
def Grp (g:List Int):Prop:=g.Pairwise (·< ·)/\∀x∈g,0<=x/\x<60
theorem aE:∀{l:List Int} {lo hi:Int},l.Pairwise (·< ·)->(∀x∈l,lo<=x/\x<hi)->lo<=hi->(l.length:Int)<=hi-lo
 |[],lo,hi,_,_,h=>by simp;omega
 | a :: l,lo,hi,hp,hb,h => by obtain⟨h1,h2⟩:=dz.1 hp;have ha:=hb a mS;have:=aE (l:=l) (lo:=a+1) (hi:=hi) h2 (λx hx=>⟨by have:=h1 x hx;omega,(hb x (mC _ hx)).2⟩) (by omega);simp only[lC];omega
theorem Grp.len (h:Grp g):g.length<=60:=by have:=aE h.1 h.2 (by omega);omega
theorem Grp.ins (h:Grp g) (hx:0<=x/\x<60):Grp (tZ x g):=⟨A1j h.1,λy hy=>by
 rcases vS.1 hy with rfl|hy;·exact hx
 ·exact h.2 y hy⟩
theorem Grp.filter {q:Int->Bool} (h:Grp g):Grp (g.filter q):=⟨h.1.filter q,λy hy=>h.2 y (ef.1 hy).1⟩
theorem Grp.del (h:Grp g):Grp (uQ x g):=h.filter
structure Atk (h:Int) (a:Atm):Prop where
 s1:1<=a.1.size
 s4:a.1.size<=4
 r0:0<=a.2.1
 r1:a.2.1<=h
 g0 : -1<=a.2.2.1
 g1:a.2.2.1<60
 n:(a.2.2.2.2.length:Int)<=h
 c:∀c∈a.2.2.2.2,0<=c.1/\c.1<=h/\-1<=c.2/\c.2<60
structure Ivt (l:List Atm) (us:List (List Int)) (f:Int) (g o:List Int):Prop where
 ne:0<us.length
 lo:0<=f
 hi:hdR us f<=200
 gg:Grp g
 oo:Grp o
 uu:∀u∈us,u.Pairwise (·< ·)/\∀x∈u,x∈g
 len:l.length<=4000
 aa:∀a∈l,Atk (hdR us f) a
theorem Ivt.rok (h:Ivt l us f g o):Rok us f g o:=by have h1:=h.ne;have h2:=h.lo;have h3:=h.hi;unfold hdR at h3;refine⟨h1,by omega,h2,by omega,λu hu=>?_,by have:=h.gg.len;omega,by have:=h.oo.len;omega⟩;have:Grp u:=⟨(h.uu u hu).1,λx hx=>h.gg.2 x ((h.uu u hu).2 x hx)⟩;have:=this.len;omega
theorem Ivt.aok (h:Ivt l us f g o):Aok l:=by refine⟨by have:=h.len;omega,λa ha=>?_⟩;have:=h.aa a ha;have h1:=this.s4;have h2:=this.n;have h3:=h.hi;exact⟨by omega,by omega⟩
theorem TP {rev:Int} {u:List Int}:∀{l:List Atm},(∀a∈l,a.1.size<=4)->(vtx rev u l).length<=4*l.length
 |[],_=>by simp[vtx]
 | a :: l,h => by have:=TP (rev:=rev) (u:=u) (l:=l) λb hb=>h b (mC _ hb);have:=h a mS;simp only[vtx];split<;>simp[CB]<;>omega
theorem AX {x:List Int}:(tP x).size=x.length:=by simp[tP,cr]
theorem Ivt.vtx (h:Ivt l us f g o):(vtx rev u l).length<=16000:=by have:=TP (rev:=rev) (u:=u) (l:=l) λa ha=>(h.aa a ha).s4;have:=h.len;omega
theorem MR (h:Rok us f g o):GA K l us f g o=some (hdR us f):=by rw[GA,KT h,oB]
def G2 (l:List Atm) (us:List (List Int)) (f r:Int):ByteArray×Int:=if lvR us f r=true then (tP (vtx r (unR us f r) l),0) else (iu #[],190)
theorem KN {r:Int} (hK:100000<=K) (h:Rok us f g o) (hl:Aok l):FQ K l us f g o r=some (G2 l us f r):=by have:=F9 h (r:=r);rw[FQ,GV,NA h,oB,oB,FR,M3 h,oB,oB,OQ hK (by omega) hl,oB];unfold G2;cases lvR us f r<;>rfl
theorem IX (h:0<us.length):lvR us f (hdR us f)=true:=by unfold lvR hdR;simp;omega
theorem HJ (h:0<us.length):unR us f (hdR us f)=lsR us:=by unfold unR;rw[iP (IX h)];unfold lsR hdR;rw[show (f+(us.length:Int)-1-f).toNat=us.length-1 by omega]
def A7 (l:List Atm) (us:List (List Int)) (f:Int):List Int:=vtx (hdR us f) (lsR us) l
theorem PU (hK:100000<=K) (h:Rok us f g o) (hl:Aok l):HT K l us f g o=some (l,us,g,o):=by rw[HT,MG hK hl,oB,n8 hK h,oB]
theorem VB (hK:100000<=K) (h:Rok us f g o) (hl:Aok l):IM K l us f g o=some (decide ((A7 l us f).length<=20000)):=by rw[IM,MR h,oB,KN hK h hl,oB];unfold G2 A7;rw[iP (IX h.ne),HJ h.ne,AX];congr 1;rw[decide_eq_decide];omega
def AL (l:List Atm) (us:List (List Int)) (f:Int) (g o:List Int) (base grp rank:Int) (c:List Chg):Int×Int×List Atm×List (List Int)×List Int×List Int:=
 if lvR us f base=false then (0,190,l,us,g,o)
 else if BV (tP (vtx base (unR us f base) l)) c≠0 then (0,BV (tP (vtx base (unR us f base) l)) c,l,us,g,o)
 else if (adR us f g o grp).2.1≠0 then (0,(adR us f g o grp).2.1,l,us,g,o)
 else if rank<0\/1000000<rank then (0,10,l,us,g,o)
 else if 4000<(upS base (unR us f base) c (hdR us f+1) grp rank l).length then (0,70,l,us,g,o)
 else (hdR us f+1,0,upS base (unR us f base) c (hdR us f+1) grp rank l,us++[lsR us],tZ grp g,o)
theorem MB (h:(adR us f g o x).2.1=0):adR us f g o x=(hdR us f+1,0,us++[lsR us],tZ x g)/\o.contains x=false/\0<=x/\x<60/\hdR us f<200:=by
 unfold adR at *;split at h;·simp at h
 ·rename_i h1;split at h;·simp at h
  ·rename_i h2;rw[iN h1,iN h2];refine⟨rfl,?_,?_,?_,by omega⟩
   ·cases e:o.contains x with
    |false=>rfl
    |true=>exact absurd (.inl e) h1
   ·omega
   ·omega
theorem GY:hdR (us++[u]) f=hdR us f+1:=by unfold hdR;simp;omega
theorem QS (h:0<us.length):lsR us∈us:=by
 have hi:us.length-1<us.length:=by omega
 exact HY hi
theorem NF {c:Int×Int}:∀{bs:List Bool} {l:List Atm} {a:Atm},a∈ctA c bs l->∃b∈l,a=b\/a=DZ b c
 |[],l,a,h=>⟨a,by simpa[ctA] using h,.inl rfl⟩
 |_::_,[],a,h=>by simp[ctA] at h
 | b :: bs,x :: l,a,h => by
   simp only[ctA] at h;rcases bv.1 h with rfl|h
   ·refine⟨x,mS,?_⟩;split;·exact .inr rfl
    ·exact .inl rfl
   ·obtain⟨y,h1,h2⟩:=NF h;exact⟨y,mC _ h1,h2⟩
theorem NH {old:List Atm}:∀{r:List (Nat×List Atm)} {p:Nat} {a:Atm},a∈spl old p r->a∈old\/∃q∈r,a∈q.2
 |[],p,a,h=> .inl (mD h)
 | (s,x) :: r,p,a,h => by
   simp only[spl] at h;rcases cf.1 h with h|h;·exact .inl (mD (List.mem_of_mem_take h))
   ·rcases cf.1 h with h|h;·exact .inr ⟨_,mS,h⟩
    ·rcases NH h with h|⟨q,h1,h2⟩;·exact .inl h
     ·exact .inr ⟨q,mC _ h1,h2⟩
theorem bS {g rank h:Int} (hl:∀a∈l,Atk h a) (hw:w=h+1) (h0:0<=h) (hg:0<=g/\g<60) (hv:∀x∈c,A4 x.2.2=true):∀a∈upS rev u c w g rank l,Atk w a:=by
 intro a ha;rcases NH ha with h1|⟨q,h1,h2⟩
 ·obtain⟨b,hb,e⟩:=NF h1;have A:=hl b hb;have t1:=A.s1;have t2:=A.s4;have t3:=A.r0;have t4:=A.r1;have t5:=A.g0;have t6:=A.g1;have t7:=A.n;rcases e with rfl|rfl;·exact⟨t1,t2,t3,by omega,t5,t6,by omega,λc hc=>by have:=A.c c hc;omega⟩
  ·refine⟨t1,t2,t3,by simp only[DZ];omega,t5,t6,by simp[DZ];omega,λc hc=>?_⟩;rcases cf.1 (show c∈b.2.2.2.2++[(w,g)] from hc) with hc|hc;·have:=A.c c hc;omega
   ·simp at hc;subst hc;exact⟨by omega,by omega,by omega,by omega⟩
 ·obtain⟨x,hx,rfl⟩:=cj.1 h1;obtain⟨k1,k2,k3⟩:=O3 (hv x hx) a h2;refine⟨k1,k2,?_,?_,?_,?_,?_,λc hc=>?_⟩;·rw[k3];simp only;omega
  ·rw[k3];simp only;omega
  ·rw[k3];simp only;omega
  ·rw[k3];simp only;omega
  ·rw[k3];simp;omega
  ·rw[k3] at hc;simp at hc
theorem PQ {base rank:Int} (hK:100000<=K) (h:Ivt l us f g o) (hc:Cok c) :
 CD K l us f g o base grp rank c=some (AL l us f g o base grp rank c):=by
 have R:=h.rok;have A:=h.aok;have hul:=F9 R (r:=base);have htl:=h.vtx (rev:=base) (u:=unR us f base);rw[CD,KN hK R A,oB];unfold AL G2;cases hlv:lvR us f base with
 |false=>rfl
 | true =>
   rw[iP rfl];simp only[bne_self_eq_false,iq,if_false,Bool.true_eq_false];rw[MF hK (by rw[AX];omega) hc,oB];by_cases hch:BV (tP (vtx base (unR us f base) l)) c=0
   ·have n1:¬(BV (tP (vtx base (unR us f base) l)) c≠0):=by simpa using hch
    rw[iN n1,iN (by simpa using hch),PU hK R A,oB];simp only;rw[cN R,oB];by_cases had:(adR us f g o grp).2.1=0
    ·have n2:¬((adR us f g o grp).2.1≠0):=by simpa using had
     rw[iN n2,iN (by simpa using had)];obtain⟨ead,h1,h2,h3,h4⟩:=MB had;by_cases hrk:rank<0\/1000000<rank
     ·have:(if decide (rank<0)=true then some true else some (decide (rank>1000000)))=some true:=by
       rcases hrk with h|h;·rw[iP (by simpa using h)]
       ·split;·rfl
        ·simpa using h
      rw[this,oB,iP rfl,iP hrk]
     ·have:(if decide (rank<0)=true then some true else some (decide (rank>1000000)))=some false:=by
       rw[tt];simp;omega
      have G:=II hch;have haT:=bS (rev:=base) (u:=unR us f base) (c:=c) (w:=hdR us f+1) (g:=grp) (rank:=rank) h.aa rfl (by have:=h.lo;have:=h.ne;unfold hdR;omega) ⟨h2,h3⟩ G.vt;rw[this,oB,uf,iN hrk,FR,M3 R,oB,oB,ead];simp only;rw[rN hK (by omega) A hc (by omega) hch,oB];by_cases hln:4000<(upS base (unR us f base) c (hdR us f+1) grp rank l).length;·rw[tq,iP hln]
      ·have R2:Rok (us++[lsR us]) f (tZ grp g) o:=by
        refine⟨by simp,?_,R.lo,R.hi,λu hu=>?_,by have:=(h.gg.ins ⟨h2,h3⟩).len;omega,R.o⟩
        ·have:=h.hi;have:=h.lo;have:=h.ne;unfold hdR at *;simp;omega
        ·rcases cf.1 hu with hu|hu;·exact R.u u hu
         ·simp at hu;subst hu;exact KW R
       have A2:Aok (upS base (unR us f base) c (hdR us f+1) grp rank l):=by refine⟨by omega,λa ha=>?_⟩;have T:=haT a ha;have:=T.s4;have:=T.n;exact⟨by omega,by omega⟩
       have hfit:(A7 (upS base (unR us f base) c (hdR us f+1) grp rank l) (us++[lsR us]) f).length<=20000:=by have:=TP (rev:=hdR (us++[lsR us]) f) (u:=lsR (us++[lsR us])) (l:=upS base (unR us f base) c (hdR us f+1) grp rank l) λa ha=>(haT a ha).s4;unfold A7;omega
       rw[tt,iN hln,VB hK R2 A2,oB,tt]
    ·rw[iP had,iP (by simpa using had)]
   ·rw[iP hch,iP (by simpa using hch)]
def B5 (gs u:List Int) (g:Int):Bool:=gs.contains g&&u.contains g
def DI (gs u:List Int) (g:Int):Bool:=gs.contains g&&!u.contains g
theorem RW {g:Int} (hK:100000<=K) (h1:gs.length<=1000) (h2:u.length<=1000):GW K g gs u=some (B5 gs u g):=by rw[GW,IJ hK (by omega),oB,IJ hK (by omega)];unfold B5;cases gs.contains g<;>simp
theorem nQ {g:Int} (hK:100000<=K) (h1:gs.length<=1000) (h2:u.length<=1000):KR K g gs u=some (DI gs u g):=by rw[KR,IJ hK (by omega),oB,IJ hK (by omega)];unfold DI;cases gs.contains g<;>simp
theorem YD {K:Nat} {gs u:List Int} {l:List (Int×Int)} (hK:100000<=K) (h1:gs.length<=1000) (h2:u.length<=1000) (hl:l.length<=50000):∀(r:List (Int×Int)) (j k:Nat),l.drop j=r->r.length<k->∃n,EM.l0 K l gs u k (j:Int)=some n/\decide (n>=0)=r.any λc=>DI gs u c.2
 | [],j,k+1,h,_ => by have:=A1 h;refine⟨-1,?_,rfl⟩;rw[EM.l0,tt]
 | g :: r,j,k+1,h,hk => by
   obtain⟨h3,h4,h5⟩:=A0 h zP;rw[EM.l0,tq,tN,h4,MY,nQ hK h1 h2,oB,oB,iP ⟨by omega,by omega⟩];cases e:DI gs u g.2 with
   |true=>exact⟨j,by rw[iP rfl],by simp[e]⟩
   | false =>
     obtain⟨n,h6,h7⟩:=YD hK h1 h2 hl r (j+1) k h5 (by simpa using hk);refine⟨n,by rw[uf,up1];exact h6,by rw[h7];simp[e]⟩
theorem YE {K:Nat} {gs u:List Int} {l:List (Int×Int)} (hK:100000<=K) (h1:gs.length<=1000) (h2:u.length<=1000) (hl:l.length<=50000):∀(r:List (Int×Int)) (j k:Nat),l.drop j=r->r.length<k->
 (DG.l0 K l gs u k (j:Int)=some (-1)/\∀c∈r,B5 gs u c.2=false)\/∃pre c post,r=pre++c::post/\(∀c∈pre,B5 gs u c.2=false)/\B5 gs u c.2=true/\DG.l0 K l gs u k (j:Int)=some ((j+pre.length:Nat):Int)
 | [],j,k+1,h,_ => by have:=A1 h;exact .inl ⟨by rw[DG.l0,tt],by simp⟩
 | g :: r,j,k+1,h,hk => by
   obtain⟨h3,h4,h5⟩:=A0 h zP;rw[DG.l0,tq,tN,h4,IN,RW hK h1 h2,oB,oB,iP ⟨by omega,by omega⟩];cases e:B5 gs u g.2 with
   |true=>exact .inr ⟨[],g,r,rfl,by simp,e,by rw[iP rfl];rfl⟩
   | false =>
     rw[uf,up1];rcases YE hK h1 h2 hl r (j+1) k h5 (by simpa using hk) with⟨h6,h7⟩|⟨pre,c,post,h6,h7,h8,h9⟩;·exact .inl ⟨h6,λc hc=>(bv.1 hc).elim (λq=>q▸e) (h7 c)⟩
     ·refine .inr ⟨g::pre,c,post,by rw[h6];rfl,λc hc=>(bv.1 hc).elim (λq=>q▸e) (h7 c),h8,by rw[h9,lC];congr 2;omega⟩
theorem PI {K:Nat} {gs u:List Int} (hK:100000<=K) (h1:gs.length<=1000) (h2:u.length<=1000):∀(r:List (Int×Int)) (i j k:Nat) (s:List (Int×Int)),s.drop j=r->i<j->j<=s.length->s.length<=50000->r.length<k->
 ∃s' i',DF.l0 K gs u k s (i:Int) (j:Int)=some (s',((i':Nat):Int))/\i'<=s'.length/\s'.take i'=s.take i++r.filter λc=>!B5 gs u c.2
 | [],i,j,k+1,s,h,hij,hj,hs,_ => by have:=A1 h;exact⟨s,i,by rw[DF.l0,tt],by omega,by simp⟩
 | g :: r,i,j,k+1,s,h,hij,hj,hs,hk => by
   obtain⟨h3,h4,h5⟩:=A0 h zP;rw[DF.l0,tq,iP ⟨by omega,by omega⟩,tN,h4,IN,RW hK h1 h2,oB,oB,up1,up1];cases e:B5 gs u g.2 with
   | true =>
     rw[uf];obtain⟨s',i',h6,h7,h8⟩:=PI hK h1 h2 r i (j+1) k s h5 (by omega) (by omega) hs (by simpa using hk);exact⟨s',i',h6,h7,by rw[h8];simp[e]⟩
   | false =>
     rw[iP (by simp),iP ⟨by omega,by omega⟩,tN];obtain⟨s',i',h6,h7,h8⟩:=PI hK h1 h2 r (i+1) (j+1) k (s.set i (g.1,g.2)) (by rw[List.drop_set_of_lt (by omega)];exact h5) (by omega) (by simp;omega) (by simpa using hs) (by simpa using hk);refine⟨s',i',h6,h7,?_⟩;rw[h8,List.take_add_one,List.take_set_of_le (bp i),List.getElem?_set_self (by omega)];simp[e]
theorem eG {s:List (Int×Int)} (hK:100000<=K) (h1:gs.length<=1000) (h2:u.length<=1000) (hs:s.length<=50000):DF K s gs u=some (s.filter λc=>!B5 gs u c.2):=by
 rw[DF,DG];rcases YE hK h1 h2 hs s 0 K rfl (by omega) with⟨h6,h7⟩|⟨pre,c,post,h6,h7,h8,h9⟩
 ·have h6:DG.l0 K s gs u K 0=_:=h6;rw[h6,oB,iP (by simp)];congr 1;exact(ir.2 λc hc=>by simp[h7 c hc]).symm
 ·have h9:DG.l0 K s gs u K 0=some ((0+pre.length:Nat):Int):=h9;rw[ew] at h9;have hl:pre.length<s.length:=by rw[h6];simp
  obtain⟨s',i',k1,k2,k3⟩:=PI hK h1 h2 post pre.length (pre.length+1) K s (by rw[h6];simp) (by omega) (by omega) hs (by rw[h6] at hs;simp at hs;omega);rw[h9,oB,uf,up1,k1,oB];simp only;have hpl:(tU s' (bn (s'.length-bc (i':Int)) zP) (bc (i':Int))).length=s'.length:=by simp[tU];omega
  rw[iP ⟨by omega,by omega,by rw[hpl];omega⟩];congr 1;have e1:s.take pre.length=pre:=by rw[h6];simp
  simp only[tN,Nat.sub_zero,List.drop_zero,tU];rw[pm (by simp;omega),List.take_take,Nat.min_self,k3,e1,h6,og,fx,h8];simp only[Bool.not_true,iq,if_false];congr 1;exact(ir.2 λc hc=>by simp[h7 c hc]).symm
def kpA (gs u:List Int) (a:Atm):Bool:=!B5 gs u a.2.2.1&&!a.2.2.2.2.any λc=>DI gs u c.2
def lfA (gs u:List Int) (a:Atm):Atm:=(a.1,(a.2.1,(if gs.contains a.2.2.1=true then -1 else a.2.2.1,(a.2.2.2.1,a.2.2.2.2.filter λc=>!B5 gs u c.2))))
def rsL (gs u:List Int) (l:List Atm):List Atm:=(l.filter (kpA gs u)).map (lfA gs u)
theorem SB {a:Atm}:rsL gs u (a::l)=if kpA gs u a=true then lfA gs u a::rsL gs u l else rsL gs u l:=by unfold rsL;rw[fx];split<;>rfl
theorem mN {out:List Atm} {n:Nat} {a:Atm} (h:n<out.length):(tU out (cu (out.length-n) [a]) n).take (n+1)=out.take n++[a]/\(tU out (cu (out.length-n) [a]) n).length=out.length/\(cu (out.length-n) [a]).length=1:=by
 obtain⟨m,hm⟩:∃m,out.length-n=m+1:=⟨out.length-n-1,by omega⟩;have e:cu (out.length-n) [a]=[a]:=by rw[hm];simp
 rw[e];refine⟨?_,?_,rfl⟩
 ·unfold tU;rw[<-aA,pm (by simp;omega),List.take_of_length_le (by simp;omega)]
 ·simp[tU];omega
theorem iR {a:Atm} (hK:100000<=K) (h1:gs.length<=1000) (h2:u.length<=1000) (ha:a.2.2.2.2.length<=1000) :
 ((GW K a.2.2.1 gs u).bind λr_45=>if r_45=true then some true else (JN K a.2.2.2.2 gs u).bind λr_49=>some r_49)=some (!kpA gs u a):=by
 obtain⟨n,h3,h4⟩:=YD (K:=K) (l:=a.2.2.2.2) hK h1 h2 (by omega) a.2.2.2.2 0 K rfl (by omega);have h3:EM.l0 K a.2.2.2.2 gs u K 0=some n:=h3;rw[RW hK h1 h2,oB,JN,EM,h3,oB,oB,h4];unfold kpA;cases B5 gs u a.2.2.1<;>simp
theorem RX {K:Nat} {gs u:List Int} {l:List Atm} (hK:100000<=K) (h1:gs.length<=1000) (h2:u.length<=1000) (hl:Aok l):∀(r:List Atm) (j k n:Nat) (out:List Atm),l.drop j=r->j<=l.length->r.length<k->out.length=l.length->n<=j->
 CT.l0 K l gs u k out (n:Int) (j:Int)=some (out.take n++rsL gs u r)
 | [],j,k+1,n,out,h,hj,_,ho,hn => by have:=A1 h;have hlen:=hl.1;rw[CT.l0,tt,iP ⟨by omega,by omega⟩];simp[rsL]
 | a :: r,j,k+1,n,out,h,hj,hk,ho,hn => by
   obtain⟨h3,h4,h5⟩:=A0 h zA;have hlen:=hl.1;have ha:=hl.2 a (mdr h);have hb:(0:Int)<=(n:Int)/\(n:Int)<=out.length:=⟨by omega,by omega⟩;rw[CT.l0,tq,iP ⟨by omega,by omega⟩,tN,h4,iR hK h1 h2 ha.2,oB,up1,SB];cases hkp:kpA gs u a with
   | false =>
     rw[iP (by simp),uf];exact RX hK h1 h2 hl r (j+1) k n out h5 (by omega) (by simpa using hk) ho (by omega)
   | true =>
     rw[uf,iP rfl,U7 ha.2,oB,eG hK h1 h2 (by omega),oB,IJ hK (by omega),oB];simp only[iP hb,tN];have key:∀y:Atm,y=lfA gs u a->CT.l0 K l gs u k (tU out (cu (out.length-n) [y]) n) (ba .i64 ((n:Int)+((cu (out.length-n) [y]).length:Nat))) ((j+1:Nat):Int)=some (out.take n++lfA gs u a::rsL gs u r):=by intro y hy;obtain⟨p1,p2,p3⟩:=mN (out:=out) (n:=n) (a:=y) (by omega);rw[p3,show ((n:Int)+((1:Nat):Int))=(n:Int)+1 by omega,up1,RX hK h1 h2 hl r (j+1) k (n+1) _ h5 (by omega) (by simpa using hk) (by rw[p2];exact ho) (by omega),p1,hy];simp
     cases hgc:gs.contains a.2.2.1 with
     |true=>rw[iP rfl];exact key _ (by simp only[lfA,hgc];rfl)
     |false=>rw[uf];exact key _ (by simp only[lfA,hgc];rfl)
theorem nR (hK:100000<=K) (h1:gs.length<=1000) (h2:u.length<=1000) (hl:Aok l):CT K l gs u=some (rsL gs u l):=by have hlen:=hl.1;rw[CT,iP ⟨by omega,by omega,by omega,by omega⟩];exact RX hK h1 h2 hl l 0 K 0 _ rfl (by omega) (by omega) (by simp) (by omega)
def C3 (l:List Atm) (us:List (List Int)) (f:Int) (g o:List Int) (x:Int):Int×Int×List Atm×List (List Int)×List Int×List Int:=
 if (tgR us f g x).2.1≠0 then (0,(tgR us f g x).2.1,l,us,g,o) else (hdR us f+1,0,l,us++[tgS x (lsR us)],g,o)
def EW (l:List Atm) (us:List (List Int)) (f:Int) (g o gs:List Int):Int×List Atm×List (List Int)×Int×List Int×List Int:=
 if okF g [] gs=true then (0,rsL gs (lsR us) l,(fgR (hdR us f) (fgL gs []) (lsR us) g o).2) else (210,l,us,f,g,o)
theorem T1 (h:(tgR us f g x).2.1=0):tgR us f g x=(hdR us f+1,0,us++[tgS x (lsR us)])/\x∈g/\hdR us f<200:=by
 unfold tgR at *;split at h
 ·rename_i h1;split at h;·simp at h
  ·rename_i h2;rw[iP h1,iN h2];exact⟨rfl,by simpa using h1,by omega⟩
 ·simp at h
theorem qU (h:u.Pairwise (·< ·)) (hu:∀y∈u,y∈g) (hx:x∈g):(tgS x u).Pairwise (·< ·)/\∀y∈tgS x u,y∈g:=by
 unfold tgS;split;·exact⟨h.filter _,λy hy=>hu y (ef.1 hy).1⟩
 ·exact⟨A1j h,λy hy=>by
   rcases vS.1 hy with rfl|hy;·exact hx
   ·exact hu y hy⟩
theorem Atk.up {h h':Int} {a:Atm} (A:Atk h a) (hh:h<=h'):Atk h' a:=
 ⟨A.s1,A.s4,A.r0,by have:=A.r1;omega,A.g0,A.g1,by have:=A.n;omega,λc hc=>by have:=A.c c hc;omega⟩
theorem T2 (h:Ivt l us f g o) (hx:x∈g) (hh:hdR us f<200):Ivt l (us++[tgS x (lsR us)]) f g o:=by
 refine⟨by simp,h.lo,by rw[GY];omega,h.gg,h.oo,λu hu=>?_,h.len,λa ha=>(h.aa a ha).up (by rw[GY];omega)⟩;rcases cf.1 hu with hu|hu;·exact h.uu u hu
 ·simp at hu;subst hu;have:=h.uu _ (QS h.ne);exact qU this.1 this.2 hx
theorem gW (hK:100000<=K) (h:Ivt l us f g o):HW K l us f g o x=some (C3 l us f g o x):=by
 have R:=h.rok;have A:=h.aok;rw[HW,PU hK R A,oB];simp only;rw[qX R h.gg.2,oB];unfold C3;by_cases ht:(tgR us f g x).2.1=0
 ·obtain⟨e,hx,hh⟩:=T1 ht;have I2:=T2 h hx hh;have hfit:=I2.vtx (rev:=hdR (us++[tgS x (lsR us)]) f) (u:=lsR (us++[tgS x (lsR us)]));rw[iN (by simpa using ht),iN (by simpa using ht),e];simp only;rw[VB hK I2.rok A,oB,iN (by unfold A7;simp;omega)]
 ·rw[iP (by simpa using ht),iP (by simpa using ht)]
theorem gX (h:Rok us f g o):IL K l us f g o=some (lsR us):=by rw[IL,MR h,oB,M3 h,oB,HJ h.ne]
theorem gH (hK:100000<=K) (h:Ivt l us f g o) (hg:gs.length<=1000):KP K l us f g o gs=some (EW l us f g o gs):=by
 have R:=h.rok;have hls:=KW R;rw[KP,gX R,oB,i8 hK R h.gg.2 hg,oB];unfold EW foR;cases okF g [] gs with
 |false=>rfl
 | true =>
   rw[iP rfl,iP rfl,iN (by simp[fgR]),nR hK hg (by omega) h.aok,oB]
theorem MP {base rank:Int} (h:Ivt l us f g o) :
 Ivt (AL l us f g o base grp rank c).2.2.1 (AL l us f g o base grp rank c).2.2.2.1 f (AL l us f g o base grp rank c).2.2.2.2.1 (AL l us f g o base grp rank c).2.2.2.2.2:=by
 unfold AL;repeat' split
 all_goals first|exact h|skip
 rename_i h1 h2 h3 h4 h5;obtain⟨ead,k1,k2,k3,k4⟩:=MB (show (adR us f g o grp).2.1=0 by simpa using h3);have G:=II (show BV (tP (vtx base (unR us f base) l)) c=0 by simpa using h2);have haT:=bS (rev:=base) (u:=unR us f base) (c:=c) (w:=hdR us f+1) (g:=grp) (rank:=rank) h.aa rfl (by have:=h.lo;have:=h.ne;unfold hdR;omega) ⟨k2,k3⟩ G.vt;refine⟨by simp,h.lo,by rw[GY];omega,h.gg.ins ⟨k2,k3⟩,h.oo,λu hu=>?_,by simp only;omega,λa ha=>by rw[GY];exact haT a ha⟩;have hsub:∀u∈us,u.Pairwise (·< ·)/\∀x∈u,x∈tZ grp g:=λu hu=>⟨(h.uu u hu).1,λx hx=>vS.2 (.inr ((h.uu u hu).2 x hx))⟩;rcases cf.1 hu with hu|hu;·exact hsub u hu
 ·simp at hu;subst hu;exact hsub _ (QS h.ne)
theorem qV (h:Ivt l us f g o):Ivt (C3 l us f g o x).2.2.1 (C3 l us f g o x).2.2.2.1 f (C3 l us f g o x).2.2.2.2.1 (C3 l us f g o x).2.2.2.2.2:=by
 unfold C3;split;·exact h
 ·rename_i ht;obtain⟨e,hx,hh⟩:=T1 (show (tgR us f g x).2.1=0 by simpa using ht);exact T2 h hx hh
theorem V6:∀{gs o:List Int},Grp o->(∀x∈gs,0<=x/\x<60)->Grp (fgL gs o)
 |[],o,h,_=>h
 | x :: gs,o,h,hg => by simp only[fgL,fk];exact V6 (h.ins (hg x mS)) λy hy=>hg y (mC _ hy)
theorem iX {a:Atm} {h:Int} (A:Atk h a):Atk h (lfA gs u a):=by
 have h5:=A.g0;have h6:=A.g1;have h7:=A.n;refine⟨A.s1,A.s4,A.r0,A.r1,?_,?_,?_,λc hc=>A.c c (ef.1 hc).1⟩;·simp only[lfA];split<;>omega
 ·simp only[lfA];split<;>omega
 ·have:=mc (λc:Int×Int=>!B5 gs u c.2) a.2.2.2.2;simp only[lfA];omega
theorem i7 (h:Ivt l us f g o):Ivt (EW l us f g o gs).2.1 (EW l us f g o gs).2.2.1 (EW l us f g o gs).2.2.2.1 (EW l us f g o gs).2.2.2.2.1 (EW l us f g o gs).2.2.2.2.2:=by
 unfold EW;split
 ·rename_i hok;have hs:=J1 hok;have hmem:∀x,x∈fgL gs []↔x∈gs:=λx=>by rw[IY];simp
  have hd:hdR [(lsR us).filter λx=>!(fgL gs []).contains x] (hdR us f)=hdR us f:=by unfold hdR;simp
  have hl:=h.uu _ (QS h.ne);refine⟨by simp[fgR],by have:=h.lo;have:=h.ne;simp only[fgR];unfold hdR;omega,?_,h.gg.filter,?_,λu hu=>?_,?_,λa ha=>?_⟩;·simp only[fgR];rw[hd];exact h.hi
  ·refine V6 h.oo λx hx=>?_;exact h.gg.2 x (hs.1 x ((hmem x).1 hx)).1
  ·simp only[fgR,df] at hu;subst hu;refine⟨hl.1.filter _,λx hx=>?_⟩;have hx:=ef.1 hx;exact ef.2 ⟨hl.2 x hx.1,hx.2⟩
  ·have:=mc (kpA gs (lsR us)) l;have:=h.len;simp only[rsL,du];omega
  ·simp only[fgR];rw[hd];obtain⟨b,hb,rfl⟩:=cj.1 (show a∈(l.filter (kpA gs (lsR us))).map (lfA gs (lsR us)) from ha);exact iX (h.aa b (ef.1 hb).1)
 ·exact h
theorem up2 (h:j<4611686018427387904:=by omega):ba .i64 ((j:Int)+1)=((j+1:Nat):Int):=by rw[w64];omega
def fwC (c:List Chg):Bool:=c.all (λx=>decide (x.2.2.size<=60))&&decide (c.length<=12)
theorem V4 {K:Nat} {c:List Chg} (hc:c.length<4611686018427387904):∀(r:List Chg) (j k:Nat),c.drop j=r->r.length<k->F0.l0 K c k (j:Int)=some (r.all (λx=>decide (x.2.2.size<=60))&&decide (c.length<=12))
 | [],j,k+1,h,_ => by have:=A1 h;rw[F0.l0,tt];simp;omega
 | x :: r,j,k+1,h,hk => by
   obtain⟨h1,h2,h3⟩:=A0 h zC;rw[F0.l0,tq,iP ⟨by omega,by omega⟩,tN,h2,up2,V4 hc r (j+1) k h3 (by simpa using hk)];by_cases e:x.2.2.size<=60;·rw[tt];simp[e]
   ·rw[tq];simp[e]
theorem i0 (hK:c.length<K) (hc:c.length<4611686018427387904):F0 K c=some (fwC c):=V4 hc c 0 K rfl hK
theorem iA (h:fwC c=true):Cok c:=by simp only[fwC,bq,dE,cn] at h;exact⟨by omega,λx hx=>by have:=h.1 x hx;omega⟩
def Iv (e:Eng):Prop:=Ivt e.1 e.2.1 e.2.2.1 e.2.2.2.1 e.2.2.2.2
theorem VP:hdR [u] f=f:=by unfold hdR;simp
def WS:Eng:=([],[[]],0,[],[])
theorem k8:Iv WS:=by refine⟨by decide,by decide,by decide,⟨iy,λx hx=>(gu hx).elim⟩,⟨iy,λx hx=>(gu hx).elim⟩,λu hu=>?_,by decide,λx hx=>(gu hx).elim⟩;simp only[WS,df] at hu;subst hu;exact⟨iy,by simp⟩
theorem gL:MX K=some ([[]],[],[]):=rfl
theorem Iv.r {e:Eng} (h:Iv e):Rok e.2.1 e.2.2.1 e.2.2.2.1 e.2.2.2.2:=Ivt.rok h
theorem Iv.k {e:Eng} (h:Iv e):Aok e.1:=Ivt.aok h
theorem f9 {e:Eng} (hK:100000<=K) (h:Iv e):HS K e.1 e.2.1 e.2.2.1 e.2.2.2.1 e.2.2.2.2=some e.1:=by rw[HS,MG hK h.k,oB]
theorem VX {K:Nat} {l:List Int} {n:Int} (hl:l.length<=50000):∀(r:List Int) (j k:Nat),l.drop j=r->r.length<k->BZ.l0 K l n k (j:Int)=some (r.contains n)
 | [],j,k+1,h,_ => by have:=A1 h;rw[BZ.l0,tt];rfl
 | g :: r,j,k+1,h,hk => by
   obtain⟨h1,h2,h3⟩:=A0 h (0:Int);rw[BZ.l0,tq,iP ⟨by omega,by omega⟩,tN,h2,up1,VX hl r (j+1) k h3 (by simpa using hk)];by_cases e:g=n;·rw[iP (by simpa using e)];simp[e]
   ·rw[iN (by simpa using e),List.contains_cons,beq_eq_false_iff_ne.2 (Ne.symm e),mm]
theorem GZ {l:List Int} (hK:100000<=K) (hl:l.length<=50000):BZ K l n=some (l.contains n):=VX hl l 0 K rfl (by omega)
theorem ZS {K:Nat} {a b:List Int} (ha:a.length<=50000) (hab:a.length=b.length):∀(r s:List Int) (j k:Nat),a.drop j=r->b.drop j=s->r.length<k->ED.l0 K a b k (j:Int)=some (r==s)
 | [],[],j,k+1,h,h',_ => by have:=A1 h;rw[ED.l0,tt];rfl
 | x :: r,y :: s,j,k+1,h,h',hk => by
   obtain⟨h1,h2,h3⟩:=A0 h (0:Int);obtain⟨g1,g2,g3⟩:=A0 h' (0:Int);rw[ED.l0,tq,iP ⟨by omega,by omega,by omega⟩,tN,h2,g2,up1,ZS ha hab r s (j+1) k h3 g3 (by simpa using hk)];by_cases e:x=y;·rw[iN (by simpa using e)];simp[e]
   ·rw[iP (by simpa using e)];simp[e]
 | [],y :: s,j,k+1,h,h',_ => by have:=A1 h;have:=(A0 h' (0:Int)).1;omega
 | x :: r,[],j,k+1,h,h',_ => by have:=A1 h';have:=(A0 h (0:Int)).1;omega
theorem oY {a b:List Int} (hK:100000<=K) (ha:a.length<=50000):ED K a b=some (a==b):=by
 rw[ED];by_cases h:a.length=b.length
 ·rw[tt];exact ZS ha h a b 0 K rfl rfl (by omega)
 ·rw[tq];congr 1;symm;rw[beq_eq_false_iff_ne];intro e;exact h (by rw[e])
theorem iS (hK:100000<=K):LG K=some true:=by obtain⟨n,rfl⟩:∃n,K=n+40:=⟨K-40,by omega⟩;exact iT n
theorem okC (h:Kd.ok (.slice QO) c):c.length<4611686018427387904:=by
 have h1:=h.1;have:1<=Kd.bytes QO:=by decide
 have:=Nat.le_mul_of_pos_right c.length this;omega
theorem U1:tR (s++t)=tR s++tR t:=by simp[tR]
theorem NN:tP (tR s)=s:=by
 unfold tP tR;rw[nb];have:(λn:Int=>cw n.toNat) ∘ (λb:UInt8=>(b.toNat:Int))=id:=by funext b;simp
 rw[this];simp
theorem IH:tR (s.extract i j)=((tR s).drop i).take (j-i):=by unfold tR;rw[ByteArray.data_extract,Array.toList_extract,List.map_take.symm.symm];simp[List.extract_eq_take_drop,List.map_drop]
theorem P5 (h:i<s.size):(tR s)[i]? =some (bt s (i:Int)):=by
 unfold tR bt;rw[fu,tN,getElem?_pos s i h];have:s.data.toList[i]? =some s[i]:=by rw[Array.getElem?_toList];exact getElem?_pos s.data i h
 rw[this];rfl
theorem M9 {rev:Int} {u:List Int}:∀{l m:List Atm},vtx rev u (l++m)=vtx rev u l++vtx rev u m
 |[],_=>rfl
 | a :: l,m => by
   simp only[db,vtx];split;·rw[M9,aA]
   ·exact M9
def wo (gs u:List Int):List Int:=u.filter λx=>!gs.contains x
theorem tE (h:gs.contains x=false):(wo gs u).contains x=u.contains x:=by
 have hx:x∉gs:=by simpa using h
 have:x∈wo gs u↔x∈u:=by simp[wo,ef,hx]
 cases h1:(wo gs u).contains x<;>cases h2:u.contains x<;>simp_all
theorem VR (h:gs.contains x=false):holds x (wo gs u)=holds x u:=by unfold holds;rw[tE h]
theorem dN (hm:(-1:Int)∉gs) (h:gs.contains x=true):(x==-1)=false:=by rw[beq_eq_false_iff_ne];rintro rfl;exact hm (by simpa using h)
def Old (gs:List Int) (h0:Int) (a:Atm):Prop:=(gs.contains a.2.2.1=true->a.2.1<=h0)/\∀c∈a.2.2.2.2,gs.contains c.2=true->c.1<=h0
theorem t8 {u0:List Int} {h0 r:Int} {a:Atm} (hm:(-1:Int)∉gs) (hu:∀x∈gs,u.contains x=u0.contains x) (hr:h0<=r) (ho:Old gs h0 a):vis r u a=(kpA gs u0 a&&vis r (wo gs u) (lfA gs u0 a)):=by
 have hu':∀x,gs.contains x=true->u.contains x=u0.contains x:=λx hx=>hu x (by simpa using hx);have h1:∀x,gs.contains x=true->holds x u=!u0.contains x:=λx hx=>by unfold holds;rw[dN hm hx,mm,hu' x hx]
 have hg:holds a.2.2.1 u=(!B5 gs u0 a.2.2.1&&holds (lfA gs u0 a).2.2.1 (wo gs u)):=by
  simp only[lfA,B5];cases hx:gs.contains a.2.2.1 with
  | true =>
    rw[h1 _ hx,iP rfl];have:holds (-1) (wo gs u)=true:=by unfold holds;simp
    rw[this,mn,dq]
  | false =>
    rw[uf,ec,sw,dq,VR hx]
 have hc:∀l:List (Int×Int),(∀c∈l,gs.contains c.2=true->c.1<=h0)->(!l.any (EV r u))=(!(l.any λc=>DI gs u0 c.2)&&!((l.filter λc=>!B5 gs u0 c.2).any (EV r (wo gs u)))):=by
  intro l;induction l with
  |nil=>intro _;rfl
  | cons c l ih =>
    intro hl;have ih:=ih λc hc=>hl c (mC _ hc);have hcl:=hl c mS;rw[ii,Bool.not_or,ih,ii,fx];have e1:EV r u c=(decide (c.1<=r)&&holds c.2 u):=rfl;have e2:EV r (wo gs u) c=(decide (c.1<=r)&&holds c.2 (wo gs u)):=rfl;cases hx:gs.contains c.2 with
    | true =>
      have e3:B5 gs u0 c.2=u0.contains c.2:=by unfold B5;rw[hx,dq]
      have e4:DI gs u0 c.2=!u0.contains c.2:=by unfold DI;rw[hx,dq]
      rw[e1,h1 _ hx,e3,e4,decide_eq_true (show c.1<=r by have:=hcl hx;omega),dq];cases u0.contains c.2 with
      |true=>rw[uf];simp
      |false=>simp
    | false =>
      have e3:B5 gs u0 c.2=false:=by unfold B5;rw[hx,ec]
      have e4:DI gs u0 c.2=false:=by unfold DI;rw[hx,ec]
      rw[e3,e4,iP (by simp),ii,e1,e2,VR hx];cases (decide (c.1<=r)&&holds c.2 u)<;>simp
 have hcut:=hc _ ho.2;unfold vis;rw[hg,hcut];unfold kpA;have e5:(lfA gs u0 a).2.1=a.2.1:=rfl;have e6:(lfA gs u0 a).2.2.2.2=a.2.2.2.2.filter λc=>!B5 gs u0 c.2:=rfl;rw[e5,e6];cases decide (a.2.1<=r)<;>cases B5 gs u0 a.2.2.1<;>cases holds (lfA gs u0 a).2.2.1 (wo gs u)<;>cases (a.2.2.2.2.any λc=>DI gs u0 c.2)<;>simp
theorem cG {gs u0 u:List Int} {h0 r:Int} (hm:(-1:Int)∉gs) (hu:∀x∈gs,u.contains x=u0.contains x) (hr:h0<=r):∀{l:List Atm},(∀a∈l,Old gs h0 a)->vtx r u l=vtx r (wo gs u) (rsL gs u0 l)
 |[],_=>rfl
 | a :: l,ho => by
   have ih:=cG hm hu hr (l:=l) λb hb=>ho b (mC _ hb);have hv:=t8 hm hu hr (ho a mS);rw[SB];simp only[vtx];rw[hv,ih];cases kpA gs u0 a with
   |false=>simp
   |true=>simp[vtx];rfl
def Inc:Nat->List (Nat×List Atm)->Prop
 |_,[]=>True
 |p,q::r=>p<=q.1/\Inc q.1 r
theorem VY {r rank:Int} {u:List Int} {l:List Atm} {w g:Int}:∀{c:List Chg} {p:Nat},orC c=false->(∀x∈c,x.1<=x.2.1)->(∀y,c.head? =some y->p<=spt r u rank y.1 l)->Inc p (c.map λy=>(spt r u rank y.1 l,DE y.2.2 w g rank))
 |[],_,_,_,_=>trivial
 |[a],p,_,_,hp=>⟨hp a rfl,trivial⟩
 | a :: b :: c,p,ho,hb,hp => ⟨hp a rfl,VY (c := b :: c) (H7 ho).2 (fun x hx => hb x (mC _ hx)) fun y hy => by simp at hy;subst hy;exact SO (yh (hb a mS) (H7 ho).1)⟩
theorem rL {r:Int} (hr:f<=r) (h:r<=hdR us f+1):unR (us++[u]) f r=if r=hdR us f+1 then u else unR us f r:=by
 unfold unR lvR;rw[GY,decide_eq_true hr,decide_eq_true h,dq,iP rfl];unfold hdR at *;split
 ·rename_i e;rw[show (r-f).toNat=us.length by omega];simp[bu]
 ·rw[decide_eq_true (by omega),Bool.and_self,iP rfl];rw[bu,bu,dk (by omega)]
theorem EO {α:Type}:∀{l:List α},l≠[]->∃m x,l=m++[x]:=by intro l h;exact⟨l.dropLast,l.getLast h,(List.dropLast_concat_getLast h).symm⟩
theorem I1 (a b:Int):mx2 a b=max a b:=by unfold mx2;split<;>omega
theorem IZ (a b:Int):mn2 a b=min a b:=by unfold mn2;split<;>omega
def txt (s:ByteArray):List Int:=s.data.toList.map λb=>(b.toNat:Int)
theorem DJ:(txt s).length=s.size:=by simp[txt]
theorem WW:tP (txt s)=s:=by
 cases s with
 | mk d =>
   unfold tP txt;rw[nb];have:((λn:Int=>cw n.toNat) ∘ λb:UInt8=>(b.toNat:Int))=id:=by funext b;simp
   rw[this];simp
theorem rR {c d:Int}:(2<=B6 n c d e f->A3 d)/\(3<=B6 n c d e f->A3 e)/\(4<=B6 n c d e f->A3 f):=by
 unfold B6;split;·omega
 ·split
  ·split;·rename_i h;exact⟨λ_=>h.2.1,by omega,by omega⟩
   ·omega
  ·split
   ·split;·rename_i h;exact⟨λ_=>h.2.1,λ_=>h.2.2.1,by omega⟩
    ·omega
   ·split
    ·split;·rename_i h;exact⟨λ_=>h.2.1,λ_=>h.2.2.1,λ_=>h.2.2.2.1⟩
     ·omega
    ·omega
theorem T8 (h1:i<j) (h2:(j:Int)<i+usz s i):A3 (bt s (j:Int)):=by
 by_cases hi:(i:Int)<s.size
 ·have hu:=CK (s:=s) (a:=i);unfold usz at h2 hu;rw[tz] at h2 hu;have hc:=rR (n:=(s.size:Int)-i) (c:=bt s i) (d:=bt s ((i:Int)+1)) (e:=bt s ((i:Int)+2)) (f:=bt s ((i:Int)+3));have h3:j=i+1\/j=i+2\/j=i+3:=by omega
  rcases h3 with rfl|rfl|rfl;·have:=hc.1 (by omega);rwa[show ((i+1:Nat):Int)=(i:Int)+1 by omega]
  ·have:=hc.2.1 (by omega);rwa[show ((i+2:Nat):Int)=(i:Int)+2 by omega]
  ·have:=hc.2.2 (by omega);rwa[show ((i+3:Nat):Int)=(i:Int)+3 by omega]
 ·have:usz s (i:Int)=0:=by unfold usz;rw[tw]
  omega
theorem qW (s:ByteArray):∀(d i:Nat) (r:List UInt8),s.size-i=d->pc s i r=r.reverse++s.data.toList.drop i:=by
 intro d;induction d with
 | zero =>
   intro i r h;unfold pc;rw[tz,lx (by have:s.data.toList.length=s.size:=(by simp);omega)];simp
 | succ d ih =>
   intro i r h;unfold pc;have hl:s.data.toList.length=s.size:=by simp
   have hi:i<s.data.toList.length:=by omega
   rw[tw,ih (i+1) _ (by omega),ij hi];have:s.get! i=s.data.toList[i]:=by
    have h2:i<s.data.size:=by simpa using hi
    show s.data[i]! =_;rw[getElem!_pos s.data i h2];simp
   rw[this];simp
theorem bJ (s:ByteArray):ex s=s.data.toList:=by unfold ex;rw[qW s s.size 0 [] rfl];simp
theorem qL {a b:ByteArray}:(ex a==ex b)=decide (a=b):=by
 rw[bJ,bJ];by_cases h:a=b;·subst h;simp
 ·have:a.data.toList≠b.data.toList:=λh'=>h (by have:=Array.toList_inj.1 h';cases a;cases b;simp only at this;rw[this]);rw[beq_eq_false_iff_ne.2 this];simp[h]
theorem ZV {a:ByteArray}:a=⟨#[]⟩↔a.size=0:=by
 constructor;·rintro rfl;rfl
 ·intro h;rw[<-WW (s:=a)];have:txt a=[]:=bx (by rw[DJ];exact h);rw[this];rfl
theorem OO {a:ByteArray}:(ex a==ex (iu #[]))=decide (a.size=0):=by rw[qL];exact decide_eq_decide.2 ZV
theorem IR {x1 x2:Int} {x3:ByteArray}:FG K x1 x2 x3=some (decide (x3.size=0)):=by unfold FG;rw[OO]
theorem gJ {x1 x2 base:Int} {x3:ByteArray} {ahead copied:Bool} (hK:30000<=K):KG K x1 x2 x3 base to ahead copied =
 some (if x3.size=0 then decide (to<=x1/\(to<x1\/copied=false)/\x1<x2/\x2<=base) else decide (x1=0/\x2=0/\(ahead=false\/copied=true)/\x3.size<=20000)&&A4 x3):=by
 unfold KG;rw[IR,oB];by_cases h:x3.size=0
 ·rw[iP (by simpa using h),iP h];by_cases h1:x1>=to
  ·rw[iP (by simpa using h1)];by_cases h2:x1>to
   ·rw[iP (by simpa using h2)];by_cases h3:x1<x2
    ·rw[iP (by simpa using h3)];congr 1;rw[decide_eq_decide];omega
    ·rw[iN (by simpa using h3)];congr 1;symm;rw[decide_eq_false_iff_not];omega
   ·rw[iN (by simpa using h2)];cases copied with
    |true=>rw[uf];congr 1;symm;rw[decide_eq_false_iff_not];simp;omega
    | false =>
      rw[iP (by simp)];by_cases h3:x1<x2
      ·rw[iP (by simpa using h3)];congr 1;rw[decide_eq_decide];simp;omega
      ·rw[iN (by simpa using h3)];congr 1;symm;rw[decide_eq_false_iff_not];omega
  ·rw[iN (by simpa using h1)];congr 1;symm;rw[decide_eq_false_iff_not];omega
 ·rw[iN (by simpa using h),iN h];by_cases h1:x1=0/\x2=0
  ·rw[iP (by simp[h1])];by_cases h2:x3.size<=20000
   ·have hv:BY K x3=some (A4 x3):=M5 (by omega) (by omega);cases ahead with
    |false=>rw[iP (by simp),tq,hv,oB];simp[h1,h2]
    | true =>
      rw[uf];cases copied with
      |true=>rw[iP rfl,tq,hv,oB];simp[h1,h2]
      |false=>rw[uf];simp
   ·cases ahead with
    |false=>rw[iP (by simp),tt];simp[h2]
    | true =>
      rw[uf];cases copied with
      |true=>rw[iP rfl,tt];simp[h2]
      |false=>rw[uf];simp
  ·rw[tt];congr 1;symm;rw[me,decide_eq_false_iff_not];left;exact λh'=>h1 ⟨h'.1,h'.2.1⟩
def isL (base:Int):Int->Int->Option Bool->List El->Bool
 |_,_,_,[]=>true
 | size,to,pre,x :: r =>
   if x.2.2.size=0 then
    decide (to<=x.1/\(to<x.1\/pre≠some true)/\x.1<x.2.1/\x.2.1<=base/\size+(x.2.1-x.1)<=20000)&&isL base (size+(x.2.1-x.1)) x.2.1 (some true) r
   else
    (decide (x.1=0/\x.2.1=0/\pre≠some false/\size+x.2.2.size<=20000)&&A4 x.2.2)&&isL base (size+x.2.2.size) to (some false) r
def isD (base:Int) (l:List El):Bool:=decide (0<=base/\base<=20000/\l.length<=60)&&isL base 0 0 none l
def AG (d:List El) (j:Nat):Option Bool:=if j=0 then none else some (decide ((d.getD (j-1) zE).2.2.size=0))
theorem XG {x:El} (h:d.getD j zE=x):AG d (j+1)=some (decide (x.2.2.size=0)):=by unfold AG;rw[tz,ky,h]
theorem WD {K:Nat} {d:List El} {base:Int} (hK:30000<=K) (hb:base<=20000) (hl:d.length<=60):∀(rest:List El) (j k:Nat) (size to:Int),d.drop j=rest->rest.length<k->0<=size->size<=20000->0<=to->to<=20000->
 CC.l0 K d base k size to (j:Int)=some (isL base size to (AG d j) rest)
 | [],j,k,size,to,hd,hk,h0,h1,h2,h3 => by obtain⟨k,rfl⟩:∃m,k=m+1:=⟨k-1,by simp at hk;omega⟩;have:=A1 hd;rw[CC.l0,tt];rfl
 | x :: rest,j,k,size,to,hd,hk,h0,h1,h2,h3 => by
   obtain⟨k,rfl⟩:∃m,k=m+1:=⟨k-1,by simp at hk;omega⟩;obtain⟨hj,hgd,hd'⟩:=A0 hd zE;have hk':rest.length<k:=by simp at hk;omega
   have hw:ba .i64 ((j:Int)+1)=((j+1:Nat):Int):=by rw[w64];omega
   have hw1:ba .i64 ((j:Int)-1)=(j:Int)-1:=w64;have hps:=XG hgd;have hnext:=λ(size' to':Int) (a0:0<=size') (a1:size'<=20000) (a2:0<=to') (a3:to'<=20000)=>WD (K:=K) hK hb hl rest (j+1) k size' to' hd' hk' a0 a1 a2 a3;rw[hps] at hnext;have hcp:(if decide ((j:Int)>0)=true then (FG K (d.getD ((j:Int)-1).toNat zE).1 (d.getD ((j:Int)-1).toNat zE).2.1 (d.getD ((j:Int)-1).toNat zE).2.2).bind λr_22=>if 0<=(j:Int)-1/\(j:Int)-1<((d.length:Nat):Int) then some r_22 else none else some false)=some (AG d j==some true):=by
    unfold AG;by_cases hj0:j=0;·subst hj0;simp
    ·rw[tq,IR,oB,iP ⟨by omega,by omega⟩,iN hj0,show ((j:Int)-1).toNat=j-1 by omega];simp
   have hah:∀b:Bool,(decide ((j:Int)>0)=false\/b=true)↔(AG d j=none\/b=true):=by
    intro b;unfold AG;by_cases hj0:j=0;·subst hj0;simp
    ·simp[hj0]
   rw[CC.l0];simp only[tN,hgd,hw,hw1];rw[iP (by simpa using hj),iP ⟨by omega,by omega⟩,hcp,oB,gJ hK,oB,IR,isL];by_cases hz:x.2.2.size=0
   ·rw[iP hz,iP hz,hz];by_cases hc:to<=x.1/\(to<x.1\/(AG d j==some true)=false)/\x.1<x.2.1/\x.2.1<=base
    ·rw[show decide (to<=x.1/\(to<x.1\/(AG d j==some true)=false)/\x.1<x.2.1/\x.2.1<=base)=true from decide_eq_true hc,uf,oB,iP (by simp),oB];simp only[ix,yi];rw[w64 (n:=x.2.1-x.1),w64 (n:=x.2.1-x.1),w64 (n:=size+(x.2.1-x.1))];have hp:(AG d j==some true)=false↔AG d j≠some true:=by simp
     by_cases hs:size+(x.2.1-x.1)<=20000
     ·rw[iN (by simpa using hs),hnext _ _ (by omega) hs (by omega) (by omega),hz];have:decide (to<=x.1/\(to<x.1\/AG d j≠some true)/\x.1<x.2.1/\x.2.1<=base/\size+(x.2.1-x.1)<=20000)=true:=by
       rw[dE];rw[hp] at hc;exact⟨hc.1,hc.2.1,hc.2.2.1,hc.2.2.2,hs⟩
      rw[this];simp
     ·rw[tq];have:decide (to<=x.1/\(to<x.1\/AG d j≠some true)/\x.1<x.2.1/\x.2.1<=base/\size+(x.2.1-x.1)<=20000)=false:=by
       rw[decide_eq_false_iff_not];exact λh=>hs h.2.2.2.2
      rw[this];rfl
    ·rw[show decide (to<=x.1/\(to<x.1\/(AG d j==some true)=false)/\x.1<x.2.1/\x.2.1<=base)=false from decide_eq_false hc,iP (by simp)];have hp:(AG d j==some true)=false↔AG d j≠some true:=by simp
     have:decide (to<=x.1/\(to<x.1\/AG d j≠some true)/\x.1<x.2.1/\x.2.1<=base/\size+(x.2.1-x.1)<=20000)=false:=by rw[decide_eq_false_iff_not];rw[hp] at hc;exact λh=>hc ⟨h.1,h.2.1,h.2.2.1,h.2.2.2.1⟩
     rw[this];rfl
   ·rw[iN hz,iN hz];have hpre:(decide ((j:Int)>0)=false\/(AG d j==some true)=true)↔AG d j≠some false:=by
     rw[hah];cases AG d j with
     |none=>simp
     |some b=>cases b<;>simp
    by_cases hc:x.1=0/\x.2.1=0/\(decide ((j:Int)>0)=false\/(AG d j==some true)=true)/\x.2.2.size<=20000
    ·rw[show decide (x.1=0/\x.2.1=0/\(decide ((j:Int)>0)=false\/(AG d j==some true)=true)/\x.2.2.size<=20000)=true from by rw[dE];exact hc];cases hv:A4 x.2.2 with
     |false=>rw[iP (by simp)];simp
     | true =>
       rw[uf,oB,iN (by simpa using hz),oB];rw[hc.1,hc.2.1,Int.sub_zero,w64 (n:=0),Int.zero_add,w64 (n:=(x.2.2.size:Int)),w64 (n:=size+(x.2.2.size:Int))];by_cases hs:size+(x.2.2.size:Int)<=20000
       ·rw[iN (by simpa using hs),hnext _ _ (by omega) hs (by omega) (by omega)];have:decide ((0:Int)=0/\(0:Int)=0/\AG d j≠some false/\size+(x.2.2.size:Int)<=20000)=true:=by
         rw[dE];exact⟨rfl,rfl,hpre.1 hc.2.2.1,hs⟩
        rw[this];simp[hz]
       ·rw[tq];have:decide ((0:Int)=0/\(0:Int)=0/\AG d j≠some false/\size+(x.2.2.size:Int)<=20000)=false:=by
         rw[decide_eq_false_iff_not];exact λh=>hs h.2.2.2
        rw[this];rfl
    ·rw[show decide (x.1=0/\x.2.1=0/\(decide ((j:Int)>0)=false\/(AG d j==some true)=true)/\x.2.2.size<=20000)=false from by rw[decide_eq_false_iff_not];exact hc];rw[iP (by simp)];have:decide (x.1=0/\x.2.1=0/\AG d j≠some false/\size+(x.2.2.size:Int)<=20000)=false:=by
      rw[decide_eq_false_iff_not];exact λh=>hc ⟨h.1,h.2.1,hpre.2 h.2.2.1,by omega⟩
     rw[this];rfl
theorem GB {base:Int} (hK:30000<=K):CC K base d=some (isD base d):=by
 unfold CC isD;by_cases h1:base<0
 ·rw[iP (by simpa using h1),oB,iP rfl];congr 1;symm;rw[me,decide_eq_false_iff_not];left;omega
 ·rw[iN (by simpa using h1)];by_cases h2:base>20000
  ·rw[iP (by simpa using h2),oB,iP rfl];congr 1;symm;rw[me,decide_eq_false_iff_not];left;omega
  ·rw[iN (by simpa using h2),oB];by_cases h3:d.length>60
   ·rw[tq];congr 1;symm;rw[me,decide_eq_false_iff_not];left;omega
   ·have h:=WD (K:=K) (d:=d) (base:=base) hK (by omega) (by omega) d 0 K 0 0 rfl (by omega) (by omega) (by omega) (by omega) (by omega);rw[ix] at h;rw[tt,h];have:decide (0<=base/\base<=20000/\d.length<=60)=true:=by rw[dE];omega
    rw[this];rfl
def KV (b:Bool) (l:List El):Prop:=l≠[]/\decide ((l.getD (l.length-1) el0).2.2.size=0)=b
instance (b:Bool) (l:List El):Decidable (KV b l):=inferInstanceAs (Decidable (_/\_))
def CE (l:List El) (f t:Int):List El:=
 if f=t then l else if KV true l/\(l.getD (l.length-1) el0).2.1=f then l.set (l.length-1) ((l.getD (l.length-1) el0).1,t,(l.getD (l.length-1) el0).2.2) else l++[(f,t,cc)]
def CU (l:List El) (s:ByteArray):List El:=
 if s.size=0 then l else if KV false l then l.set (l.length-1) ((l.getD (l.length-1) el0).1,(l.getD (l.length-1) el0).2.1,(l.getD (l.length-1) el0).2.2++s) else l++[(0,0,s)]
def A6:List El->Nat
 |[]=>0
 |x::r=>x.2.2.size+A6 r
def AD:List El->Int
 |[]=>0
 |x::r=>(x.2.1-x.1)+AD r
theorem M1:∀{l r:List El},A6 (l++r)=A6 l+A6 r
 |[],r=>by simp[A6]
 |x::l,r=>by simp only[db,A6,M1];omega
theorem WH:∀{l:List El} {x:El},x∈l->x.2.2.size<=A6 l
 | y :: l,x,h => by
   rw[A6];rcases bv.1 h with rfl|h;·omega
   ·have:=WH h;omega
theorem GU:ByteArray.empty.size=0:=rfl
theorem Q4 {l:List El} {p:El}:(l++[p]).getD ((l++[p]).length-1) el0=p:=by simp[bb]
theorem ZU {α:Type} {l:List α} {p q:α}:(l++[p]).set ((l++[p]).length-1) q=l++[q]:=by
 have:(l++[p]).length-1=l.length:=by simp
 rw[this,jz _ _ (bp _),nf,pv]
theorem NJ {t:Int}:CE [] f t=if f=t then [] else [(f,t,cc)]:=by
 unfold CE;split;·rfl
 ·rw[iN (λh=>h.1.1 rfl)];rfl
theorem N8 {b:Bool} {l:List El} {p:El}:KV b (l++[p])↔decide (p.2.2.size=0)=b:=by unfold KV;rw[Q4];exact⟨λh=>h.2,λh=>⟨by simp,h⟩⟩
theorem KZ {l:List El} {p:El} {t:Int}:CE (l++[p]) f t=if f=t then l++[p] else if p.2.2.size=0/\p.2.1=f then l++[(p.1,t,p.2.2)] else l++[p]++[(f,t,cc)]:=by
 unfold CE;rw[Q4,ZU];by_cases h:f=t;·rw[iP h,iP h]
 ·rw[iN h,iN h];by_cases h2:p.2.2.size=0/\p.2.1=f;·rw[iP ⟨N8.2 (decide_eq_true h2.1),h2.2⟩,iP h2]
  ·rw[iN (λh'=>h2 ⟨of_decide_eq_true (N8.1 h'.1),h'.2⟩),iN h2]
theorem QZ:CU [] s=if s.size=0 then [] else [(0,0,s)]:=by
 unfold CU;split;·rfl
 ·rw[iN (λh=>h.1 rfl)];rfl
theorem QY {l:List El} {p:El}:CU (l++[p]) s=if s.size=0 then l++[p] else if p.2.2.size=0 then l++[p]++[(0,0,s)] else l++[(p.1,p.2.1,p.2.2++s)]:=by
 unfold CU;rw[Q4,ZU];by_cases h:s.size=0;·rw[iP h,iP h]
 ·rw[iN h,iN h];by_cases h2:p.2.2.size=0;·rw[iN (λh'=>by have:=N8.1 h';simp[h2] at this),iP h2]
  ·rw[iP (N8.2 (decide_eq_false h2)),iN h2]
theorem DK {a b:ByteArray}:(a++b).size=a.size+b.size:=ByteArray.size_append
theorem jS {l:List El} {t:Int}:(CE l f t).length<=l.length+1:=by
 unfold CE;split;·omega
 ·split<;>simp
theorem jV {l:List El}:(CU l s).length<=l.length+1:=by
 unfold CU;split;·omega
 ·split<;>simp
theorem jU {l:List El} {t:Int}:A6 (CE l f t)=A6 l:=by
 by_cases h:l=[];·subst h;rw[NJ];split<;>simp[A6,GU]
 ·obtain⟨m,p,rfl⟩:=EO h;rw[KZ];split;·rfl
  ·split;·simp[M1,A6]
   ·simp[M1,A6,GU]
theorem jY {l:List El}:A6 (CU l s)=A6 l+s.size:=by
 by_cases h:l=[]
 ·subst h;rw[QZ];split;·simp[A6];omega
  ·simp[A6]
 ·obtain⟨m,p,rfl⟩:=EO h;rw[QY];split;·omega
  ·split;·simp[M1,A6]<;>omega
   ·simp[M1,A6,DK]<;>omega
theorem dO {m t:Int} {l:List El} (hl:l.length<=1000000000):KD K m l f t=some (CE l f t):=by
 unfold KD CE;have hw:ba .i64 ((l.length:Int)-1)=(l.length:Int)-1:=w64;rw[hw];by_cases h:f=t;·rw[iP (by simpa using h),iP h]
 ·rw[iN (by simpa using h),iN h];by_cases he:l=[]
  ·subst he;rw[uf,oB,uf,iP (by simp),iN (λh=>h.1.1 rfl)]
  ·have hp:0<l.length:=mr.2 he;have hn:((l.length:Int)-1).toNat=l.length-1:=by omega
   rw[tq,hn,IR,oB];by_cases hz:(l.getD (l.length-1) el0).2.2.size=0
   ·rw[iP (decide_eq_true hz),iP ⟨by omega,by omega⟩,oB];by_cases hq:(l.getD (l.length-1) el0).2.1=f;·rw[iP (by simpa using hq),iP ⟨by omega,by omega⟩,iP ⟨⟨he,decide_eq_true hz⟩,hq⟩]
    ·rw[iN (by simpa using hq),tq,iN (λh=>hq h.2)]
   ·rw[iN (by simpa using hz),iP ⟨by omega,by omega⟩,oB,uf,tq,iN (λh=>hz (of_decide_eq_true h.1.2))]
theorem mT {m:Int} {l:List El} (hl:l.length<=1000000000) (ht:A6 l+s.size<=9223372036854775807):KE K m l s=some (CU l s):=by
 unfold KE CU;have hw:ba .i64 ((l.length:Int)-1)=(l.length:Int)-1:=w64;rw[hw,OO];by_cases h:s.size=0;·rw[iP (by simpa using h),iP h]
 ·rw[iN (by simpa using h),iN h];by_cases he:l=[]
  ·subst he;rw[uf,oB,uf,iP (by simp),iN (λh=>h.1 rfl)]
  ·have hp:0<l.length:=mr.2 he;have hn:((l.length:Int)-1).toNat=l.length-1:=by omega
   have hm:l.getD (l.length-1) el0∈l:=by rw[bb,bj (by omega)];simp
   have hs:=WH hm;rw[tq,hn,IR,oB,iP ⟨by omega,by omega⟩,oB];by_cases hz:(l.getD (l.length-1) el0).2.2.size=0;·rw[show decide ((l.getD (l.length-1) zE).2.2.size=0)=true from decide_eq_true hz,uf,tq,iN (λh=>by have:=h.2;rw[decide_eq_true hz] at this;cases this)]
   ·have h3:(l.getD (l.length-1) zE).2.2.size<=A6 l:=hs;rw[show decide ((l.getD (l.length-1) zE).2.2.size=0)=false from decide_eq_false hz,iP (by simp),iP ⟨by omega,by omega,by omega⟩,iP ⟨he,decide_eq_false hz⟩]
def JX (l:List El):Bool:=l.all λc=>A4 c.2.2
def okE (base:Int) (x:El):Prop:=0<=x.1/\x.1<=x.2.1/\x.2.1<=base/\(x.2.2.size=0\/x.1=0/\x.2.1=0)
theorem QC {base:Int} (hb:0<=base):∀{l:List El} {size to:Int} {pre:Option Bool},isL base size to pre l=true->0<=to->size<=20000->(∀x∈l,okE base x)/\size+AD l+A6 l<=20000
 |[],size,to,pre,h,h0,h1=>⟨by simp,by simp[AD,A6];omega⟩
 | x :: r,size,to,pre,h,h0,h1 => by
   rw[isL] at h;split at h
   ·rename_i hz;rw[bq,dE] at h;obtain⟨⟨c1,c2,c3,c4,c5⟩,hr⟩:=h;obtain⟨e1,e2⟩:=QC hb hr (by omega) c5;refine⟨λy hy=>?_,by simp only[AD,A6,hz];omega⟩;rcases bv.1 hy with rfl|hy;·exact⟨by omega,by omega,c4,.inl hz⟩
    ·exact e1 y hy
   ·rw[bq,bq,dE] at h;obtain⟨⟨⟨c1,c2,c3,c4⟩,hv⟩,hr⟩:=h;obtain⟨e1,e2⟩:=QC hb hr h0 c4;refine⟨λy hy=>?_,by simp only[AD,A6];omega⟩;rcases bv.1 hy with rfl|hy;·exact⟨by omega,by omega,by omega,.inr ⟨c1,c2⟩⟩
    ·exact e1 y hy
theorem H2 {base:Int} {l:List El} (h:isD base l=true):0<=base/\base<=20000/\l.length<=60/\(∀x∈l,okE base x)/\AD l+A6 l<=20000:=by unfold isD at h;rw[bq,dE] at h;obtain⟨⟨h1,h2,h3⟩,h4⟩:=h;obtain⟨e1,e2⟩:=QC h1 h4 (by omega) (by omega);exact⟨h1,h2,h3,e1,by omega⟩
theorem GM {base:Int}:∀{l:List El},(∀x∈l,okE base x)->0<=AD l
 |[],_=>by simp[AD]
 | x :: r,h => by have h1:=h x (by simp);have h2:=GM (l:=r) λy hy=>h y (by simp[hy]);have:=h1.2.1;simp only[AD];omega
theorem b8 {K:Nat} {d:List El} {base:Int} (hb:base<=20000) (hl:d.length<=1000):∀(rest:List El) (j k:Nat) (kept put:Int),d.drop j=rest->rest.length<k->(∀x∈rest,okE base x)->0<=kept->0<=put->kept+AD rest<=1000000->put+A6 rest<=1000000->
 E6.l0 K d k kept put (j:Int)=some (kept+AD rest,put+A6 rest)
 | [],j,k,kept,put,hd,hk,hx,h0,h1,h2,h3 => by obtain⟨k,rfl⟩:∃m,k=m+1:=⟨k-1,by simp at hk;omega⟩;have:=A1 hd;rw[E6.l0,tt];simp[AD,A6]
 | x :: rest,j,k,kept,put,hd,hk,hx,h0,h1,h2,h3 => by
   obtain⟨k,rfl⟩:∃m,k=m+1:=⟨k-1,by simp at hk;omega⟩;obtain⟨hj,hgd,hd'⟩:=A0 hd el0;have hk':rest.length<k:=by simp at hk;omega
   have hw:ba .i64 ((j:Int)+1)=((j+1:Nat):Int):=by rw[w64];omega
   obtain⟨o1,o2,o3,o4⟩:=hx x (by simp);have hr:∀y∈rest,okE base y:=λy hy=>hx y (by simp[hy]);have hn:=GM hr;simp only[AD,A6] at h2 h3;rw[E6.l0];simp only[tN,hgd,hw];rw[iP (by simpa using hj),iP ⟨by omega,by omega⟩,w64 (n:=x.2.1-x.1),w64 (n:=kept+(x.2.1-x.1)),w64 (n:=put+(x.2.2.size:Int)),
    b8 hb hl rest (j+1) k _ _ hd' hk' hr (by omega) (by omega) (by omega) (by omega)]
   simp only[AD,A6];congr 2<;>omega
theorem qO {base:Int} (hK:30000<=K):E6 K base d=some (if isD base d=true then (AD d,(A6 d:Int)) else (0,0)):=by
 unfold E6;rw[GB hK,oB];cases h:isD base d with
 |false=>simp
 | true =>
   obtain⟨h1,h2,h3,h4,h5⟩:=H2 h;have hn:=GM h4;have e:=b8 (K:=K) h2 (by omega) d 0 K 0 0 rfl (by omega) h4 (by omega) (by omega) (by omega) (by omega);rw[ix] at e;rw[uf,e];simp
theorem UQ {base:Int} (hK:30000<=K):KF K base d=some (if isD base d=true then AD d+A6 d else 0):=by
 unfold KF;rw[qO hK,oB];by_cases h:isD base d=true
 ·obtain⟨h1,h2,h3,h4,h5⟩:=H2 h;have hn:=GM h4;rw[iP h,iP h,w64 (by simp only;omega) (by simp only;omega)]
 ·rw[iN h,iN h];rfl
def mvE (p:Int):Int->Int->List El->Int×Int
 |n,w,[]=>(n,w)
 |n,w,x::r=>if x.2.2.size=0 then (if x.1>=p then (n,w) else if x.2.1>p then (n+(w+min x.2.1 p-x.1),0) else mvE p (n+(w+min x.2.1 p-x.1)) 0 r) else mvE p n (w+x.2.2.size) r
theorem R1 {K:Nat} {d:List El} {a base p:Int} (hp:mn2 (mx2 a 0) base=p) (hb:base<=20000) (hl:d.length<=1000):∀(rest:List El) (j k:Nat) (n w:Int),d.drop j=rest->rest.length<k->(∀x∈rest,okE base x)->0<=n->0<=w->n+w+AD rest+A6 rest<=1000000->
 C6.l0 K d a base k n w (j:Int)=some (mvE p n w rest)
 | [],j,k,n,w,hd,hk,hx,h0,h1,h2 => by obtain⟨k,rfl⟩:∃m,k=m+1:=⟨k-1,by simp at hk;omega⟩;have:=A1 hd;rw[C6.l0,tt];rfl
 | x :: rest,j,k,n,w,hd,hk,hx,h0,h1,h2 => by
   obtain⟨k,rfl⟩:∃m,k=m+1:=⟨k-1,by simp at hk;omega⟩;obtain⟨hj,hgd,hd'⟩:=A0 hd el0;have hk':rest.length<k:=by simp at hk;omega
   have hw:ba .i64 ((j:Int)+1)=((j+1:Nat):Int):=by rw[w64];omega
   obtain⟨o1,o2,o3,o4⟩:=hx x (by simp);have hr:∀y∈rest,okE base y:=λy hy=>hx y (by simp[hy]);have hnn:=GM hr;simp only[AD,A6] at h2;rw[C6.l0];simp only[tN,hgd,hw,hp,IZ];rw[iP (by simpa using hj),iP ⟨by omega,by omega⟩,IR,oB,mvE];by_cases hz:x.2.2.size=0
   ·rw[decide_eq_true hz,uf,iP hz];by_cases c1:x.1>=p;·rw[iP (by simpa using c1),iP c1]
    ·rw[iN (by simpa using c1),iN c1,w64 (n:=w+min x.2.1 p),w64 (n:=w+min x.2.1 p-x.1),w64 (n:=n+(w+min x.2.1 p-x.1))];by_cases c2:x.2.1>p;·rw[iP (by simpa using c2),iP c2]
     ·rw[iN (by simpa using c2),iN c2,R1 hp hb hl rest (j+1) k _ _ hd' hk' hr (by omega) (by omega) (by omega)]
   ·rw[decide_eq_false hz,iP (by simp),iN hz,w64 (n:=w+(x.2.2.size:Int)),R1 hp hb hl rest (j+1) k _ _ hd' hk' hr (by omega) (by omega) (by omega)]
theorem NM {base p:Int} (hp:0<=p):∀{l:List El} {n w:Int},(∀x∈l,okE base x)->0<=n->0<=w->n<=(mvE p n w l).1/\0<=(mvE p n w l).2/\(mvE p n w l).1+(mvE p n w l).2<=n+w+AD l+A6 l
 |[],n,w,_,h0,h1=>by simp only[mvE,AD,A6];omega
 | x :: r,n,w,hx,h0,h1 => by
   obtain⟨o1,o2,o3,o4⟩:=hx x (by simp);have hr:∀y∈r,okE base y:=λy hy=>hx y (by simp[hy]);have hnn:=GM hr;rw[mvE];simp only[AD,A6];split
   ·split;·simp only;omega
    ·split;·simp only;omega
     ·have:=NM hp (l:=r) (n:=n+(w+min x.2.1 p-x.1)) (w:=0) hr (by omega) (by omega);omega
   ·have:=NM hp (l:=r) (n:=n) (w:=w+x.2.2.size) hr h0 (by omega);omega
def mv (base:Int) (d:List El) (a:Int) (after:Bool):Int:=if isD base d=true then (if after=true then (mvE (min (max a 0) base) 0 0 d).1+(mvE (min (max a 0) base) 0 0 d).2 else (mvE (min (max a 0) base) 0 0 d).1) else 0
theorem NK {base:Int} {after:Bool} (hK:30000<=K):C6 K base d a after=some (mv base d a after):=by
 unfold C6 mv;rw[GB hK,oB];by_cases h:isD base d=true
 ·obtain⟨h1,h2,h3,h4,h5⟩:=H2 h;have hn:=GM h4;have e:=R1 (K:=K) (d:=d) (a:=a) (base:=base) rfl h2 (by omega) d 0 K 0 0 rfl (by omega) h4 (by omega) (by omega) (by omega);rw[ix,IZ,I1] at e;obtain⟨m1,m2,m3⟩:=NM (base:=base) (p:=min (max a 0) base) (by omega) (l:=d) (n:=0) (w:=0) h4 (by omega) (by omega);rw[h,uf,iP rfl,e,oB];cases after with
  |false=>rfl
  |true=>rw[iP rfl,iP rfl,w64]
 ·rw[iP (by simpa using h),iN h]
def bkE (base:Int):Int->Int->List El->Int
 |_,_,[]=>base
 |a,to,x::r=>if a>=x.2.1-x.1+x.2.2.size then bkE base (a-(x.2.1-x.1+x.2.2.size)) (if x.2.2.size=0 then x.2.1 else to) r else if x.2.2.size=0 then x.1+a else to
def bk (base:Int) (d:List El) (a:Int):Int:=if isD base d=true then bkE base (min (max a 0) (AD d+A6 d)) 0 d else 0
theorem iF {base:Int} (hK:30000<=K):L2 K base d a b=some (mv base d a true,max (mv base d a true) (mv base d b false)):=by unfold L2;rw[NK hK,oB,NK hK,oB,I1]
def ltS (a b:Sp):Bool:=decide (a.1<b.1)
def leS (a b:Sp):Prop:=ltS b a=false
theorem HX (x:Sp):(x.1,x.2.1,x.2.2)=x:=rfl
theorem HZ {a b c:Sp} (h1:leS a b) (h2:leS b c):leS a c:=by unfold leS ltS at *;rw[decide_eq_false_iff_not] at *;omega
theorem ND {a b:Sp} (h:ltS a b=true):leS a b:=by unfold leS ltS at *;rw[dE] at h;rw[decide_eq_false_iff_not];omega
theorem U8 {a b:Sp}:∃c,GL K a.1 a.2.1 a.2.2 b.1 b.2.1 b.2.2=some c/\decide (c<0)=ltS a b:=by
 unfold GL GT G5 ltS;rw[oB,oB,bne_self_eq_false,uf,bne_self_eq_false,uf];by_cases h:a.1<b.1
 ·rw[iP (by simpa using h),oB];exact⟨_,rfl,by rw[decide_eq_true h];rfl⟩
 ·rw[iN (by simpa using h)];by_cases h2:a.1>b.1
  ·rw[iP (by simpa using h2),oB];exact⟨_,rfl,by rw[decide_eq_false h];rfl⟩
  ·rw[iN (by simpa using h2),oB];exact⟨_,rfl,by rw[decide_eq_false h];rfl⟩
abbrev Srt (l:List Sp):Prop:=l.Pairwise leS
theorem FU {α:Type} {A R:List α} {x d:α} {n:Nat} (h:n=A.length):(A++x::R).getD n d=x:=by subst h;rw[bu,dd (bp _),nf];rfl
theorem HF {α:Type} {A R:List α} {x v:α} {n:Nat} (h:n=A.length):(A++x::R).set n v=A++v::R:=by subst h;rw[jz _ _ (bp _),nf,pv]
theorem bA {α:Type} {P Q:List α} {z x:α} {n:Nat} (hn:n=P.length) (hm:m=P.length+1):((P++z::x::Q).set m z).set n x=P++x::z::Q:=by
 have e:P++z::x::Q=(P++[z])++x::Q:=by simp
 rw[e,HF (by simp[hm]),show (P++[z])++z::Q=P++z::z::Q by simp,HF hn]
theorem VK {α:Type} {P Q:List α} {z x d:α} (hm:m=P.length+1):(P++z::x::Q).getD m d=x:=by rw[show P++z::x::Q=(P++[z])++x::Q by simp,FU (by simp[hm])]
theorem W5 {K:Nat} {A:List Sp} {x:Sp}:∀(n:Nat) (S2 T S:List Sp) (k:Nat),S.length=n->n<k->A.length+S.length+S2.length+T.length<=100000->Srt S->(∀y∈S2,ltS x y=true)->
 ∃S1 S3,BE.l1 K (A.length:Int) k (A++(S++x::(S2++T))) ((A.length+S.length:Nat):Int)=some (A++(S1++x::(S3++T)))/\S1++S3=S++S2/\(∀y∈S1,leS y x)/\(∀y∈S3,ltS x y=true)
 | 0,S2,T,S,k,hn,hk,hl,hs,h2 => by obtain⟨k,rfl⟩:=ug (k:=k);have:S=[]:=bx hn;subst this;rw[BE.l1,uf,oB,uf];exact⟨[],S2,by simp,rfl,λy hy=>(gu hy).elim,h2⟩
 | n+1,S2,T,S,k,hn,hk,hl,hs,h2 => by
   obtain⟨k,rfl⟩:=ug (k:=k);obtain⟨S',z,rfl⟩:=EO (l:=S) (by intro e;rw[e] at hn;simp at hn);rw[lA,ck] at hn hl;have eD:A++((S'++[z])++x::(S2++T))=(A++S')++z::x::(S2++T):=by simp
   have hpl:(A++S').length=A.length+S'.length:=lA;have g1:((A++S')++z::x::(S2++T)).getD (A.length+(S'.length+1)) sp0=x:=VK (by omega);have g2:((A++S')++z::x::(S2++T)).getD (A.length+S'.length) sp0=z:=FU (by omega);have hw:ba .i64 (((A.length+(S'.length+1):Nat):Int)-1)=((A.length+S'.length:Nat):Int):=by rw[w64];omega
   have hDl:((A++S')++z::x::(S2++T)).length=A.length+S'.length+2+S2.length+T.length:=by simp only[lA,lC];omega
   obtain⟨c,hc1,hc2⟩:=U8 (K:=K) (a:=x) (b:=z);rw[lA,ck,BE.l1,eD];simp only[hw,tN,g1,g2,HX];rw[tq,hc1,oB,iP ⟨by omega,by omega,by omega,by omega⟩,hc2,oB];have hs':=ej.1 hs;cases hlt:ltS x z with
   | true =>
     rw[iP rfl,iP ⟨by omega,by omega,by omega,by omega,by rw[iw];omega⟩,bA (by omega) (by omega)];obtain⟨S1,S3,e1,e2,e3,e4⟩:=W5 (K:=K) (A:=A) (x:=x) n (z::S2) T S' k (by omega) (by omega) (by simp only[lC];omega) hs'.1 (λy hy=>by
      rcases bv.1 hy with rfl|hy;·exact hlt
      ·exact h2 y hy)
     refine⟨S1,S3,?_,by rw[e2];simp,e3,e4⟩;rw[<-e1];simp
   | false =>
     rw[uf];refine⟨S'++[z],S2,by rw[<-eD],rfl,λy hy=>?_,h2⟩;rcases cf.1 hy with hy|hy;·exact HZ (hs'.2.2 y hy z (by simp)) hlt
     ·rw[df.1 hy];exact hlt
theorem W4 {K:Nat} {A B:List Sp} (hK:100000<=K):∀(X S:List Sp) (k:Nat),X.length<k->A.length+S.length+X.length+B.length<=90000->Srt S->
 ∃Z,BE.l0 K ((A.length+S.length+X.length:Nat):Int) (A.length:Int) k (A++(S++(X++B))) ((A.length+S.length:Nat):Int)=some (A++(Z++B))/\Z.Perm (S++X)/\Srt Z
 | [],S,k,hk,hl,hs => by obtain⟨k,rfl⟩:=ug (k:=k);rw[BE.l0,uf];exact⟨S,by simp,by simp,hs⟩
 | x :: X,S,k,hk,hl,hs => by
   obtain⟨k,rfl⟩:=ug (k:=k);rw[lC] at hk hl;have hw:ba .i64 (((A.length+S.length:Nat):Int)+1)=((A.length+(S.length+1):Nat):Int):=by rw[w64];omega
   obtain⟨S1,S3,e1,e2,e3,e4⟩:=W5 (K:=K) (A:=A) (x:=x) S.length [] (X++B) S K rfl (by omega) (by simp only[lA,eb];omega) hs (λy hy=>by cases hy);rw[cm] at e2;rw[cd] at e1;rw[BE.l0,tq,db,e1,oB,hw];have hperm:(S1++x::S3).Perm (S++[x]):=by rw[<-e2];exact(qw).trans ((qa x (S1++S3)).symm)
   have hs3:=ej.1 (e2▸hs);have hsrt:Srt (S1++x::S3):=by
    refine ej.2 ⟨hs3.1,dz.2 ⟨λy hy=>ND (e4 y hy),hs3.2.1⟩,λa ha b hb=>?_⟩;rcases bv.1 hb with rfl|hb;·exact e3 a ha
    ·exact hs3.2.2 a ha b hb
   have hlen:(S1++x::S3).length=S.length+1:=by rw[hperm.length_eq];simp
   obtain⟨Z,f1,f2,f3⟩:=W4 (A:=A) (B:=B) hK X (S1++x::S3) k (by omega) (by omega) hsrt;refine⟨Z,?_,?_,f3⟩
   ·rw[<-f1,hlen,lC,show A.length+S.length+(X.length+1)=A.length+(S.length+1)+X.length by omega];congr 1;simp
   ·refine f2.trans ?_;have:=hperm.append_right X;simpa using this
theorem W6 (hK:100000<=K) (hl:A.length+X.length+B.length<=80000) :
 ∃Z,BE K (A++(X++B)) (A.length:Int) ((A.length+X.length:Nat):Int)=some (A++(Z++B))/\Z.Perm X/\Srt Z:=by
 unfold BE;have hw:ba .i64 ((A.length:Int)+1)=((A.length+1:Nat):Int):=by rw[w64];omega
 rw[hw];cases X with
 | nil =>
   obtain⟨k,rfl⟩:∃m,K=m+1:=⟨K-1,by omega⟩;rw[BE.l0,tt];exact⟨[],by simp,kx _,iy⟩
 | cons x X =>
   rw[lC] at hl;obtain⟨Z,e1,e2,e3⟩:=W4 (K:=K) (A:=A) (B:=B) hK X [x] K (by omega) (by simp only[ck];omega) (kf _ _);refine⟨Z,?_,by simpa using e2,e3⟩;rw[<-e1];congr 1;·simp only[lC,eb];omega
theorem tF (h1:0<=n) (h2:n<18446744073709551616):ba .u64 n=n:=by simp only[ba,bh,oj];simp;omega
theorem IP (h:i+j<1000000):ba .i64 (bw (ba .u64 (ba .i64 ((i:Int)+(j:Int)))) 2)=(((i+j)/2:Nat):Int):=by rw[w64 (n:=(i:Int)+(j:Int)),tF (n:=(i:Int)+(j:Int)) (by omega) (by omega),Int.fdiv_eq_ediv_of_nonneg _ (by decide),show ((i:Int)+(j:Int))/2=(((i+j)/2:Nat):Int) by omega,w64]
theorem SW {α:Type} {P R Q:List α} {x y d:α} {n:Nat} (hn:n=P.length) (hm:m=P.length+1+R.length) :
 (P++x::(R++y::Q)).getD n d=x/\(P++x::(R++y::Q)).getD m d=y/\((P++x::(R++y::Q)).set n y).set m x=P++y::(R++x::Q)/\((P++x::(R++y::Q)).set m x).set n y=P++y::(R++x::Q):=by
 have e:∀(u v:α),P++u::(R++v::Q)=(P++u::R)++v::Q:=λu v=>by simp
 have hl:m=(P++x::R).length:=by simp;omega
 have hl2:m=(P++y::R).length:=by simp;omega
 refine⟨FU hn,?_,?_,?_⟩;·rw[e,FU hl]
 ·rw[HF hn,e,HF hl2,<-e]
 ·rw[e,HF hl,<-e,HF hn]
theorem b9 {K n a b:Nat}:∀(X Y P M Q:List Sp) (i k:Nat),X.length=Y.length->X.length<k->i+X.length=n->a+i=P.length->b+i=P.length+X.length+M.length->P.length+X.length+M.length+Y.length+Q.length<=100000->
 DH.l0 K (n:Int) (b:Int) (a:Int) k (P++(X++(M++(Y++Q)))) (i:Int)=some (P++(Y++(M++(X++Q))))
 | [],Y,P,M,Q,i,k,hxy,hk,hn,ha,hb,hl => by obtain⟨k,rfl⟩:=ug (k:=k);have:Y=[]:=bx hxy.symm;subst this;rw[DH.l0,iN (by simp at hn ⊢;omega)]
 |x::X,[],P,M,Q,i,k,hxy,hk,hn,ha,hb,hl=>by simp at hxy
 | x :: X,y :: Y,P,M,Q,i,k,hxy,hk,hn,ha,hb,hl => by
   obtain⟨k,rfl⟩:=ug (k:=k);simp only[lC] at hxy hk hn hb hl;have hwa:ba .i64 ((a:Int)+(i:Int))=((a+i:Nat):Int):=by rw[w64];omega
   have hwb:ba .i64 ((b:Int)+(i:Int))=((b+i:Nat):Int):=by rw[w64];omega
   have hwi:ba .i64 ((i:Int)+1)=((i+1:Nat):Int):=by rw[w64];omega
   have eD:P++(x::X++(M++(y::Y++Q)))=P++x::((X++M)++y::(Y++Q)):=by simp
   obtain⟨g1,g2,g3,-⟩:=SW (P:=P) (R:=X++M) (Q:=Y++Q) (x:=x) (y:=y) (d:=sp0) (n:=a+i) (m:=b+i) ha (by simp;omega);have hDl:(P++x::((X++M)++y::(Y++Q))).length=P.length+X.length+M.length+Y.length+Q.length+2:=by simp;omega
   rw[eD,DH.l0,tq];simp only[hwa,hwb,hwi,tN,g1,g2,HX,iw];rw[iP ⟨by omega,by omega,by omega,by omega,by omega⟩,g3];have:=b9 (K:=K) (n:=n) (a:=a) (b:=b) X Y (P++[y]) (M++[x]) Q (i+1) k (by omega) (by omega) (by omega) (by simp;omega) (by simp;omega) (by simp;omega);simp only[aA,db,cd] at this ⊢;exact this
theorem SU {Y M:List Sp} {n a b:Nat} (hK:100000<K) (hxy:X.length=Y.length) (hn:n=X.length) (ha:a=P.length) (hb:b=P.length+X.length+M.length) (hl:P.length+X.length+M.length+Y.length+Q.length<=100000) :
 DH K (P++(X++(M++(Y++Q)))) (a:Int) (b:Int) (n:Int)=some (P++(Y++(M++(X++Q)))):=by
 unfold DH;exact b9 X Y P M Q 0 K hxy (by omega) (by omega) (by omega) (by omega) hl
theorem S7 {K m:Nat} (hK:100000<K):∀(s k:Nat) (X Y P Q:List Sp),X.length+Y.length<=s->s<k->0<X.length->0<Y.length->P.length+X.length=m->P.length+X.length+Y.length+Q.length<=100000->
 ∃ P' X' Y' Q',DW.l0 K (m:Int) k (P++(X++(Y++Q))) (X.length:Int) (Y.length:Int)=some (P'++(X'++(Y'++Q')),(X'.length:Int))∧Y'.length=X'.length∧P'.length+X'.length=m∧
   P'.length+X'.length+Y'.length+Q'.length<=100000/\P'++(Y'++(X'++Q'))=P++(Y++(X++Q))
 |0,k,X,Y,P,Q,hs,hk,hx,hy,hm,hl=>by omega
 | s+1,k,X,Y,P,Q,hs,hk,hx,hy,hm,hl => by
   obtain⟨k,rfl⟩:=ug (k:=k);have hw1:ba .i64 ((m:Int)-(X.length:Int))=(P.length:Int):=by rw[w64];omega
   rw[DW.l0];by_cases h:X.length=Y.length
   ·rw[iN (by simp[h])];exact⟨P,X,Y,Q,rfl,h.symm,hm,hl,rfl⟩
   ·rw[tq];by_cases h2:X.length>Y.length
    ·have hs1:(X.take Y.length).length=Y.length:=by simp;omega
     have hs2:(X.drop Y.length).length=X.length-Y.length:=by simp
     have hsw:=SU (K:=K) (X:=X.take Y.length) (Y:=Y) (P:=P) (M:=X.drop Y.length) (Q:=Q) (n:=Y.length) (a:=P.length) (b:=m) hK (by omega) (by omega) rfl (by omega) (by omega);rw[<-aA (X.take Y.length) (X.drop Y.length),dm] at hsw;have hw2:ba .i64 ((X.length:Int)-(Y.length:Int))=((X.drop Y.length).length:Int):=by rw[w64];omega
     rw[tq,hw1,hsw,oB,hw2];obtain⟨P',X',Y',Q',e1,e2,e3,e4,e5⟩:=S7 (K:=K) (m:=m) hK s k (X.drop Y.length) (X.take Y.length) (P++Y) Q (by omega) (by omega) (by omega) (by omega) (by simp only[lA];omega) (by simp only[lA];omega);refine⟨P',X',Y',Q',?_,e2,e3,e4,?_⟩;·rw[<-e1,hs1];simp
     ·rw[e5,<-aA (X.take Y.length) (X.drop Y.length) Q,dm,aA]
    ·have hs1:(Y.take (Y.length-X.length)).length=Y.length-X.length:=by simp
     have hs2:(Y.drop (Y.length-X.length)).length=X.length:=by simp;omega
     have hw2:ba .i64 ((Y.length:Int)-(X.length:Int))=((Y.take (Y.length-X.length)).length:Int):=by rw[w64];omega
     have hw3:ba .i64 (ba .i64 ((m:Int)+(Y.length:Int))-(X.length:Int))=((m+(Y.length-X.length):Nat):Int):=by rw[w64 (n:=(m:Int)+(Y.length:Int)),w64];omega
     have hsw:=SU (K:=K) (X:=X) (Y:=Y.drop (Y.length-X.length)) (P:=P) (M:=Y.take (Y.length-X.length)) (Q:=Q) (n:=X.length) (a:=P.length) (b:=m+(Y.length-X.length)) hK (by omega) rfl rfl (by omega) (by omega);rw[<-aA (Y.take (Y.length-X.length)) (Y.drop (Y.length-X.length)),dm] at hsw;rw[tt,hw1,hw3,hsw,oB,hw2];obtain⟨P',X',Y',Q',e1,e2,e3,e4,e5⟩:=S7 (K:=K) (m:=m) hK s k (Y.drop (Y.length-X.length)) (Y.take (Y.length-X.length)) P (X++Q) (by omega) (by omega) (by omega) (by omega) (by omega) (by simp only[lA];omega);refine⟨P',X',Y',Q',?_,e2,e3,e4,?_⟩;·rw[<-e1,hs2]
     ·rw[e5,<-aA (Y.take _) (Y.drop _),dm]
theorem oH {Y:List Sp} {a b:Nat} (hK:100000<K) (hx:0<X.length) (hy:0<Y.length) (ha:a=P.length) (hm:m=P.length+X.length) (hb:b=P.length+X.length+Y.length) (hl:P.length+X.length+Y.length+Q.length<=90000) :
 DW K (P++(X++(Y++Q))) (a:Int) (m:Int) (b:Int)=some (P++(Y++(X++Q))):=by
 subst ha hb;unfold DW;have hw1:ba .i64 ((m:Int)-((P.length:Nat):Int))=(X.length:Int):=by rw[w64];omega
 have hw2:ba .i64 (((P.length+X.length+Y.length:Nat):Int)-(m:Int))=(Y.length:Int):=by rw[w64];omega
 obtain⟨P',X',Y',Q',e1,e2,e3,e4,e5⟩:=S7 (K:=K) (m:=m) hK (X.length+Y.length) K X Y P Q (by omega) (by omega) hx hy hm.symm (by omega);rw[hw1,hw2,e1,oB];simp only;have hw3:ba .i64 ((m:Int)-(X'.length:Int))=(P'.length:Int):=by rw[w64];omega
 have:=SU (K:=K) (X:=X') (Y:=Y') (P:=P') (M:=[]) (Q:=Q') (n:=X'.length) (a:=P'.length) (b:=m) hK e2.symm rfl rfl (by simp;omega) (by simp;omega);rw[cd,cd] at this;rw[hw3,this,oB,e5]
def bs (p:Nat->Bool):Nat->Nat->Nat->Option Nat
 |0,_,_=>none
 |k+1,i,j=>if i<j then (if p ((i+j)/2)=true then bs p k ((i+j)/2+1) j else bs p k i ((i+j)/2)) else some i
theorem IF {p:Nat->Bool}:∀(k i j:Nat),j-i<k->i<=j->∃r,bs p k i j=some r/\i<=r/\r<=j/\(r=i\/p (r-1)=true)/\(r=j\/p r=false)
 |0,i,j,h,_=>by omega
 | k+1,i,j,h,hij => by
   rw[bs];by_cases h1:i<j
   ·rw[iP h1];by_cases h2:p ((i+j)/2)=true
    ·rw[iP h2];obtain⟨r,e1,e2,e3,e4,e5⟩:=IF k ((i+j)/2+1) j (by omega) (by omega);refine⟨r,e1,by omega,e3,?_,e5⟩;rcases e4 with e4|e4;·right;rw[e4];exact h2
     ·right;exact e4
    ·rw[iN h2];obtain⟨r,e1,e2,e3,e4,e5⟩:=IF k i ((i+j)/2) (by omega) (by omega);refine⟨r,e1,e2,by omega,e4,?_⟩;rcases e5 with e5|e5;·right;rw[e5];simpa using h2
     ·right;exact e5
   ·rw[iN h1];exact⟨i,rfl,bp _,hij,.inl rfl,.inl (by omega)⟩
theorem PD {a b:Sp} {R:Type} {F:Int->Option R} {G:Bool->Option R} (h:∀c,F c=G (decide (c<0))):(GL K a.1 a.2.1 a.2.2 b.1 b.2.1 b.2.2).bind F=G (ltS a b):=by obtain⟨c,e1,e2⟩:=U8 (K:=K) (a:=a) (b:=b);rw[e1,oB,h,e2]
theorem SX {K a:Nat} {D:List Sp} (ha:a<D.length) (hD:D.length<=100000):∀(k i j:Nat),i<=j->j<=D.length->A8.l0 K D (a:Int) k (i:Int) (j:Int)=(bs (λh=>ltS (D.getD h sp0) (D.getD a sp0)) k i j).map (λn:Nat=>(n:Int))
 |0,i,j,hij,hj=>rfl
 | k+1,i,j,hij,hj => by
   rw[A8.l0,bs];by_cases h:i<j
   ·have hw:ba .i64 ((((i+j)/2:Nat):Int)+1)=(((i+j)/2+1:Nat):Int):=by rw[w64];omega
    rw[tq,iP h];simp only[IP (i:=i) (j:=j) (by omega),tN,hw];rw[PD (G:=λb=>if b=true then A8.l0 K D (a:Int) k (((i+j)/2+1:Nat):Int) (j:Int) else A8.l0 K D (a:Int) k (i:Int) (((i+j)/2:Nat):Int)) (λc=>by rw[iP ⟨by omega,by omega,by omega,by omega⟩])];rw[SX ha hD k _ _ (by omega) hj,SX ha hD k _ _ (by omega) (by omega)];split<;>rfl
   ·rw[tt,iN h];rfl
theorem SY {K m:Nat} {D:List Sp} (hm:m<D.length) (hD:D.length<=100000):∀(k i j:Nat),i<=j->j<=D.length->A8.l2 K D (m:Int) k (i:Int) (j:Int)=(bs (λh=>!ltS (D.getD m sp0) (D.getD h sp0)) k i j).map (λn:Nat=>(n:Int))
 |0,i,j,hij,hj=>rfl
 | k+1,i,j,hij,hj => by
   rw[A8.l2,bs];by_cases h:i<j
   ·have hw:ba .i64 ((((i+j)/2:Nat):Int)+1)=(((i+j)/2+1:Nat):Int):=by rw[w64];omega
    rw[tq,iP h];simp only[IP (i:=i) (j:=j) (by omega),tN,hw];rw[PD (G:=λb=>if (!b)=true then A8.l2 K D (m:Int) k (((i+j)/2+1:Nat):Int) (j:Int) else A8.l2 K D (m:Int) k (i:Int) (((i+j)/2:Nat):Int)) (λc=>by rw[iP ⟨by omega,by omega,by omega,by omega⟩])];rw[SY hm hD k _ _ (by omega) hj,SY hm hD k _ _ (by omega) (by omega)];split<;>rfl
   ·rw[tt,iN h];rfl
theorem SZ {K a b m:Nat} {D:List Sp} (hab:a+b<1000000) (hm:m<=1000000) (hD:D.length<=100000):∀(k i j:Nat),i<=j->j<=D.length->(∀c,i<=c->c<j->c+1<=(a+b)/2+m/\(a+b)/2+m-1-c<D.length)->
 A8.l4 K D (a:Int) (b:Int) (m:Int) k (i:Int) (j:Int)=(bs (λh=>!ltS (D.getD ((a+b)/2+m-1-h) sp0) (D.getD h sp0)) k i j).map (λn:Nat=>(n:Int))
 |0,i,j,hij,hj,hc=>rfl
 | k+1,i,j,hij,hj,hc => by
   rw[A8.l4,bs];by_cases h:i<j
   ·have hw:ba .i64 ((((i+j)/2:Nat):Int)+1)=(((i+j)/2+1:Nat):Int):=by rw[w64];omega
    have hc1:=hc ((i+j)/2) (by omega) (by omega);have hw2:ba .i64 (ba .i64 (ba .i64 ((((a+b)/2:Nat):Int)+(m:Int))-1)-(((i+j)/2:Nat):Int))=(((a+b)/2+m-1-(i+j)/2:Nat):Int):=by rw[w64 (n:=(((a+b)/2:Nat):Int)+(m:Int)) (by omega) (by omega),w64 (n:=(((a+b)/2:Nat):Int)+(m:Int)-1) (by omega) (by omega),w64];omega
    rw[tq,iP h];simp only[IP (i:=i) (j:=j) (by omega),IP (i:=a) (j:=b) hab,tN,hw,hw2];rw[PD (G:=λq=>if (!q)=true then A8.l4 K D (a:Int) (b:Int) (m:Int) k (((i+j)/2+1:Nat):Int) (j:Int) else A8.l4 K D (a:Int) (b:Int) (m:Int) k (i:Int) (((i+j)/2:Nat):Int)) (λc=>by rw[iP ⟨by omega,by omega,by omega,by omega⟩])];rw[SZ hab hm hD k _ _ (by omega) hj (λc h1 h2=>hc c (by omega) h2),SZ hab hm hD k _ _ (by omega) (by omega) (λc h1 h2=>hc c h1 (by omega))];split<;>rfl
   ·rw[tt,iN h];rfl
theorem bB {K i:Nat} {x:Sp}:∀(B P R:List Sp) (k:Nat),B.length<k->i=P.length+1+B.length->P.length+B.length+R.length<=90000->
 A8.l1 K (i:Int) k (P++x::(B++R)) (P.length:Int)=some (P++(B++x::R))
 | [],P,R,k,hk,hi,hl => by
   obtain⟨k,rfl⟩:=ug (k:=k);have hw:ba .i64 ((i:Int)-1)=(P.length:Int):=by simp at hi;rw[w64];omega
   rw[A8.l1,hw,uf];rfl
 | y :: B,P,R,k,hk,hi,hl => by
   obtain⟨k,rfl⟩:=ug (k:=k);simp only[lC] at hk hi hl;have hw:ba .i64 ((i:Int)-1)=((P.length+1+B.length:Nat):Int):=by rw[w64];omega
   have hw2:ba .i64 ((P.length:Int)+1)=((P.length+1:Nat):Int):=by rw[w64];omega
   obtain⟨g1,g2,g3,-⟩:=SW (P:=P) (R:=[]) (Q:=B++R) (x:=x) (y:=y) (d:=sp0) (n:=P.length) (m:=P.length+1) rfl (by simp);simp only[cd] at g1 g2 g3;have hDl:(P++x::y::(B++R)).length=P.length+B.length+R.length+2:=by simp;omega
   rw[db,A8.l1,hw,tq];simp only[hw2,tN,g1,g2,HX,iw];rw[iP ⟨by omega,by omega,by omega,by omega,by omega⟩,g3];have:=bB (K:=K) (i:=i) (x:=x) B (P++[y]) R k (by omega) (by simp;omega) (by simp;omega);simp only[aA,db,cd,lA,ck] at this ⊢;exact this
theorem bC {K i:Nat} {x:Sp} {P:List Sp} (hi:i=P.length):∀(n:Nat) (A R:List Sp) (k:Nat),A.length=n->n<k->P.length+A.length+R.length<=90000->
 A8.l3 K (i:Int) k (P++(A++x::R)) ((P.length+A.length:Nat):Int)=some (P++x::(A++R))
 | 0,A,R,k,hn,hk,hl => by obtain⟨k,rfl⟩:=ug (k:=k);have:A=[]:=bx hn;subst this;rw[A8.l3,tt];rfl
 | n+1,A,R,k,hn,hk,hl => by
   obtain⟨k,rfl⟩:=ug (k:=k);obtain⟨A',y,rfl⟩:=EO (l:=A) (by intro e;rw[e] at hn;simp at hn);rw[lA,ck] at hn hl;have hw2:ba .i64 (((P.length+(A'.length+1):Nat):Int)-1)=((P.length+A'.length:Nat):Int):=by rw[w64];omega
   have eD:P++((A'++[y])++x::R)=(P++A')++y::x::R:=by simp
   obtain⟨g1,g2,-,g3⟩:=SW (P:=P++A') (R:=[]) (Q:=R) (x:=y) (y:=x) (d:=sp0) (n:=P.length+A'.length) (m:=P.length+(A'.length+1)) (by simp) (by simp;omega);simp only[cd] at g1 g2 g3;have hDl:((P++A')++y::x::R).length=P.length+A'.length+R.length+2:=by simp;omega
   rw[lA,ck,eD,A8.l3,tq];simp only[hw2,tN,g1,g2,HX,iw];rw[iP ⟨by omega,by omega,by omega,by omega,by omega⟩,g3];have:=bC (K:=K) (i:=i) (x:=x) (P:=P) hi n A' (y::R) k (by omega) (by omega) (by simp;omega);simp only[aA,db,cd] at this ⊢;exact this
theorem N3 {α:Type} {P A R:List α} {d:α} {n:Nat} (h1:n=P.length+i) (h2:i<A.length):(P++(A++R)).getD n d=A.getD i d:=by subst h1;rw[bu,dd (by omega),show P.length+i-P.length=i by omega,dk h2,<-bu]
theorem HH {l:List Sp} (h:Srt l) (hij:i<j) (hj:j<l.length):leS (l.getD i sp0) (l.getD j sp0):=by have:=fw.1 h i j (by omega) hj hij;simpa[bb,bj hj,bj (show i<l.length by omega)] using this
theorem N9 (a:Sp):leS a a:=by unfold leS ltS;simp
theorem NI {l:List Sp} {n:Nat} {x:Sp} (h:x∈l.take n):∃i,i<n/\i<l.length/\l.getD i sp0=x:=by obtain⟨i,hi,rfl⟩:=lb.1 h;rw[co] at hi;exact⟨i,by omega,by omega,by rw[mi];simp[bb,bj (show i<l.length by omega)]⟩
theorem NG {l:List Sp} {n:Nat} {x:Sp} (h:x∈l.drop n):∃i,n<=i/\i<l.length/\l.getD i sp0=x:=by obtain⟨i,hi,rfl⟩:=lb.1 h;rw[cq] at hi;exact⟨n+i,by omega,by omega,by rw[nm];simp[bb,bj (show n+i<l.length by omega)]⟩
theorem aU {l:List Sp} (h:Srt l) (n:Nat):Srt (l.take n):=h.sublist (List.take_sublist _ _)
theorem aS {l:List Sp} (h:Srt l) (n:Nat):Srt (l.drop n):=h.sublist (List.drop_sublist _ _)
theorem j7 {a b c:Sp} (h1:ltS a b=true) (h2:leS b c):ltS a c=true:=by unfold leS ltS at *;rw[decide_eq_false_iff_not] at h2;rw[dE] at h1 ⊢;omega
theorem iV {a b c:Sp} (h1:leS a b) (h2:ltS b c=true):ltS a c=true:=by unfold leS ltS at *;rw[decide_eq_false_iff_not] at h1;rw[dE] at h2 ⊢;omega
theorem XD {α:Type} {x:α} {A B:List α}:(A++x::B).Perm (x::(A++B)):=qw
theorem aT {x:Sp} (h:Srt (A++B)) (h1:∀y∈A,leS y x) (h2:∀y∈B,leS x y):Srt (A++x::B):=by
 have h':=ej.1 h;refine ej.2 ⟨h'.1,dz.2 ⟨h2,h'.2.1⟩,λa ha b hb=>?_⟩;rcases bv.1 hb with rfl|hb;·exact h1 a ha
 ·exact h'.2.2 a ha b hb
theorem kJ {k:Nat} {x:Sp} (hK:100000<K) (hB:0<B.length) (hl:P.length+1+B.length+Q.length<=80000) (hs:Srt B) :
 ∃Z,A8.f K (k+1) (P++(([x]:List Sp)++(B++Q))) (P.length:Int) ((P.length+1:Nat):Int) ((P.length+1+B.length:Nat):Int)=some (P++(Z++Q))/\Z.Perm ([x]++B)/\Srt Z:=by
 have hw:ba .i64 (((P.length+1:Nat):Int)-((P.length:Nat):Int))=1:=by rw[w64];omega
 have hDl:(P++(([x]:List Sp)++(B++Q))).length=P.length+1+B.length+Q.length:=by simp;omega
 rw[A8.f,hw,iP (by simp),SX (by omega) (by omega) K (P.length+1) (P.length+1+B.length) (by omega) (by omega)];obtain⟨r,e1,e2,e3,e4,e5⟩:=IF (p:=λh=>ltS ((P++(([x]:List Sp)++(B++Q))).getD h sp0) ((P++(([x]:List Sp)++(B++Q))).getD P.length sp0)) K (P.length+1) (P.length+1+B.length) (by omega) (by omega);have gx:(P++(([x]:List Sp)++(B++Q))).getD P.length sp0=x:=FU rfl;have gb:∀i,i<B.length->(P++(([x]:List Sp)++(B++Q))).getD (P.length+1+i) sp0=B.getD i sp0:=λi hi=>by
  have:P++(([x]:List Sp)++(B++Q))=(P++[x])++(B++Q):=by simp
  rw[this];exact N3 (by simp) hi
 rw[e1,fy,oB];have h1:∀y∈B.take (r-(P.length+1)),leS y x:=by
  intro y hy;obtain⟨i,i1,i2,rfl⟩:=NI hy;rcases e4 with e4|e4;·omega
  ·simp only[gx] at e4;rw[show r-1=P.length+1+(r-(P.length+1)-1) by omega,gb _ (by omega)] at e4;refine ND ?_;rcases gw i (r-(P.length+1)-1) with h|h;·exact iV (HH hs h (by omega)) e4
   ·rw[show i=r-(P.length+1)-1 by omega];exact e4
 have h2:∀y∈B.drop (r-(P.length+1)),leS x y:=by
  intro y hy;obtain⟨i,i1,i2,rfl⟩:=NG hy;rcases e5 with e5|e5;·omega
  ·simp only[gx] at e5;rw[show r=P.length+1+(r-(P.length+1)) by omega,gb _ (by omega)] at e5;rcases gw (r-(P.length+1)) i with h|h;·exact HZ e5 (HH hs h (by omega))
   ·rw[show i=r-(P.length+1) by omega];exact e5
 refine⟨B.take (r-(P.length+1))++x::B.drop (r-(P.length+1)),?_,?_,aT (by rw[dm];exact hs) h1 h2⟩
 ·have hm:=bB (K:=K) (i:=r) (x:=x) (B.take (r-(P.length+1))) P (B.drop (r-(P.length+1))++Q) K (by rw[co];omega) (by rw[co];omega) (by simp only[lA,co,cq];omega);rw[<-aA (B.take _) (B.drop _) Q,dm] at hm;rw[db,cd,hm];simp
 ·refine XD.trans ?_;rw[dm];exact kx _
theorem kK {k:Nat} {x:Sp} (hK:100000<K) (hA:1<A.length) (hl:P.length+A.length+1+Q.length<=80000) (hs:Srt A) :
 ∃Z,A8.f K (k+1) (P++(A++(([x]:List Sp)++Q))) (P.length:Int) ((P.length+A.length:Nat):Int) ((P.length+A.length+1:Nat):Int)=some (P++(Z++Q))/\Z.Perm (A++[x])/\Srt Z:=by
 have hw:ba .i64 (((P.length+A.length:Nat):Int)-((P.length:Nat):Int))=(A.length:Int):=by rw[w64];omega
 have hw2:ba .i64 (((P.length+A.length+1:Nat):Int)-((P.length+A.length:Nat):Int))=1:=by rw[w64];omega
 have hDl:(P++(A++(([x]:List Sp)++Q))).length=P.length+A.length+1+Q.length:=by simp;omega
 rw[A8.f,hw,tt,hw2,iP (by simp),SY (by omega) (by omega) K P.length (P.length+A.length) (by omega) (by omega)];obtain⟨r,e1,e2,e3,e4,e5⟩:=IF (p:=λh=>!ltS ((P++(A++(([x]:List Sp)++Q))).getD (P.length+A.length) sp0) ((P++(A++(([x]:List Sp)++Q))).getD h sp0)) K P.length (P.length+A.length) (by omega) (by omega);have gx:(P++(A++(([x]:List Sp)++Q))).getD (P.length+A.length) sp0=x:=by rw[<-aA];exact FU (by simp)
 have ga:∀i,i<A.length->(P++(A++(([x]:List Sp)++Q))).getD (P.length+i) sp0=A.getD i sp0:=λi hi=>N3 rfl hi;rw[e1,fy,oB];have h1:∀y∈A.take (r-P.length),leS y x:=by
  intro y hy;obtain⟨i,i1,i2,rfl⟩:=NI hy;rcases e4 with e4|e4;·omega
  ·simp only[gx] at e4;rw[show r-1=P.length+(r-P.length-1) by omega,ga _ (by omega),iz] at e4;rcases gw i (r-P.length-1) with h|h;·exact HZ (HH hs h (by omega)) e4
   ·rw[show i=r-P.length-1 by omega];exact e4
 have h2:∀y∈A.drop (r-P.length),leS x y:=by
  intro y hy;obtain⟨i,i1,i2,rfl⟩:=NG hy;rcases e5 with e5|e5;·omega
  ·simp only[gx] at e5;rw[show r=P.length+(r-P.length) by omega,ga _ (by omega),tu] at e5;refine ND ?_;rcases gw (r-P.length) i with h|h;·exact j7 e5 (HH hs h (by omega))
   ·rw[show i=r-P.length by omega];exact e5
 refine⟨A.take (r-P.length)++x::A.drop (r-P.length),?_,?_,aT (by rw[dm];exact hs) h1 h2⟩
 ·have hm:=bC (K:=K) (i:=r) (x:=x) (P:=P++A.take (r-P.length)) (by simp only[lA,co];omega) _ (A.drop (r-P.length)) Q K rfl (by rw[cq];omega) (by simp only[lA,co,cq];omega);rw[show (P++A.take (r-P.length)).length+(A.drop (r-P.length)).length=P.length+A.length by simp only[lA,co,cq];omega] at hm;simp only[aA] at hm;rw[<-aA (A.take _) (A.drop _) (x::Q),dm] at hm;rw[db,cd,hm];simp
 ·refine XD.trans ?_;rw[dm];exact(qa x A).symm
theorem qE (h1:Srt A) (h2:Srt B) (h:∀x∈A,∀y∈B,leS x y):Srt (A++B):=ej.2 ⟨h1,h2,h⟩
theorem qP {mid:Nat} (hK:100000<K) (hmid:mid=(P.length+(P.length+A.length+B.length))/2) (hA:0<A.length) (hB:0<B.length) (hl:P.length+A.length+B.length+Q.length<=80000) (sA:Srt A) (sB:Srt B) :
 ∃ lo hi r:Nat,(if (decide (((P.length+A.length:Nat):Int) > (mid:Int)))=true then some (ba .i64 (((mid+(P.length+A.length):Nat):Int) - ((P.length+A.length+B.length:Nat):Int)),(mid:Int)) else some ((P.length:Int),((P.length+A.length:Nat):Int)))=some ((lo:Int),(hi:Int))∧
   A8.l4 K (P++(A++(B++Q))) (P.length:Int) ((P.length+A.length+B.length:Nat):Int) ((P.length+A.length:Nat):Int) K (lo:Int) (hi:Int)=some (r:Int)/\
   P.length<=r/\r<=P.length+A.length/\r<=mid/\mid+(P.length+A.length)<=r+(P.length+A.length+B.length)/\
   (∀x∈A.take (r-P.length),∀y∈B.drop (mid-r),leS x y)/\(∀y∈B.take (mid-r),∀x∈A.drop (r-P.length),leS y x):=by
 have hDl:(P++(A++(B++Q))).length=P.length+A.length+B.length+Q.length:=by simp;omega
 obtain⟨lo,hi,hlh,hlo1,hhi1,hlo2,hhi2,hlo3,hhi3⟩:∃lo hi:Nat,(if (decide (((P.length+A.length:Nat):Int)>(mid:Int)))=true then some (ba .i64 (((mid+(P.length+A.length):Nat):Int)-((P.length+A.length+B.length:Nat):Int)),(mid:Int)) else some ((P.length:Int),((P.length+A.length:Nat):Int)))=some ((lo:Int),(hi:Int))/\
  P.length<=lo/\hi<=P.length+A.length/\mid+(P.length+A.length)<=lo+(P.length+A.length+B.length)/\hi<=mid/\(lo=P.length\/mid+(P.length+A.length)=lo+(P.length+A.length+B.length))/\(hi=P.length+A.length\/hi=mid):=by
  by_cases h:P.length+A.length>mid
  ·rw[tq];refine⟨mid+(P.length+A.length)-(P.length+A.length+B.length),mid,?_,by omega,by omega,by omega,by omega,.inr (by omega),.inr rfl⟩;rw[w64];congr 2;omega
  ·rw[tt];exact⟨P.length,P.length+A.length,rfl,by omega,by omega,by omega,by omega,.inl rfl,.inl rfl⟩
 have hlehi:lo<=hi:=by omega
 have e0:=SZ (K:=K) (a:=P.length) (b:=P.length+A.length+B.length) (m:=P.length+A.length) (D:=P++(A++(B++Q))) (by omega) (by omega) (by omega) K lo hi hlehi (by omega) (λc h1 h2=>by omega);obtain⟨r,e1,e2,e3,e4,e5⟩:=IF (p:=λh=>!ltS ((P++(A++(B++Q))).getD ((P.length+(P.length+A.length+B.length))/2+(P.length+A.length)-1-h) sp0) ((P++(A++(B++Q))).getD h sp0)) K lo hi (by omega) hlehi;rw[e1,fy] at e0;rw[<-hmid] at e4 e5;have ga:∀i,i<A.length->(P++(A++(B++Q))).getD (P.length+i) sp0=A.getD i sp0:=λi hi=>N3 rfl hi;have gb:∀i,i<B.length->(P++(A++(B++Q))).getD (P.length+A.length+i) sp0=B.getD i sp0:=λi hi=>by rw[<-aA];exact N3 (by simp) hi
 refine⟨lo,hi,r,hlh,e0,by omega,by omega,by omega,by omega,?_,?_⟩
 ·intro x hx y hy;obtain⟨i,i1,i2,rfl⟩:=NI hx;obtain⟨j,j1,j2,rfl⟩:=NG hy;rcases e4 with e4|e4;·omega
  ·rw[show mid+(P.length+A.length)-1-(r-1)=P.length+A.length+(mid-r) by omega,gb (mid-r) (by omega),show r-1=P.length+(r-P.length-1) by omega,ga _ (by omega),iz] at e4;have h1:leS (A.getD i sp0) (A.getD (r-P.length-1) sp0):=by
    rcases gw i (r-P.length-1) with h|h;·exact HH sA h (by omega)
    ·rw[show i=r-P.length-1 by omega];exact N9 _
   have h2:leS (B.getD (mid-r) sp0) (B.getD j sp0):=by
    rcases gw (mid-r) j with h|h;·exact HH sB h (by omega)
    ·rw[show j=mid-r by omega];exact N9 _
   exact HZ h1 (HZ e4 h2)
 ·intro y hy x hx;obtain⟨i,i1,i2,rfl⟩:=NG hx;obtain⟨j,j1,j2,rfl⟩:=NI hy;rcases e5 with e5|e5;·omega
  ·rw[show mid+(P.length+A.length)-1-r=P.length+A.length+(mid-r-1) by omega,gb (mid-r-1) (by omega),show r=P.length+(r-P.length) by omega,ga _ (by omega),tu] at e5;have h1:leS (A.getD (r-P.length) sp0) (A.getD i sp0):=by
    rcases gw (r-P.length) i with h|h;·exact HH sA h (by omega)
    ·rw[show i=r-P.length by omega];exact N9 _
   have h2:leS (B.getD j sp0) (B.getD (mid-r-1) sp0):=by
    rcases gw j (mid-r-1) with h|h;·exact HH sB h (by omega)
    ·rw[show j=mid-r-1 by omega];exact N9 _
   refine HZ h2 (HZ (ND ?_) h1);rw[show P.length+(r-P.length)=r by omega] at e5;exact e5
theorem VT {p q:Prop} [Decidable p] [Decidable q]:(if (decide p)=true then some (decide q) else some false)=some (decide (p/\q)):=by
 by_cases h:p;·rw[iP (by simpa using h)];simp[h]
 ·rw[iN (by simpa using h)];simp[h]
theorem qR (hK:100000<K) {a b:Nat} (ha:a=P.length) (hm:m=P.length+A.length) (hb:b=P.length+A.length+B.length) (hl:P.length+A.length+B.length+Q.length<=90000) (hD:D=P++(A++(B++Q))) :
 ((if (decide ((a:Int)<(m:Int)))=true then some (decide ((m:Int)<(b:Int))) else some false).bind λz=>if z=true then (DW K D (a:Int) (m:Int) (b:Int)).bind (λr_96=>some r_96) else some D)=some (P++(B++(A++Q))):=by
 subst hD;rw[VT,oB];by_cases h:0<A.length/\0<B.length;·rw[iP (by rw[dE];omega),oH hK h.1 h.2 ha hm hb hl,oB]
 ·rw[iN (by rw[dE];omega)];have:A=[]\/B=[]:=by
   rcases ki A.length with h'|h';·exact .inl (bx h')
   ·exact .inr (bx (by omega))
  rcases this with h'|h'<;>subst h'<;>simp
def MA (K k:Nat):Prop:=∀ (A B P Q:List Sp),0<A.length→0<B.length→A.length+B.length<k→P.length+A.length+B.length+Q.length≤80000→Srt A→Srt B→
    ∃Z,A8.f K k (P++(A++(B++Q))) (P.length:Int) ((P.length+A.length:Nat):Int) ((P.length+A.length+B.length:Nat):Int)=some (P++(Z++Q))/\Z.Perm (A++B)/\Srt Z
theorem bE {k:Nat} (ih:MA K k) {a b:Nat} (ha:a=P.length) (hm:m=P.length+A.length) (hb:b=P.length+A.length+B.length) (hk:A.length+B.length<k) (hl:P.length+A.length+B.length+Q.length<=80000) (sA:Srt A) (sB:Srt B) (hD:D=P++(A++(B++Q))) :
 ∃Z,((if (decide ((a:Int)<(m:Int)))=true then some (decide ((m:Int)<(b:Int))) else some false).bind λz=>if z=true then (A8.f K k D (a:Int) (m:Int) (b:Int)).bind (λr=>some r) else some D)=some (P++(Z++Q))/\Z.Perm (A++B)/\Srt Z:=by
 subst hD;rw[VT,oB];by_cases h:0<A.length/\0<B.length
 ·obtain⟨Z,z1,z2,z3⟩:=ih A B P Q h.1 h.2 hk hl sA sB;rw[iP (by rw[dE];omega),ha,hm,hb,z1,oB];exact⟨Z,rfl,z2,z3⟩
 ·rw[iN (by rw[dE];omega)];have:A=[]\/B=[]:=by
   rcases ki A.length with h'|h';·exact .inl (bx h')
   ·exact .inr (bx (by omega))
  refine⟨A++B,by simp,kx _,?_⟩;rcases this with h'|h'<;>subst h';·exact sB
  ·rw[cm];exact sA
theorem U0 {α β γ:Type} (c:Option α) (F:α->Option β) (G:β->Option γ):(c.bind λz=>(F z).bind G)=(c.bind F).bind G:=by cases c<;>rfl
theorem qQ {k:Nat} (hK:100000<K) (ih:MA K k):MA K (k+1):=by
 intro A B P Q hA hB hk hl sA sB;by_cases ha1:A.length=1
 ·obtain⟨x,rfl⟩:=ot.1 ha1;exact kJ hK hB (by simp at hl;omega) sB
 by_cases hb1:B.length=1
 ·obtain⟨x,rfl⟩:=ot.1 hb1;exact kK hK (by omega) (by simp at hl;omega) sA
 have hw1:ba .i64 (((P.length+A.length:Nat):Int)-((P.length:Nat):Int))=(A.length:Int):=by rw[w64];omega
 have hw2:ba .i64 (((P.length+A.length+B.length:Nat):Int)-((P.length+A.length:Nat):Int))=(B.length:Int):=by rw[w64];omega
 obtain⟨mid,hmid⟩:∃mid,mid=(P.length+(P.length+A.length+B.length))/2:=⟨_,rfl⟩;have hh:=IP (i:=P.length) (j:=P.length+A.length+B.length) (by omega);rw[<-hmid] at hh;have hn:ba .i64 ((mid:Int)+((P.length+A.length:Nat):Int))=((mid+(P.length+A.length):Nat):Int):=by rw[w64];omega
 obtain⟨lo,hi,r,e1,e2,r1,r2,r3,r4,f1,f2⟩:=qP (Q:=Q) hK hmid hA hB hl sA sB;have hend:ba .i64 (((mid+(P.length+A.length):Nat):Int)-(r:Int))=((mid+(P.length+A.length)-r:Nat):Int):=by rw[w64];omega
 rw[A8.f,hw1,tt,hw2,tt];simp only[hh,hn];rw[e1,oB];simp only;rw[e2,oB];simp only[hend];obtain⟨s,hs⟩:∃s,s=r-P.length:=⟨_,rfl⟩;obtain⟨t,ht⟩:∃t,t=mid-r:=⟨_,rfl⟩;rw[<-hs,<-ht] at f1 f2;have eA:A.take s++A.drop s=A:=dm _ _;have eB:B.take t++B.drop t=B:=dm _ _;have lA1:(A.take s).length=s:=by rw[co];omega
 have lA2:(A.drop s).length=A.length-s:=cq;have lB1:(B.take t).length=t:=by rw[co];omega
 have lB2:(B.drop t).length=B.length-t:=cq;have hturn:=qR (K:=K) hK (P:=P++A.take s) (A:=A.drop s) (B:=B.take t) (Q:=B.drop t++Q) (a:=r) (m:=P.length+A.length) (b:=mid+(P.length+A.length)-r) (by rw[lA];omega) (by rw[lA];omega) (by rw[lA];omega) (by simp only[lA];omega) (D:=P++(A++(B++Q))) (by rw[<-aA (B.take t),eB,aA,<-aA (A.take s),eA])
 rw[aA] at hturn;obtain⟨Z1,z1,z2,z3⟩:=bE ih (P:=P) (A:=A.take s) (B:=B.take t) (Q:=A.drop s++(B.drop t++Q)) (a:=P.length) (m:=r) (b:=mid) rfl (by omega) (by omega) (by omega) (by simp only[lA];omega) (aU sA s) (aU sB t) rfl;have hz1:Z1.length=s+t:=by rw[z2.length_eq,lA];omega
 obtain⟨Z2,y1,y2,y3⟩:=bE ih (P:=P++Z1) (A:=A.drop s) (B:=B.drop t) (Q:=Q) (a:=mid) (m:=mid+(P.length+A.length)-r) (b:=P.length+A.length+B.length) (by rw[lA];omega) (by rw[lA];omega) (by rw[lA];omega) (by omega) (by simp only[lA];omega) (aS sA s) (aS sB t) (D:=P++(Z1++(A.drop s++(B.drop t++Q)))) (by simp);refine⟨Z1++Z2,?_,?_,qE z3 y3 λx hx y hy=>?_⟩
 ·rw[U0,hturn,oB,U0,z1,oB,y1];simp
 ·refine(z2.append y2).trans ?_;rw[aA];refine((List.perm_append_comm_assoc (B.take t) (A.drop s) (B.drop t)).append_left (A.take s)).trans ?_;rw[eB,<-aA,eA]
 ·have sAB:∀x∈A.take s,∀y∈A.drop s,leS x y:=(ej.1 (show (A.take s++A.drop s).Pairwise leS by rw[eA];exact sA)).2.2;have sBB:∀x∈B.take t,∀y∈B.drop t,leS x y:=(ej.1 (show (B.take t++B.drop t).Pairwise leS by rw[eB];exact sB)).2.2;rcases cf.1 (z2.mem_iff.1 hx) with hx|hx<;>rcases cf.1 (y2.mem_iff.1 hy) with hy|hy;·exact sAB x hx y hy
  ·exact f1 x hx y hy
  ·exact f2 x hx y hy
  ·exact sBB x hx y hy
theorem bD {K:Nat} (hK:100000<K):∀k,MA K k
 |0=>λ_ _ _ _ _ _ h=>by omega
 |k+1=>qQ hK (bD hK k)
theorem bF (hK:100000<K) {a b:Nat} (hA:0<A.length) (hB:0<B.length) (hl:P.length+A.length+B.length+Q.length<=80000) (sA:Srt A) (sB:Srt B) (ha:a=P.length) (hm:m=P.length+A.length) (hb:b=P.length+A.length+B.length) :
 ∃Z,A8 K (P++(A++(B++Q))) (a:Int) (m:Int) (b:Int)=some (P++(Z++Q))/\Z.Perm (A++B)/\Srt Z:=by
 subst ha hm hb;unfold A8;exact bD hK K A B P Q hA hB (by omega) hl sA sB
def Chs (s:Nat) (cs:List (List Sp)):Prop:=∀c∈cs,c.length=s/\Srt c
theorem PB {s:Nat}:∀{cs:List (List Sp)},Chs s cs->cs.flatten.length=cs.length*s
 |[],_=>by simp
 | c :: cs,h => by have h1:=(h c (by simp)).1;have h2:=PB (cs:=cs) λd hd=>h d (by simp[hd]);rw[lt,lA,h1,h2,lC,Nat.succ_mul];omega
theorem aW {K:Nat} (hK:100000<K):∀(n:Nat) (cs:List (List Sp)) (X:List Sp) (k:Nat),X.length<=n->n<k->Chs 20 cs->cs.flatten.length+X.length<=60000->
 ∃cs' L,AY.l0 K ((cs.flatten.length+X.length:Nat):Int) k (cs.flatten++X) (cs.flatten.length:Int) ((cs.flatten.length+20:Nat):Int)=some (cs'.flatten++L,(cs'.flatten.length:Int))/\Chs 20 cs'/\L.length<20/\(cs'.flatten++L).Perm (cs.flatten++X)
 | n,cs,X,k,hn,hk,hc,hl => by
   obtain⟨k,rfl⟩:=ug (k:=k);rw[AY.l0];by_cases h:20<=X.length
   ·obtain⟨n,rfl⟩:=ug (k:=n);have h1:(X.take 20).length=20:=by rw[co];omega
    have h2:(X.drop 20).length=X.length-20:=cq;obtain⟨Z,e1,e2,e3⟩:=W6 (K:=K) (A:=cs.flatten) (X:=X.take 20) (B:=X.drop 20) (by omega) (by omega);rw[dm,h1] at e1;have hw:ba .i64 (((cs.flatten.length+20:Nat):Int)+20)=((cs.flatten.length+20+20:Nat):Int):=by rw[w64];omega
    rw[iP (by simp[-gm];omega),e1,oB,hw];have hZ:Z.length=20:=by rw[e2.length_eq,h1]
    have hf:(cs++[Z]).flatten=cs.flatten++Z:=by simp
    obtain⟨cs',L,f1,f2,f3,f4⟩:=aW (K:=K) hK n (cs++[Z]) (X.drop 20) k (by omega) (by omega) (λc hc'=>by
     rcases cf.1 hc' with h'|h';·exact hc c h'
     ·rw[df.1 h'];exact⟨hZ,e3⟩) (by rw[hf,lA];omega)
    rw[hf,lA,hZ,h2,aA] at f1;refine⟨cs',L,?_,f2,f3,f4.trans ?_⟩;·rw[<-f1];congr 1;omega
    ·rw[hf,aA];refine sc _ ?_;refine(e2.append_right _).trans ?_;rw[dm]
   ·rw[iN (by simp[-gm];omega)];exact⟨cs,X,rfl,hc,by omega,kx _⟩
theorem aY {K s:Nat} (hK:100000<K) (hs:0<s) (hs2:s<=60000) {L:List Sp} (hL:L.length<s):∀(m:Nat) (cs ds:List (List Sp)) (k:Nat),cs.length<=m->m<k->Chs s cs->Chs (2*s) ds->ds.flatten.length+cs.flatten.length+L.length<=60000->
 ∃ cs' ds',AY.l2 K ((ds.flatten.length+cs.flatten.length+L.length:Nat):Int) (s:Int) k (ds.flatten++(cs.flatten++L)) (ds.flatten.length:Int) ((ds.flatten.length+2 * s:Nat):Int)=some (ds'.flatten++(cs'.flatten++L),(ds'.flatten.length:Int))∧
   cs'.length<=1/\Chs s cs'/\Chs (2*s) ds'/\(ds'.flatten++(cs'.flatten++L)).Perm (ds.flatten++(cs.flatten++L))
 | m,[],ds,k,hm,hk,hc,hd,hl => by obtain⟨k,rfl⟩:=ug (k:=k);rw[AY.l2,iN (by simp[-gm];omega)];exact⟨[],ds,rfl,by simp,hc,hd,kx _⟩
 | m,[c],ds,k,hm,hk,hc,hd,hl => by obtain⟨k,rfl⟩:=ug (k:=k);have h1:=(hc c (by simp)).1;rw[AY.l2,iN (by simp[-gm];omega)];exact⟨[c],ds,rfl,by simp,hc,hd,kx _⟩
 |0,c::d::cs,ds,k,hm,hk,hc,hd,hl=>by simp at hm
 | m+1,c :: d :: cs,ds,k,hm,hk,hc,hd,hl => by
   obtain⟨k,rfl⟩:=ug (k:=k);obtain⟨h1,h2⟩:=hc c (by simp);obtain⟨h3,h4⟩:=hc d (by simp);simp only[lt,lA,lC] at hl hm;have hw1:ba .i64 ((ds.flatten.length:Int)+(s:Int))=((ds.flatten.length+s:Nat):Int):=by rw[w64];omega
   have hw2:ba .i64 (2*(s:Int))=((2*s:Nat):Int):=by rw[w64];omega
   have hw3:ba .i64 (((ds.flatten.length+2*s:Nat):Int)+((2*s:Nat):Int))=((ds.flatten.length+2*s+2*s:Nat):Int):=by rw[w64];omega
   obtain⟨Z,e1,e2,e3⟩:=bF (K:=K) hK (A:=c) (B:=d) (P:=ds.flatten) (Q:=cs.flatten++L) (a:=ds.flatten.length) (m:=ds.flatten.length+s) (b:=ds.flatten.length+2*s) (by omega) (by omega) (by rw[lA];omega) h2 h4 rfl (by omega) (by omega);have eD:ds.flatten++((c::d::cs).flatten++L)=ds.flatten++(c++(d++(cs.flatten++L))):=by simp
   have hZ:Z.length=2*s:=by rw[e2.length_eq,lA];omega
   have hf:(ds++[Z]).flatten=ds.flatten++Z:=by simp
   rw[eD,AY.l2,iP (by simp only[lt,lA,dE];omega),hw1,e1,oB,hw2,hw3];obtain⟨cs',ds',f1,f2,f3,f4,f5⟩:=aY (K:=K) hK hs hs2 hL m cs (ds++[Z]) k (by omega) (by omega) (λx hx=>hc x (by simp[hx])) (λx hx=>by
    rcases cf.1 hx with h'|h';·exact hd x h'
    ·rw[df.1 h'];exact⟨hZ,e3⟩) (by rw[hf,lA];omega)
   rw[hf,lA,hZ,aA] at f1;refine⟨cs',ds',?_,f2,f3,f4,f5.trans ?_⟩
   ·rw[<-f1];congr 1;simp only[lt,lA];omega
   ·rw[hf,aA];refine sc _ ((e2.append_right _).trans ?_);rw[aA]
theorem aX {K:Nat} (hK:100000<K):∀(j s k:Nat) (cs:List (List Sp)) (L:List Sp),cs.flatten.length+L.length<=s+j->j<k->0<s->s<=120000->Chs s cs->L.length<s->Srt L->cs.flatten.length+L.length<=30000->
 ∃Z,AY.l1 K ((cs.flatten.length+L.length:Nat):Int) k (cs.flatten++L) (s:Int)=some Z/\Z.Perm (cs.flatten++L)/\Srt Z
 | j,s,k,cs,L,hj,hk,hs,hs2,hc,hL,sL,hl => by
   obtain⟨k,rfl⟩:=ug (k:=k);rw[AY.l1];have hcl:=PB hc;by_cases h:s<cs.flatten.length+L.length
   ·obtain⟨j,rfl⟩:=ug (k:=j);have hw2:ba .i64 (2*(s:Int))=((2*s:Nat):Int):=by rw[w64];omega
    have hw4:ba .i64 ((s:Int)*2)=((2*s:Nat):Int):=by rw[w64];omega
    have hcs:cs.length<K:=by have:cs.length*1<=cs.length*s:=Nat.mul_le_mul_left _ hs;omega
    obtain⟨cs',ds',f1,f2,f3,f4,f5⟩:=aY (K:=K) hK hs (by omega) hL cs.length cs [] K (bp _) hcs hc (λc hc'=>by cases hc') (by simp[-gm];omega);simp only[nt,cd,eb,ew,ix] at f1 f5;have hlen:ds'.flatten.length+cs'.flatten.length+L.length=cs.flatten.length+L.length:=by have:=f5.length_eq;simp only[lA] at this;omega
    have hcl':=PB f3;have hw1:ba .i64 ((ds'.flatten.length:Int)+(s:Int))=((ds'.flatten.length+s:Nat):Int):=by rw[w64];omega
    rw[iP (by simp[-gm];omega),hw2,f1,oB];simp only[hw1,hw4];suffices hN:∃L',(if decide (((ds'.flatten.length+s:Nat):Int)<((cs.flatten.length+L.length:Nat):Int))=true then (A8 K (ds'.flatten++(cs'.flatten++L)) (ds'.flatten.length:Int) ((ds'.flatten.length+s:Nat):Int) ((cs.flatten.length+L.length:Nat):Int)).bind (λr_99=>some r_99) else some (ds'.flatten++(cs'.flatten++L)))=some (ds'.flatten++L')/\L'.Perm (cs'.flatten++L)/\Srt L'/\L'.length<2*s by
     obtain⟨L',g1,g2,g3,g4⟩:=hN;rw[g1,oB];have hll:ds'.flatten.length+L'.length=cs.flatten.length+L.length:=by have:=g2.length_eq;rw[lA] at this;omega
     obtain⟨Z,z1,z2,z3⟩:=aX (K:=K) hK j (2*s) k ds' L' (by omega) (by omega) (by omega) (by omega) f4 g4 g3 (by omega);rw[hll] at z1;exact⟨Z,z1,z2.trans ((g2.append_left _).trans f5),z3⟩
    match cs',f2,f3,hcl',hlen with
    | [],_,_,_,hlen =>
      simp only[nt,eb] at hlen;rw[iN (by simp[-gm];omega)];exact⟨L,by simp,by simp,sL,by omega⟩
    | [c],_,f3,hcl',hlen =>
      obtain⟨h1,h2⟩:=f3 c (by simp);simp only[lt,nt,cm] at hlen ⊢;by_cases hL0:0<L.length
      ·obtain⟨Z,e1,e2,e3⟩:=bF (K:=K) hK (A:=c) (B:=L) (P:=ds'.flatten) (Q:=[]) (a:=ds'.flatten.length) (m:=ds'.flatten.length+s) (b:=cs.flatten.length+L.length) (by omega) hL0 (by simp[-gm];omega) h2 sL rfl (by omega) (by omega);rw[cm,cm] at e1;rw[iP (by simp[-gm];omega),e1,oB];exact⟨Z,rfl,e2,e3,by rw[e2.length_eq,lA];omega⟩
      ·have:L=[]:=bx (by omega);subst this;rw[iN (by simp[-gm] at hlen ⊢;omega),cm];exact⟨c,rfl,kx _,h2,by omega⟩
    |_::_::_,f2,_,_,_=>simp at f2
   ·rw[iN (by simp[-gm];omega)];match cs,hc,hcl,h with
    |[],_,_,_=>exact⟨L,by simp,by simp,sL⟩
    | [c],hc,hcl,h =>
      obtain⟨h1,h2⟩:=hc c (by simp);simp only[lt,nt,cm] at h ⊢;have:L=[]:=bx (by omega);subst this;rw[cm];exact⟨c,rfl,kx _,h2⟩
    | c :: d :: cs,hc,hcl,h =>
      have h1:=(hc c (by simp)).1;have h3:=(hc d (by simp)).1;simp only[lt,lA] at h;omega
theorem qG (hK:100000<K) (hl:X.length<=30000):∃Z,LX K X=some Z/\Z.Perm X/\Srt Z:=by
 unfold LX AY;obtain⟨cs,L,f1,f2,f3,f4⟩:=aW (K:=K) hK X.length [] X K (bp _) (by omega) (λc hc=>by cases hc) (by simp[-gm];omega);simp only[nt,cd,eb,ew,ix] at f1 f4;rw[show ((20:Nat):Int)=20 from rfl] at f1;rw[f1,oB];simp only;have hlen:cs.flatten.length+L.length=X.length:=by rw[<-f4.length_eq,lA]
 obtain⟨Z,e1,e2,e3⟩:=W6 (K:=K) (A:=cs.flatten) (X:=L) (B:=[]) (by omega) (by simp[-gm];omega);rw[cm,cm,hlen] at e1;rw[e1,oB];have hZ:Z.length=L.length:=e2.length_eq;obtain⟨W,w1,w2,w3⟩:=aX (K:=K) hK X.length 20 K cs Z (by omega) (by omega) (by omega) (by omega) f2 (by omega) e3 (by omega);rw[show cs.flatten.length+Z.length=X.length by omega,show ((20:Nat):Int)=20 from rfl] at w1;rw[w1,oB];exact⟨W,rfl,w2.trans ((e2.append_left _).trans f4),w3⟩
def AE (n:Int):Int->Int->List Sp->Bool
 |_,_,[]=>true
 |to,st,x::l=>decide (1<=x.2.2/\x.2.2<=100/\to<=x.1/\x.1<x.2.1/\x.2.1<=n/\ ¬(x.1=to/\x.2.2=st))&&AE n x.2.1 x.2.2 l
def B0 (n:Int) (l:List Sp):Bool:=decide (l.length<=60)&&AE (min n 20000) 0 0 l
def atS:List Sp->Int->Int
 |[],_=>0
 |x::l,k=>if x.1<=k/\k<x.2.1 then x.2.2 else atS l k
def Fn (n:Int) (x:Sp):Prop:=0<=x.1/\x.1<x.2.1/\x.2.1<=n/\1<=x.2.2/\x.2.2<=100
def Dj (x y:Sp):Prop:=x.2.1<=y.1\/y.2.1<=x.1
def Od (x y:Sp):Prop:=x.2.1<=y.1
theorem CF {st:Int} {x:Sp} {l:List Sp}:AE n to st (x::l)=true↔(1<=x.2.2/\x.2.2<=100/\to<=x.1/\x.1<x.2.1/\x.2.1<=n/\¬(x.1=to/\x.2.2=st))/\AE n x.2.1 x.2.2 l=true:=by rw[AE,bq,dE]
theorem E7 {n:Int}:∀{l:List Sp} {to st:Int},AE n to st l=true->0<=to->∀x∈l,Fn n x/\to<=x.1
 |[],_,_,_,_,x,hx=>by cases hx
 | y :: l,to,st,h,h0,x,hx => by
   rw[CF] at h;obtain⟨⟨h1,h2,h3,h4,h5,h6⟩,h7⟩:=h;rcases bv.1 hx with rfl|hx;·exact⟨⟨by omega,h4,h5,h1,h2⟩,h3⟩
   ·have:=E7 h7 (by omega) x hx;exact⟨this.1,by omega⟩
theorem L5 {n:Int}:∀{l:List Sp} {to st:Int},AE n to st l=true->0<=to->l.Pairwise Od
 |[],_,_,_,_=>iy
 | x :: l,to,st,h,h0 => by rw[CF] at h;obtain⟨⟨h1,h2,h3,h4,h5,h6⟩,h7⟩:=h;exact dz.2 ⟨λy hy=>(E7 h7 (by omega) y hy).2,L5 h7 (by omega)⟩
theorem J0 {l:List Sp} (h:l.Pairwise Od):l.Pairwise Dj:=h.imp λh=>.inl h
theorem WY {n m:Int} (hnm:n<=m):∀{l:List Sp} {to st:Int},AE n to st l=true->AE m to st l=true
 |[],_,_,_=>rfl
 | x :: l,to,st,h => by rw[CF] at h ⊢;exact⟨⟨h.1.1,h.1.2.1,h.1.2.2.1,h.1.2.2.2.1,by have:=h.1.2.2.2.2.1;omega,h.1.2.2.2.2.2⟩,WY hnm h.2⟩
theorem TU:∀{l:List Sp} {k:Int},(∀x∈l,¬(x.1<=k/\k<x.2.1))->atS l k=0
 |[],_,_=>rfl
 |x::l,k,h=>by rw[atS,iN (h x (by simp)),TU λy hy=>h y (by simp[hy])]
theorem GP {n:Int}:∀{l:List Sp} {k v:Int},l.Pairwise Dj->(∀x∈l,Fn n x)->v≠0->(atS l k=v↔∃x∈l,x.1<=k/\k<x.2.1/\x.2.2=v)
 |[],k,v,_,_,hv=>by simp[atS];omega
 | x :: l,k,v,hd,hf,hv => by
   rw[dz] at hd;rw[atS];have ih:=GP (l:=l) (k:=k) hd.2 (λy hy=>hf y (by simp[hy])) hv;by_cases h:x.1<=k/\k<x.2.1
   ·rw[iP h];constructor;·intro e;exact⟨x,by simp,h.1,h.2,e⟩
    ·rintro⟨y,hy,h1,h2,h3⟩;rcases bv.1 hy with rfl|hy;·exact h3
     ·rcases hd.1 y hy with h'|h'<;>omega
   ·rw[iN h,ih];constructor;·rintro⟨y,hy,h'⟩;exact⟨y,by simp[hy],h'⟩
    ·rintro⟨y,hy,h1,h2,h3⟩;rcases bv.1 hy with rfl|hy;·exact(h ⟨h1,h2⟩).elim
     ·exact⟨y,hy,h1,h2,h3⟩
theorem PW {g:Int} (h:∀v,v≠0->(f=v↔g=v)):f=g:=by
 by_cases hf:f=0
 ·by_cases hg:g=0;·rw[hf,hg]
  ·exact(h g hg).2 rfl
 ·exact((h f hf).1 rfl).symm
theorem P0:∀{l r:List Sp} {k:Int},(∀x∈l,1<=x.2.2)->atS (l++r) k=if atS l k=0 then atS r k else atS l k
 |[],r,k,_=>by simp[atS]
 | x :: l,r,k,h => by
   have hx:=h x (by simp);rw[db,atS,atS,P0 λy hy=>h y (by simp[hy])];by_cases h1:x.1<=k/\k<x.2.1;·rw[iP h1,iP h1,tz]
   ·rw[iN h1,iN h1]
theorem MC {l:List Sp} {st k:Int} (h:AE n to st l=true) (h0:0<=to) (hk:k<to):atS l k=0:=
 TU λx hx=>by have:=(E7 h h0 x hx).2;omega
theorem WX {m:Int} {x y:Sp} {l r:List Sp} {t1 s1 t2 s2:Int} (h1:AE n t1 s1 (x::l)=true) (h2:AE m t2 s2 (y::r)=true) (p1:0<=t1) (p2:0<=t2) (h:∀k,atS (x::l) k=atS (y::r) k):x.1=y.1/\x.2.2=y.2.2\/y.1<x.1:=by
 rw[CF] at h1 h2;rcases nu y.1 x.1 with h'|h';·exact .inr h'
 ·left;have e:=h x.1;rw[atS,tw,atS] at e;by_cases hy:y.1<=x.1/\x.1<y.2.1;·rw[iP hy] at e;exact⟨by omega,e⟩
  ·rw[iN hy,MC h2.2 (by omega) (by omega)] at e;omega
theorem L6 {n m:Int}:∀{l r:List Sp} {t1 s1 t2 s2:Int},AE n t1 s1 l=true->AE m t2 s2 r=true->0<=t1->0<=t2->(∀k,atS l k=atS r k)->l=r
 |[],[],_,_,_,_,_,_,_,_,_=>rfl
 | [],y :: r,_,_,_,_,_,h2,_,p2,h => by rw[CF] at h2;have:=h y.1;rw[atS,atS,tw] at this;omega
 | x :: l,[],_,_,_,_,h1,_,p1,_,h => by rw[CF] at h1;have:=h x.1;rw[show atS [] x.1=0 from rfl,atS,tw] at this;omega
 | x :: l,y :: r,t1,s1,t2,s2,h1,h2,p1,p2,h => by
   have e1:x.1=y.1/\x.2.2=y.2.2:=by have a:=WX h1 h2 p1 p2 h;have b:=WX h2 h1 p2 p1 λk=>(h k).symm;omega
   rw[CF] at h1 h2;have ends:∀{a b:Sp} {q w:List Sp} {n m:Int},(1<=a.2.2/\a.1<a.2.1)->AE n a.2.1 a.2.2 q=true->(0<=a.1)->a.1=b.1->a.2.2=b.2.2->(∀k,atS (a::q) k=atS (b::w) k)->¬a.2.1<b.2.1:=by
    intro a b q w n m ha hq h0 e1 e2 h hlt;have e:=h a.2.1;rw[atS,tz,atS,tw] at e;cases q with
    |nil=>rw[atS] at e;omega
    | cons z q =>
      rw[CF] at hq;rw[atS] at e;by_cases hz:z.1<=a.2.1/\a.2.1<z.2.1
      ·rw[iP hz] at e;omega
      ·rw[iN hz,MC hq.2 (by omega) (by omega)] at e;omega
   have e2:x.2.1=y.2.1:=by have a:=ends (n:=n) (m:=m) (by omega) h1.2 (by omega) e1.1 e1.2 h;have b:=ends (n:=m) (m:=n) (by omega) h2.2 (by omega) e1.1.symm e1.2.symm λk=>(h k).symm;omega
   have e3:x=y:=Prod.ext e1.1 (Prod.ext e2 e1.2);subst e3;rw[L6 h1.2 h2.2 (by omega) (by omega) λk=>?_];have e:=h k;rw[atS,atS] at e;by_cases hk:x.1<=k/\k<x.2.1;·rw[MC h1.2 (by omega) hk.2,MC h2.2 (by omega) hk.2]
   ·rw[iN hk,iN hk] at e;exact e
def AT (out:List Sp) (x:Sp):List Sp:=
 if out≠[]/\(out.getD (out.length-1) sp0).2.2=x.2.2/\(out.getD (out.length-1) sp0).2.1=x.1 then out.set (out.length-1) ((out.getD (out.length-1) sp0).1,x.2.1,(out.getD (out.length-1) sp0).2.2) else out++[x]
theorem qH (x:Sp):AT [] x=[x]:=rfl
theorem aZ (l:List Sp) (p x:Sp):AT (l++[p]) x=if p.2.2=x.2.2/\p.2.1=x.1 then l++[(p.1,x.2.1,p.2.2)] else l++[p]++[x]:=by
 unfold AT;have e1:(l++[p]).length-1=l.length:=by simp
 have e2:(l++[p]).getD l.length sp0=p:=by simp[bb]
 rw[e1,e2];by_cases h:p.2.2=x.2.2/\p.2.1=x.1
 ·rw[iP ⟨by simp,h.1,h.2⟩,iP h,jz _ _ (bp _)];simp
 ·rw[iN (λh'=>h h'.2),iN h]
theorem SR {l:List Sp} {x:Sp}:(AT l x).length<=l.length+1:=by unfold AT;split<;>simp
theorem NP {n:Int}:∀{l:List Sp} {p:Sp} {to st:Int},AE n to st (l++[p])=true↔∃t s,AE n to st l=true/\(l=[]->t=to/\s=st)/\(∀m q,l=m++[q]->t=q.2.1/\s=q.2.2)/\AE n t s [p]=true
 | [],p,to,st => by
   constructor;·intro h;exact⟨to,st,rfl,λ_=>⟨rfl,rfl⟩,λm q e=>by simp at e,h⟩
   ·rintro⟨t,s,-,h,-,h'⟩;obtain⟨rfl,rfl⟩:=h rfl;exact h'
 | x :: l,p,to,st => by
   rw[db,CF,NP];constructor
   ·rintro⟨h1,t,s,h2,h3,h4,h5⟩;refine⟨t,s,CF.2 ⟨h1,h2⟩,λe=>(by cases e),λm q e=>?_,h5⟩;cases m with
    | nil =>
      simp only[cd,ia] at e;obtain⟨rfl,rfl⟩:=e;exact h3 rfl
    | cons z m =>
      simp only[db,ia] at e;exact h4 m q e.2
   ·rintro⟨t,s,h1,h2,h3,h4⟩;rw[CF] at h1;refine⟨h1.1,t,s,h1.2,λe=>?_,λm q e=>h3 (x::m) q (by rw[e];rfl),h4⟩;subst e;exact h3 [] x rfl
theorem qK {acc:List Sp} {x:Sp} (h:AE n 0 0 acc=true) (hx:Fn n x) (ho:∀y∈acc,Od y x):AE n 0 0 (AT acc x)=true/\(∀y,Od x y->∀z∈AT acc x,(∀w∈acc,Od w y)->Od z y):=by
 by_cases he:acc=[]
 ·subst he;rw[qH];unfold Fn at hx;refine⟨by rw[CF];exact⟨by omega,rfl⟩,λy hy z hz _=>?_⟩;rw[df.1 hz];exact hy
 ·obtain⟨l,p,rfl⟩:=EO he;have hp:=ho p (by simp);have hpm:=(E7 h (eo _) p (by simp)).1;unfold Od at hp;unfold Fn at hx hpm;rw[aZ];obtain⟨t,s,h1,h2,h3,h4⟩:=NP.1 h;rw[CF] at h4;split
  ·rename_i hc;refine⟨NP.2 ⟨t,s,h1,h2,h3,CF.2 ⟨by simp only;omega,rfl⟩⟩,λy hy z hz hw=>?_⟩;rcases cf.1 hz with hz|hz;·exact hw z (by simp[hz])
   ·rw[df.1 hz];exact hy
  ·rename_i hc;refine⟨NP.2 ⟨p.2.1,p.2.2,h,λe=>by simp at e,λm q e=>?_,CF.2 ⟨by omega,rfl⟩⟩,λy hy z hz hw=>?_⟩
   ·obtain⟨-,e⟩:=List.append_inj' e rfl;cases e;exact⟨rfl,rfl⟩
   ·rcases cf.1 hz with hz|hz;·exact hw z hz
    ·rw[df.1 hz];exact hy
theorem qI {acc rest:List Sp} {x:Sp} {k:Int} (h:AE n 0 0 acc=true) (hx:Fn n x):atS (AT acc x++rest) k=atS (acc++x::rest) k:=by
 by_cases he:acc=[];·subst he;rfl
 ·obtain⟨l,p,rfl⟩:=EO he;have hm:=E7 h (eo _);have hpm:=(hm p (by simp)).1;have hl:∀y∈l,1<=y.2.2:=λy hy=>by have:=(hm y (by simp[hy])).1;unfold Fn at this;omega
  unfold Fn at hx hpm;rw[aZ];split
  ·rename_i hc;rw[aA,aA,P0 hl,P0 hl];simp only[db,cd,atS];split
   ·by_cases h1:p.1<=k/\k<p.2.1;·rw[iP h1,tw]
    ·rw[iN h1];by_cases h2:x.1<=k/\k<x.2.1;·rw[iP h2,tw];exact hc.1
     ·rw[iN h2,tz]
   ·rfl
  ·simp
theorem N2 {n:Int}:∀{r acc:List Sp},AE n 0 0 acc=true->(∀x∈r,Fn n x)->r.Pairwise Od->(∀x∈acc,∀y∈r,Od x y)->AE n 0 0 (r.foldl AT acc)=true/\∀k,atS (r.foldl AT acc) k=atS (acc++r) k
 |[],acc,h,_,_,_=>⟨h,λk=>by simp⟩
 | x :: r,acc,h,hf,ho,ha => by rw[dz] at ho;have hx:=hf x (by simp);have hs:=qK h hx λy hy=>ha y hy x (by simp);have ih:=N2 (r:=r) (acc:=AT acc x) hs.1 (λy hy=>hf y (by simp[hy])) ho.2 (λz hz y hy=>hs.2 y (ho.1 y hy) z hz λw hw=>ha w hw y (by simp[hy]));rw[fk];exact⟨ih.1,λk=>by rw[ih.2,qI h hx]⟩
theorem VE:∀{r acc:List Sp},(r.foldl AT acc).length<=acc.length+r.length
 |[],acc=>by simp
 | x :: r,acc => by have:=VE (r:=r) (acc:=AT acc x);have:=SR (l:=acc) (x:=x);rw[fk,lC];omega
theorem qF {l:List Sp} (hs:Srt l) (hd:l.Pairwise Dj) (hf:∀x∈l,Fn n x):l.Pairwise Od:=by refine xr ?_ (hs.and hd);rintro a b ha hb ⟨h1,h2⟩;have fa:=hf a ha;have fb:=hf b hb;unfold leS ltS at h1;rw[decide_eq_false_iff_not] at h1;unfold Dj at h2;unfold Fn at fa fb;unfold Od;omega
theorem eY {x y:Sp} (h:Dj x y):Dj y x:=h.symm
theorem dA {r Z:List Sp} (hp:Z.Perm r) (hs:Srt Z) (hd:r.Pairwise Dj) (hf:∀x∈r,Fn n x):AE n 0 0 (Z.foldl AT [])=true/\∀k,atS (Z.foldl AT []) k=atS r k:=by
 have hdZ:Z.Pairwise Dj:=hp.symm.pairwise hd λh=>eY h;have hfZ:∀x∈Z,Fn n x:=λx hx=>hf x (hp.mem_iff.1 hx);have h:=N2 (n:=n) (r:=Z) (acc:=[]) rfl hfZ (qF hs hdZ hfZ) (λx hx=>by cases hx);refine⟨h.1,λk=>?_⟩;rw[h.2,cd];refine PW λv hv=>?_;rw[GP hdZ hfZ hv,GP hd hf hv];constructor;·rintro⟨x,hx,h⟩;exact⟨x,hp.mem_iff.1 hx,h⟩
 ·rintro⟨x,hx,h⟩;exact⟨x,hp.mem_iff.2 hx,h⟩
theorem GC:mn2 a b=min a b:=by unfold mn2;split<;>omega
theorem H5:mx2 a b=max a b:=by unfold mx2;split<;>omega
theorem TQ:JT K n a b=some (decide (a<=n/\n<=b)):=by
 unfold JT;by_cases h:a<=n;·rw[iP (by simpa using h)];simp[h]
 ·rw[iN (by simpa using h)];simp[h]
def AI (l:List Sp) (j:Nat):Int×Int:=if j=0 then (0,0) else (l.getD (j-1) sp0).2
theorem O1 {l:List Sp} {x:Sp} (h:l.getD j sp0=x):AI l (j+1)=x.2:=by unfold AI;rw[tz,show j+1-1=j by omega,h]
theorem WC {K:Nat} {l:List Sp} {n:Int} (hl:l.length<=60):∀(rest:List Sp) (j k:Nat),l.drop j=rest->rest.length<k->0<=(AI l j).1->
 DX.l0 K l n k (j:Int)=some (AE (min n 20000) (AI l j).1 (AI l j).2 rest)
 | [],j,k,hd,hk,h0 => by obtain⟨k,rfl⟩:=ug (k:=k);have:=A1 hd;rw[DX.l0,tt];rfl
 | x :: rest,j,k,hd,hk,h0 => by
   obtain⟨k,rfl⟩:=ug (k:=k);obtain⟨hj,hx,hd'⟩:=A0 hd sp0;rw[lC] at hk;have hw:ba .i64 ((j:Int)+1)=((j+1:Nat):Int):=by rw[w64];omega
   rw[DX.l0,tq,tw];simp only[tN,hx,TQ,oB,hw,GC];have hc:∀(c d:Bool) (F:Bool->Option Bool),(if c=true then some true else some d:Option Bool).bind F=F (c||d):=λc d F=>by cases c<;>rfl
   have e1:(if (!decide (1<=x.2.2/\x.2.2<=100))=true then some true else if decide (x.1<0)=true then some true else if decide (x.1>=x.2.1)=true then some true else some (decide (x.2.1>min n 20000)))=some (decide (¬(1<=x.2.2/\x.2.2<=100/\0<=x.1/\x.1<x.2.1/\x.2.1<=min n 20000))):=by
    by_cases h1:1<=x.2.2/\x.2.2<=100
    ·rw[iN (by simp[h1])];by_cases h2:x.1<0;·rw[iP (by simpa using h2)];congr 1;symm;rw[dE];omega
     ·rw[iN (by simpa using h2)];by_cases h3:x.1>=x.2.1;·rw[iP (by simpa using h3)];congr 1;symm;rw[dE];omega
      ·rw[iN (by simpa using h3)];congr 1;rw[decide_eq_decide];omega
    ·rw[iP (by simp only[iz,decide_eq_false_iff_not];exact h1)];congr 1;symm;rw[dE];omega
   rw[e1,oB];by_cases hA:1<=x.2.2/\x.2.2<=100/\0<=x.1/\x.1<x.2.1/\x.2.1<=min n 20000
   ·rw[iN (by simp only[dE];exact λh=>h hA)];have ih:=WC (K:=K) (n:=n) hl rest (j+1) k hd' (by omega) (by rw[O1 hx];omega);rw[O1 hx] at ih;by_cases hj0:j=0
    ·subst hj0;rw[uf,oB,uf,ih,AE];rw[show AI l 0=(0,0) from rfl];simp only;rw[decide_eq_true (by omega),dq]
    ·have hw2:ba .i64 ((j:Int)-1)=((j-1:Nat):Int):=by rw[w64];omega
     have hp:AI l j=(l.getD (j-1) sp0).2:=by unfold AI;rw[iN hj0]
     rw[tq];simp only[hw2,tN,<-hp];have e2:(if decide (x.1<(AI l j).1)=true then if (0:Int)<=((j-1:Nat):Int)/\((j-1:Nat):Int)<(l.length:Int) then some true else none else if (x.1==(AI l j).1)=true then if (0:Int)<=((j-1:Nat):Int)/\((j-1:Nat):Int)<(l.length:Int) then some (x.2.2==(AI l j).2) else none else if (0:Int)<=((j-1:Nat):Int)/\((j-1:Nat):Int)<(l.length:Int) then some false else none)=some (decide (¬((AI l j).1<=x.1/\¬(x.1=(AI l j).1/\x.2.2=(AI l j).2)))):=by
      have hb:(0:Int)<=((j-1:Nat):Int)/\((j-1:Nat):Int)<(l.length:Int):=by omega
      rw[iP hb,iP hb,iP hb];by_cases h1:x.1<(AI l j).1;·rw[iP (by simpa using h1)];congr 1;symm;rw[dE];omega
      ·rw[iN (by simpa using h1)];by_cases h2:x.1=(AI l j).1
       ·rw[iP (by simpa using h2)];congr 1;rw[jj,beq_iff_eq,dE];omega
       ·rw[iN (by simpa using h2)];congr 1;symm;rw[decide_eq_false_iff_not];omega
     rw[e2,oB,AE];by_cases hB:(AI l j).1<=x.1/\¬(x.1=(AI l j).1/\x.2.2=(AI l j).2);·rw[iN (by simp only[dE];exact λh=>h hB),ih,decide_eq_true (by omega),dq]
     ·rw[iP (by simp only[dE];exact hB),decide_eq_false (by omega),ec]
   ·rw[iP (by simp only[dE];exact hA),AE,decide_eq_false (by omega),ec]
theorem IT {l:List Sp} (hK:1000<=K):DX K l n=some (B0 n l):=by
 unfold DX B0;by_cases h:l.length<=60
 ·rw[tt,decide_eq_true h,dq];exact WC h l 0 K rfl (by omega) (by simp[AI])
 ·rw[tq,decide_eq_false h,ec]
theorem K5 {r:List Sp} {s:Int} (hr:r.length<=1000000):G1 K r a b s=some (r++if a<b then [(a,b,s)] else []):=by
 unfold G1;by_cases h:a<b;·rw[iP (by simpa using h),tq,iP h]
 ·rw[iN (by simpa using h),iN h,cm]
theorem aF {K:Nat} {Z W:List Sp} {r:List Sp×List Sp}:∀(rest:List Sp) (j k:Nat) (out:List Sp),Z.drop j=rest->rest.length<k->Z.length<=100000->out.length<=j->
 EN.l0 K Z k out (j:Int)=some (rest.foldl AT out,Z)
 | [],j,k,out,hd,hk,hl,ho => by obtain⟨k,rfl⟩:=ug (k:=k);have:=A1 hd;rw[EN.l0,tt];rfl
 | x :: rest,j,k,out,hd,hk,hl,ho => by
   obtain⟨k,rfl⟩:=ug (k:=k);obtain⟨hj,hx,hd'⟩:=A0 hd sp0;rw[lC] at hk;have hw:ba .i64 ((j:Int)+1)=((j+1:Nat):Int):=by rw[w64];omega
   rw[EN.l0,tq,tw];simp only[tN,hx,hw,HX];have hsl:=SR (l:=out) (x:=x);rw[fk,<-aF (K:=K) (W:=W) (r:=r) rest (j+1) k (AT out x) hd' (by omega) hl (by omega)];cases ho':out with
   | nil =>
     rw[iN (by rw[eb];decide),oB,uf,iP (by simp)];rfl
   | cons y out' =>
     have hne:out≠[]:=by rw[ho'];simp
     rw[<-ho'];have hlen:1<=out.length:=by rw[ho'];simp
     have hw2:ba .i64 ((out.length:Int)-1)=((out.length-1:Nat):Int):=by rw[w64];omega
     rw[hw2];have hb:(0:Int)<=((out.length-1:Nat):Int)/\((out.length-1:Nat):Int)<(out.length:Int):=by omega
     rw[iP hb,iP hb,iP hb,iP (by simp)];simp only[tN];unfold AT;by_cases h1:(out.getD (out.length-1) sp0).2.2=x.2.2
     ·rw[iP (by simpa using h1),oB];by_cases h2:(out.getD (out.length-1) sp0).2.1=x.1;·rw[iP (by simpa using h2),iP ⟨hne,h1,h2⟩]
      ·rw[iN (by simpa using h2),tq,iN (λh=>h2 h.2.2)]
     ·rw[iN (by simpa using h1),oB,uf,tq,iN (λh=>h1 h.2.1)]
theorem bL {K:Nat} {r:List Sp×List Sp} (hl:r.1.length<=1000000):∀(rest:List Sp) (j k:Nat) (out:List Sp),r.1.drop j=rest->rest.length<k->out.length<=j->
 DY.l0 K r k out (j:Int)=some (out++rest,0,r.2)
 | [],j,k,out,hd,hk,ho => by obtain⟨k,rfl⟩:=ug (k:=k);have:=A1 hd;rw[DY.l0,tt,cm]
 | x :: rest,j,k,out,hd,hk,ho => by
   obtain⟨k,rfl⟩:=ug (k:=k);obtain⟨hj,hx,hd'⟩:=A0 hd sp0;rw[lC] at hk;have hw:ba .i64 ((j:Int)+1)=((j+1:Nat):Int):=by rw[w64];omega
   rw[DY.l0,tq,tq];simp only[tN,hx,hw,HX];rw[bL hl rest (j+1) k (out++[x]) hd' (by omega) (by simp;omega)];simp
theorem T3 {r:List Sp} (hK:100000<K) (hl:r.length<=30000) (hd:r.Pairwise Dj) (hf:∀x∈r,Fn n x) :
 ∃C Z,AE n 0 0 C=true/\(∀k,atS C k=atS r k)/\C.length<=r.length/\DY K r=some (if C.length>60 then ([],70,Z) else (C,0,Z)):=by
 obtain⟨Z,e1,e2,e3⟩:=qG (K:=K) (X:=r) hK hl;obtain⟨c1,c2⟩:=dA e2 e3 hd hf;have hZ:Z.length=r.length:=e2.length_eq;have hfl:=VE (r:=Z) (acc:=[]);rw[eb] at hfl;refine⟨Z.foldl AT [],Z,c1,c2,by omega,?_⟩;unfold DY EN;have hs:=aF (K:=K) (W:=[]) (r:=([],[])) Z 0 K [] rfl (by omega) (by omega) (by simp);rw[show ((0:Nat):Int)=0 from rfl] at hs;rw[e1,oB,hs,oB];by_cases h:(Z.foldl AT []).length>60;·rw[iP (by simp only[dE];omega),iP h]
 ·rw[iN (by simp only[dE];omega),iN h];have:=bL (K:=K) (r:=(Z.foldl AT [],Z)) (by simp only;omega) (Z.foldl AT []) 0 K [] rfl (by omega) (by simp);rw[cd] at this;exact this
def AZ (a b:Int):List Sp->List Sp
 |[]=>[]
 |x::l=>(if a=b then [x] else (if x.1<min x.2.1 a then [(x.1,min x.2.1 a,x.2.2)] else [])++(if max x.1 b<x.2.1 then [(max x.1 b,x.2.1,x.2.2)] else []))++AZ a b l
theorem UH {a b:Int} (hab:a<=b):∀{l:List Sp},(∀x∈l,b<=x.1)->(AZ a b l).length<=l.length
 |[],_=>by simp[AZ]
 | x :: l,h => by
   have:=UH hab (l:=l) λy hy=>h y (by simp[hy]);have hx:=h x (by simp);rw[AZ,lA,lC];split;·simp;omega
   ·rw[tz];split<;>simp<;>omega
theorem UG {n a b:Int} (hab:a<=b):∀{l:List Sp} {to st:Int},AE n to st l=true->0<=to->(AZ a b l).length<=l.length+1
 |[],_,_,_,_=>by simp[AZ]
 | x :: l,to,st,h,h0 => by
   rw[CF] at h;rw[AZ,lA,lC];by_cases hc:x.1<min x.2.1 a/\max x.1 b<x.2.1
   ·have:=UH hab (l:=l) λy hy=>by have:=(E7 h.2 (by omega) y hy).2;omega
    split;·simp;omega
    ·rw[iP hc.1,iP hc.2];simp;omega
   ·have:=UG hab h.2 (by omega);split;·simp;omega
    ·split<;>split<;>simp<;>omega
theorem RK {K:Nat} {l:List Sp} {a b:Int} (hl:l.length<=60):∀(rest:List Sp) (j k:Nat) (out:List Sp),l.drop j=rest->rest.length<k->out.length<=2*j->(∀x∈rest,x.1<x.2.1)->
 C2.l0 K l a b k out (j:Int)=some (out++AZ a b rest)
 | [],j,k,out,hd,hk,ho,hn => by obtain⟨k,rfl⟩:=ug (k:=k);have:=A1 hd;rw[C2.l0,tt,AZ,cm]
 | x :: rest,j,k,out,hd,hk,ho,hn => by
   obtain⟨k,rfl⟩:=ug (k:=k);obtain⟨hj,hx,hd'⟩:=A0 hd sp0;rw[lC] at hk;have hw:ba .i64 ((j:Int)+1)=((j+1:Nat):Int):=by rw[w64];omega
   have hx0:=hn x (by simp);rw[C2.l0,tq,tw];simp only[tN,hx,hw,GC,H5];by_cases h:a=b
   ·rw[iP (by simpa using h),K5 (by omega),oB,iP hx0,RK hl rest (j+1) k _ hd' (by omega) (by simp;omega) (λy hy=>hn y (by simp[hy])),AZ,iP h];simp
   ·rw[iN (by simpa using h),K5 (by omega),oB,K5 (by rw[lA];split<;>simp<;>omega),oB,
     RK hl rest (j+1) k _ hd' (by omega) (by simp only[lA];split<;>split<;>simp<;>omega) (λy hy=>hn y (by simp[hy])),AZ,iN h]
    simp
theorem KB {a b:Int} {y:Sp}:∀{l:List Sp},y∈AZ a b l->∃x∈l,x.1<=y.1/\y.2.1<=x.2.1/\y.2.2=x.2.2/\(a≠b->y.1<y.2.1/\(y.2.1<=a\/b<=y.1))/\(a=b->y=x)
 |[],h=>by cases h
 | x :: l,h => by
   rw[AZ] at h;rcases cf.1 h with h|h
   ·refine⟨x,by simp,?_⟩;split at h
    ·rename_i hab;rw[df.1 h];exact⟨eo _,eo _,rfl,λh=>(h hab).elim,λ_=>rfl⟩
    ·rename_i hab;rcases cf.1 h with h|h
     ·split at h
      ·rw[df.1 h];exact⟨eo _,by simp only;omega,rfl,λ_=>⟨by simp only;omega,.inl (by simp only;omega)⟩,λh=>(hab h).elim⟩
      ·cases h
     ·split at h
      ·rw[df.1 h];exact⟨by simp only;omega,eo _,rfl,λ_=>⟨by simp only;omega,.inr (by simp only;omega)⟩,λh=>(hab h).elim⟩
      ·cases h
   ·obtain⟨z,hz,h'⟩:=KB h;exact⟨z,by simp[hz],h'⟩
theorem UF {n a b:Int} (hab:a<=b):∀{l:List Sp} {to st:Int},AE n to st l=true->0<=to->(AZ a b l).Pairwise Dj
 |[],_,_,_,_=>iy
 | x :: l,to,st,h,h0 => by
   have hm:=E7 h h0;rw[CF] at h;rw[AZ];refine ej.2 ⟨?_,UF hab h.2 (by omega),λy hy z hz=>?_⟩
   ·split;·exact kf _ _
    ·split<;>split<;>simp[Dj]<;>omega
   ·obtain⟨w,hw,w1,w2,w3,w4,w5⟩:=KB hz;have:=(E7 h.2 (by omega) w hw).2;have hy2:y.2.1<=x.2.1:=by
     split at hy;·rw[df.1 hy];omega
     ·rcases cf.1 hy with hy|hy<;>split at hy;·rw[df.1 hy];simp only;omega
      ·cases hy
      ·rw[df.1 hy];simp only;omega
      ·cases hy
    exact .inl (by omega)
theorem UE {a b k:Int} {x:Sp} (hk:x.1<=k/\k<x.2.1) (ho:¬(a<=k/\k<b)) (hab:a<=b):∀{l:List Sp},x∈l->∃y∈AZ a b l,y.1<=k/\k<y.2.1/\y.2.2=x.2.2
 |[],h=>by cases h
 | z :: l,h => by
   rw[AZ];rcases bv.1 h with rfl|h
   ·by_cases e:a=b;·exact⟨x,by rw[iP e];simp,hk.1,hk.2,rfl⟩
    ·rw[iN e];by_cases h1:k<a;·exact⟨(x.1,min x.2.1 a,x.2.2),by rw[tw];simp,hk.1,by simp only;omega,rfl⟩
     ·refine⟨(max x.1 b,x.2.1,x.2.2),?_,by simp only;omega,hk.2,rfl⟩;rw[iP (show max x.1 b<x.2.1 by omega)];simp
   ·obtain⟨y,hy,h'⟩:=UE hk ho hab h;exact⟨y,cf.2 (.inr hy),h'⟩
def JW (f:Int->Int) (a b s k:Int):Int:=if a<=k/\k<b then s else f k
theorem mR {s:Int} {l:List Sp} (hl:AE n 0 0 l=true) (h0:0<=a) (hab:a<=b) (hb:b<=n) (hs:0<=s/\s<=100) :
 (AZ a b l++if s>0 then (if a<b then [(a,b,s)] else []) else []).Pairwise Dj/\(∀x∈AZ a b l++(if s>0 then (if a<b then [(a,b,s)] else []) else []),Fn n x)/\
  ∀k,atS (AZ a b l++if s>0 then (if a<b then [(a,b,s)] else []) else []) k=JW (atS l) a b s k:=by
 have hm:=E7 hl (eo 0);have hmem:∀x∈(if s>0 then (if a<b then [(a,b,s)] else []) else []:List Sp),x=(a,(b,s))/\s>0/\a<b:=by
  intro x hx;split at hx
  ·split at hx;·rename_i h1 h2;exact⟨df.1 hx,h1,h2⟩
   ·cases hx
  ·cases hx
 have hpw:(AZ a b l++if s>0 then (if a<b then [(a,b,s)] else []) else []).Pairwise Dj:=by
  refine ej.2 ⟨UF hab hl (eo 0),?_,λy hy z hz=>?_⟩
  ·split;·split<;>simp
   ·simp
  ·obtain⟨rfl,h1,h2⟩:=hmem z hz;obtain⟨x,hx,w1,w2,w3,w4,w5⟩:=KB hy;rcases (w4 (by omega)).2 with h|h;·exact .inl h
   ·exact .inr h
 have hfn:∀x∈AZ a b l++(if s>0 then (if a<b then [(a,b,s)] else []) else []),Fn n x:=by
  intro y hy;rcases cf.1 hy with hy|hy
  ·obtain⟨x,hx,w1,w2,w3,w4,w5⟩:=KB hy;have hx':=(hm x hx).1;unfold Fn at hx' ⊢;by_cases e:a=b;·rw[w5 e];exact hx'
   ·have:=w4 e;omega
  ·obtain⟨rfl,h1,h2⟩:=hmem y hy;exact⟨h0,h2,hb,by simp only;omega,hs.2⟩
 refine⟨hpw,hfn,λk=>PW λv hv=>?_⟩;rw[GP hpw hfn hv];unfold JW;constructor
 ·rintro⟨y,hy,y1,y2,y3⟩;rcases cf.1 hy with hy|hy
  ·obtain⟨x,hx,w1,w2,w3,w4,w5⟩:=KB hy;rw[iN (by
    intro hk;by_cases e:a=b;·omega
    ·have:=(w4 e).2;omega),GP (J0 (L5 hl (eo 0))) (λx hx=>(hm x hx).1) hv]
   exact⟨x,hx,by omega,by omega,by omega⟩
  ·obtain⟨rfl,h1,h2⟩:=hmem y hy;rw[iP ⟨y1,y2⟩];exact y3
 ·intro h;split at h
  ·rename_i hk;subst h;exact⟨(a,b,s),cf.2 (.inr (by rw[tw,tw];simp)),hk.1,hk.2,rfl⟩
  ·rename_i hk;obtain⟨x,hx,x1,x2,x3⟩:=(GP (J0 (L5 hl (eo 0))) (λx hx=>(hm x hx).1) hv).1 h;obtain⟨y,hy,y1,y2,y3⟩:=UE ⟨x1,x2⟩ hk hab hx;exact⟨y,cf.2 (.inl hy),y1,y2,by rw[y3,x3]⟩
theorem XJ {l:List Sp} {s:Int} (hK:100000<K) (h:¬(B0 20000 l=true/\0<=s/\s<=100/\0<=a/\a<=b/\b<=20000)):C2 K l a b s=some ([],12):=by
 unfold C2;rw[IT (by omega),oB,TQ,oB];have:(if (!B0 20000 l)=true then some true else if (!decide ((0:Int)<=s/\s<=100))=true then some true else if decide (a<0)=true then some true else if decide (a>b)=true then some true else some (decide (b>20000)))=some true:=by
  cases hi:B0 20000 l with
  |false=>rfl
  | true =>
    rw[uf];by_cases h1:(0:Int)<=s/\s<=100
    ·rw[iN (by simp[h1])];by_cases h2:a<0;·rw[iP (by simpa using h2)]
     ·rw[iN (by simpa using h2)];by_cases h3:a>b;·rw[iP (by simpa using h3)]
      ·rw[iN (by simpa using h3)];congr 1;rw[dE];rcases nu 20000 b with h4|h4;·exact h4
       ·exact(h ⟨hi,h1.1,h1.2,by omega,by omega,h4⟩).elim
    ·rw[iP (by simp only[iz,decide_eq_false_iff_not];exact h1)]
 rw[this,oB,iP rfl]
theorem QD {l:List Sp} (h:B0 n l=true):l.length<=60/\AE (min n 20000) 0 0 l=true:=by unfold B0 at h;rw[bq,dE] at h;exact h
theorem XK {l:List Sp} {s:Int} (hK:100000<K) (hll:l.length<=60) (hl:AE n 0 0 l=true) (hn:n<=20000) (hs:0<=s/\s<=100) (ha:0<=a) (hab:a<=b) (hb:b<=n) :
 ∃C,AE n 0 0 C=true/\(∀k,atS C k=JW (atS l) a b s k)/\C.length<=l.length+2/\C2 K l a b s=some (if C.length>60 then ([],70) else (C,0)):=by
 obtain⟨p1,p2,p3⟩:=mR hl ha hab hb hs;have hcl:=UG (a:=a) (b:=b) hab hl (eo 0);have hm:=E7 hl (eo 0);have hadd:(AZ a b l++if s>0 then (if a<b then [(a,b,s)] else []) else []).length<=l.length+2:=by
  rw[lA];split;·split<;>simp<;>omega
  ·simp;omega
 obtain⟨C,Z,c1,c2,c3,c4⟩:=T3 (K:=K) hK (by omega) p1 p2;refine⟨C,c1,λk=>by rw[c2,p3],by omega,?_⟩;unfold C2;have hi:B0 20000 l=true:=by unfold B0;rw[decide_eq_true hll,dq];exact WY (by omega) hl
 rw[IT (by omega),oB,hi,TQ,oB];have e1:(if (!true)=true then some true else if (!decide ((0:Int)<=s/\s<=100))=true then some true else if decide (a<0)=true then some true else if decide (a>b)=true then some true else some (decide (b>20000)))=some false:=by rw[uf,iN (by simp[hs]),tt,tt];congr 1;rw[decide_eq_false_iff_not];omega
 have hpl:=RK (K:=K) (a:=a) (b:=b) hll l 0 K [] rfl (by omega) (by simp) (λx hx=>(hm x hx).1.2.1);rw[show ((0:Nat):Int)=0 from rfl] at hpl;rw[e1,oB,uf,hpl,oB,cd];have e2:(if decide (s>0)=true then (G1 K (AZ a b l) a b s).bind (λr_66=>some r_66) else some (AZ a b l))=some (AZ a b l++if s>0 then (if a<b then [(a,b,s)] else []) else []):=by
  by_cases h:s>0;·rw[iP (by simpa using h),K5 (by omega),oB,iP h]
  ·rw[iN (by simpa using h),iN h,cm]
 rw[e2,oB,c4,oB];split<;>rfl
def neS (x:Sp):Bool:=decide (x.1<x.2.1/\x.2.2≠0)
theorem i6 {l:List Sp} (hf:∀x∈l,neS x=true->Fn n x) (ho:l.Pairwise λx y=>neS x=true->neS y=true->Od x y):AE n 0 0 ((l.filter neS).foldl AT [])=true/\∀k,atS ((l.filter neS).foldl AT []) k=atS (l.filter neS) k:=by
 have:=N2 (n:=n) (r:=l.filter neS) (acc:=[]) rfl (λx hx=>by rw[ef] at hx;exact hf x hx.1 hx.2) (by rw[pn];exact ho) (λx hx=>by cases hx)
 exact this
def C5 (a:Int) (x:Sp):Sp:=(x.1,(min x.2.1 a,x.2.2))
def CH (b:Int) (x:Sp):Sp:=(max x.1 b,(x.2.1,x.2.2))
theorem oK {s:Int} {l:List Sp} (hl:AE n 0 0 l=true) (h0:0<=a) (hab:a<b) (hb:b<=n) (hs:0<=s/\s<=100) :
 AE n 0 0 (((l.map (C5 a)++[(a,b,s)]++l.map (CH b)).filter neS).foldl AT [])=true/\∀k,atS (((l.map (C5 a)++[(a,b,s)]++l.map (CH b)).filter neS).foldl AT []) k=JW (atS l) a b s k:=by
 have hm:=E7 hl (eo 0);have hod:=L5 hl (eo 0);have hf:∀x∈l.map (C5 a)++[(a,b,s)]++l.map (CH b),neS x=true->Fn n x:=by
  intro x hx hne;unfold neS at hne;rw[dE] at hne;rcases cf.1 hx with hx|hx
  ·rcases cf.1 hx with hx|hx
   ·obtain⟨y,hy,rfl⟩:=cj.1 hx;have:=(hm y hy).1;unfold Fn C5 at *;simp only at *;omega
   ·rw[df.1 hx] at hne ⊢;unfold Fn;simp only at *;omega
  ·obtain⟨y,hy,rfl⟩:=cj.1 hx;have:=(hm y hy).1;unfold Fn CH at *;simp only at *;omega
 have ho:(l.map (C5 a)++[(a,b,s)]++l.map (CH b)).Pairwise λx y=>neS x=true->neS y=true->Od x y:=by
  refine ej.2 ⟨ej.2 ⟨?_,kf _ _,?_⟩,?_,?_⟩
  ·rw[ku];exact hod.imp λh _ _=>by unfold Od C5 at *;simp only;omega
  ·intro x hx y hy _ _;obtain⟨z,hz,rfl⟩:=cj.1 hx;rw[df.1 hy];unfold Od C5;simp only;omega
  ·rw[ku];exact hod.imp λh _ _=>by unfold Od CH at *;simp only;omega
  ·intro x hx y hy _ _;obtain⟨z,hz,rfl⟩:=cj.1 hy;rcases cf.1 hx with hx|hx
   ·obtain⟨w,hw,rfl⟩:=cj.1 hx;unfold Od C5 CH;simp only;omega
   ·rw[df.1 hx];unfold Od CH;simp only;omega
 obtain⟨f1,f2⟩:=i6 hf ho;refine⟨f1,λk=>?_⟩;rw[f2];have hpw:((l.map (C5 a)++[(a,b,s)]++l.map (CH b)).filter neS).Pairwise Dj:=J0 (by rw[pn];exact ho);have hfn:∀x∈(l.map (C5 a)++[(a,b,s)]++l.map (CH b)).filter neS,Fn n x:=λx hx=>by rw[ef] at hx;exact hf x hx.1 hx.2
 refine PW λv hv=>?_;rw[GP hpw hfn hv];unfold JW;have hat:=GP (k:=k) (J0 hod) (λx hx=>(hm x hx).1) hv;constructor
 ·rintro⟨y,hy,y1,y2,y3⟩;rw[ef] at hy;rcases cf.1 hy.1 with hy'|hy'
  ·rcases cf.1 hy' with hy'|hy'
   ·obtain⟨z,hz,rfl⟩:=cj.1 hy';unfold C5 at y1 y2 y3;simp only at y1 y2 y3;rw[tz,hat];exact⟨z,hz,y1,by omega,y3⟩
   ·rw[df.1 hy'] at y1 y2 y3;rw[iP ⟨y1,y2⟩];exact y3
  ·obtain⟨z,hz,rfl⟩:=cj.1 hy';unfold CH at y1 y2 y3;simp only at y1 y2 y3;rw[tz,hat];exact⟨z,hz,by omega,y2,y3⟩
 ·intro h;split at h
  ·rename_i hk;subst h;refine⟨(a,b,s),ef.2 ⟨by simp,?_⟩,hk.1,hk.2,rfl⟩;unfold neS;rw[dE];exact⟨hab,hv⟩
  ·rename_i hk;obtain⟨x,hx,x1,x2,x3⟩:=hat.1 h;by_cases h1:k<a
   ·refine⟨C5 a x,ef.2 ⟨cf.2 (.inl (cf.2 (.inl (cj.2 ⟨x,hx,rfl⟩)))),?_⟩,?_⟩;·unfold neS C5;simp only[dE];omega
    ·unfold C5;simp only;omega
   ·refine⟨CH b x,ef.2 ⟨cf.2 (.inr (cj.2 ⟨x,hx,rfl⟩)),?_⟩,?_⟩;·unfold neS CH;simp only[dE];omega
    ·unfold CH;simp only;omega
def okB (n:Int):Int->List Int->Bool
 |_,[]=>true
 |p,x::l=>decide (p<x/\x<n)&&okB n x l
def isB (n:Int) (l:List Int):Bool:=okB (min n 20000) 0 l&&decide (l.length<=60)
def C9 (l:List Int) (j:Nat):Int:=if j=0 then 0 else l.getD (j-1) 0
theorem NZ {l:List Int} (h:l.getD j 0=x):C9 l (j+1)=x:=by unfold C9;rw[tz,show j+1-1=j by omega,h]
theorem R8 {l:List Int}:okB n p (x::l)=true↔(p<x/\x<n)/\okB n x l=true:=by rw[okB,bq,dE]
theorem L4 {n:Int}:∀{l:List Int} {p:Int},okB n p l=true->∀x∈l,p<x/\x<n
 |[],_,_,x,hx=>by cases hx
 | y :: l,p,h,x,hx => by
   rw[R8] at h;rcases bv.1 hx with rfl|hx;·exact h.1
   ·have:=L4 h.2 x hx;omega
theorem H6 {n:Int}:∀{l:List Int} {p:Int},okB n p l=true->l.Pairwise (·< ·)
 |[],_,_=>iy
 | x :: l,p,h => by rw[R8] at h;exact dz.2 ⟨λy hy=>(L4 h.2 y hy).1,H6 h.2⟩
theorem NO {n:Int}:∀{l:List Int} {p:Int},l.Pairwise (·< ·)->(∀x∈l,p<x/\x<n)->okB n p l=true
 |[],_,_,_=>rfl
 | x :: l,p,h,hm => by rw[dz] at h;rw[R8];exact⟨hm x (by simp),NO h.2 λy hy=>⟨h.1 y hy,(hm y (by simp[hy])).2⟩⟩
theorem kI {m:Int} (h:n<=m) {l:List Int} (hl:okB n p l=true):okB m p l=true:=
 NO (H6 hl) λx hx=>by have:=L4 hl x hx;omega
theorem W9 {K:Nat} {l:List Int} {n:Int} (hl:l.length<=1000000000000):∀(rest:List Int) (j k:Nat),l.drop j=rest->rest.length<k->0<=C9 l j->
 E4.l0 K l n k (j:Int)=some (okB (min n 20000) (C9 l j) rest&&decide (l.length<=60))
 | [],j,k,hd,hk,h0 => by obtain⟨k,rfl⟩:=ug (k:=k);have:=A1 hd;rw[E4.l0,tt,okB,dq];congr 1;rw[decide_eq_decide];omega
 | x :: rest,j,k,hd,hk,h0 => by
   obtain⟨k,rfl⟩:=ug (k:=k);obtain⟨hj,hx,hd'⟩:=A0 hd (0:Int);rw[lC] at hk;have hw:ba .i64 ((j:Int)+1)=((j+1:Nat):Int):=by rw[w64];omega
   rw[E4.l0,tq,tw];simp only[tN,hx,hw,GC];have e:(if decide (x<=0)=true then some true else if decide (x>=min n 20000)=true then some true else if decide ((j:Int)>0)=true then if 0<=ba .i64 ((j:Int)-1)/\ba .i64 ((j:Int)-1)<((l.length:Nat):Int) then some (decide (x<=l.getD (ba .i64 ((j:Int)-1)).toNat 0)) else none else some false)=some (decide (¬(C9 l j<x/\x<min n 20000))):=by
    by_cases h1:x<=0;·rw[iP (by simpa using h1)];congr 1;symm;rw[dE];omega
    rw[iN (by simpa using h1)];by_cases h2:x>=min n 20000;·rw[iP (by simpa using h2)];congr 1;symm;rw[dE];omega
    rw[iN (by simpa using h2)];by_cases h3:j=0
    ·subst h3;rw[uf];congr 1;symm;rw[decide_eq_false_iff_not];rw[show C9 l 0=0 from rfl];omega
    ·have hw2:ba .i64 ((j:Int)-1)=((j-1:Nat):Int):=by rw[w64];omega
     rw[tq,hw2,tw,tN];have:C9 l j=l.getD (j-1) 0:=by unfold C9;rw[iN h3]
     rw[this];congr 1;rw[decide_eq_decide];omega
   rw[e,oB,okB];by_cases h:C9 l j<x/\x<min n 20000
   ·have ih:=W9 (K:=K) (n:=n) hl rest (j+1) k hd' (by omega) (by rw[NZ hx];omega);rw[NZ hx] at ih;rw[iN (by simp only[dE];exact λh'=>h' h),ih,decide_eq_true h,dq]
   ·rw[iP (by simp only[dE];exact h),decide_eq_false h,ec,ec]
theorem N7 {l:List Int} (hl:l.length<=1000000000000) (hK:l.length<K):E4 K l n=some (isB n l):=
 W9 hl l 0 K rfl hK (by simp[C9])
theorem iG:K8 K a b=some (decide (a<b)):=by unfold K8 G5;rw[oB,bne_self_eq_false,uf]
theorem P4 {K:Nat} {l:List Int} {t:Int} (hD:l.length<=100000):∀(k i j:Nat),i<=j->j<=l.length->EK.l0 K l t k (i:Int) (j:Int)=(bs (λh=>decide (l.getD h 0<t)) k i j).map (λn:Nat=>(n:Int))
 |0,i,j,hij,hj=>rfl
 | k+1,i,j,hij,hj => by
   rw[EK.l0,bs];by_cases h:i<j
   ·have hw:ba .i64 ((((i+j)/2:Nat):Int)+1)=(((i+j)/2+1:Nat):Int):=by rw[w64];omega
    rw[tq,iP h];simp only[IP (i:=i) (j:=j) (by omega),tN,hw,iG,oB];rw[tw,P4 hD k _ _ (by omega) hj,P4 hD k _ _ (by omega) (by omega)];split<;>rfl
   ·rw[tt,iN h];rfl
theorem NE {l:List Int} (h:l.Pairwise (·< ·)) (hij:i<j) (hj:j<l.length):l.getD i 0<l.getD j 0:=by have:=fw.1 h i j (by omega) hj hij;simpa[bb,bj hj,bj (show i<l.length by omega)] using this
theorem qT {l:List Int} {n:Nat} (h:x∈l.take n):∃i,i<n/\i<l.length/\l.getD i 0=x:=by obtain⟨i,hi,rfl⟩:=lb.1 h;rw[co] at hi;exact⟨i,by omega,by omega,by rw[mi];simp[bb,bj (show i<l.length by omega)]⟩
theorem UP {l:List Int} {n:Nat} (h:x∈l.drop n):∃i,n<=i/\i<l.length/\l.getD i 0=x:=by obtain⟨i,hi,rfl⟩:=lb.1 h;rw[cq] at hi;exact⟨n+i,by omega,by omega,by rw[nm];simp[bb,bj (show n+i<l.length by omega)]⟩
theorem VI {l:List Int} {r:Nat} (h:j<l.length) (hr:r<=j):l.getD j 0∈l.drop r:=
 lb.2 ⟨j-r,by rw[cq];omega,by rw[nm];simp[bb,bj h,show r+(j-r)=j by omega]⟩
theorem ZT {l:List Int} {t:Int} (hK:100000<K) (hl:l.length<=100000) (hs:l.Pairwise (·< ·)) :
 ∃r:Nat,r<=l.length/\EK K l t=some ((r:Int),decide (r<l.length/\l.getD r 0=t))/\(∀x∈l.take r,x<t)/\∀x∈l.drop r,t<=x:=by
 have e0:=P4 (K:=K) (t:=t) hl K 0 l.length (by omega) (bp _);obtain⟨r,e1,e2,e3,e4,e5⟩:=IF (p:=λh=>decide (l.getD h 0<t)) K 0 l.length (by omega) (by omega);rw[e1,fy] at e0;refine⟨r,e3,?_,λx hx=>?_,λx hx=>?_⟩
 ·unfold EK LY;rw[show ((0:Nat):Int)=0 from rfl] at e0;rw[e0,oB];simp only[tN,bne_self_eq_false,oB];by_cases h:r<l.length
  ·have hr:(0:Int)<=(r:Int)/\(r:Int)<((l.length:Nat):Int):=by omega
   simp only[iP hr];rw[tq];by_cases h2:l.getD r 0=t;·rw[iP (by rw[beq_iff_eq];exact h2),decide_eq_true ⟨h,h2⟩]
   ·rw[iN (by rw[beq_iff_eq];exact h2),uf,decide_eq_false λh'=>h2 h'.2]
  ·rw[tt,decide_eq_false λh'=>h h'.1]
 ·obtain⟨i,i1,i2,rfl⟩:=qT hx;rcases e4 with e4|e4;·omega
  ·rw[dE] at e4;rcases gw i (r-1) with h|h;·have:=NE hs h (by omega);omega
   ·rw[show i=r-1 by omega];exact e4
 ·obtain⟨i,i1,i2,rfl⟩:=UP hx;rcases e5 with e5|e5;·omega
  ·rw[decide_eq_false_iff_not] at e5;rcases gw r i with h|h;·have:=NE hs h (by omega);omega
   ·rw[show i=r by omega];omega
def F1 (l:List Int) (t:Int):List Int:=l.filter (λx=>decide (x<t))++t::l.filter (λx=>decide (t<x))
theorem XO {l:List Int} {t:Int}:x∈F1 l t↔x=t\/x∈l:=by
 unfold F1;simp only[cf,bv,ef,dE];constructor
 ·rintro (h|h|h);·exact .inr h.1
  ·exact .inl h
  ·exact .inr h.1
 ·rintro (h|h);·exact .inr (.inl h)
  ·rcases Int.lt_trichotomy x t with h'|h'|h';·exact .inl ⟨h,h'⟩
   ·exact .inr (.inl h')
   ·exact .inr (.inr ⟨h,h'⟩)
theorem XN {l:List Int} {t:Int} (h:l.Pairwise (·< ·)):(F1 l t).Pairwise (·< ·):=by
 unfold F1;refine ej.2 ⟨h.sublist nw,dz.2 ⟨λy hy=>?_,h.sublist nw⟩,λx hx y hy=>?_⟩;·rw[ef,dE] at hy;exact hy.2
 ·rw[ef,dE] at hx;rcases bv.1 hy with rfl|hy;·exact hx.2
  ·rw[ef,dE] at hy;omega
theorem XP {l:List Int} {t:Int} {r:Nat} (hn:t∉l) (h1:∀x∈l.take r,x<t) (h2:∀x∈l.drop r,t<=x):F1 l t=l.take r++t::l.drop r:=by
 unfold F1;have e:l.filter (λx=>decide (x<t))=(l.take r++l.drop r).filter (λx=>decide (x<t)):=by rw[dm]
 have e2:l.filter (λx=>decide (t<x))=(l.take r++l.drop r).filter (λx=>decide (t<x)):=by rw[dm]
 rw[e,e2,og,og];rw[ir.2 (λx hx=>by rw[dE];exact h1 x hx),ko.2 (λx hx=>by rw[dE];have:=h2 x hx;omega),cm,
  ko.2 (λx hx=>by rw[dE];have:=h1 x hx;omega),cd,ir.2 (λx hx=>?_)]
 rw[dE];have:=h2 x hx;have:x≠t:=λe=>hn (e▸mD hx);omega
theorem XM {l:List Int} {t:Int} (hs:l.Pairwise (·< ·)) (hn:t∉l):(F1 l t).length=l.length+1:=by
 have hp:(F1 l t).Perm (t::l):=by
  refine(List.perm_ext_iff_of_nodup ?_ ?_).2 λx=>by rw[XO,bv]
  ·exact(XN hs).imp λh=>by omega
  ·exact dy.2 ⟨hn,hs.imp λh=>by omega⟩
 rw[hp.length_eq];rfl
theorem WN {l:List Int} {t:Int} {r:Nat} (h1:∀x∈l.take r,x<t) (h2:∀x∈l.drop r,t<=x) (hs:l.Pairwise (·< ·)):(r<l.length/\l.getD r 0=t)↔t∈l:=by
 constructor
 ·rintro⟨h,e⟩;rw[<-e];simp[bb,bj h]
 ·intro h;rw[<-dm r l] at h;rcases cf.1 h with h|h;·have:=h1 t h;omega
  ·obtain⟨i,i1,i2,e⟩:=UP h;refine⟨by omega,?_⟩;rcases gw r i with hi|hi
   ·have:=NE hs hi i2;have:=h2 _ (VI (show r<l.length by omega) (bp r));omega
   ·rw[show r=i by omega];exact e
theorem mO {α:Type} {xs ys:List α} (h:ys.length=xs.length):tU xs ys 0=ys:=by unfold tU;rw[List.take_zero,cd,lx (by omega),cm]
theorem mP {l:List Int} {t:Int} (hK:1000<K) (hl:l.length<=100) (h:¬(isB 20000 l=true/\0<t/\t<20000)):FN K l t=some ([],12):=by
 unfold FN;rw[N7 (by omega) (by omega),oB];have:(if (!isB 20000 l)=true then some true else if decide (t<=0)=true then some true else some (decide (t>=20000)))=some true:=by
  cases hi:isB 20000 l with
  |false=>rfl
  | true =>
    rw[uf];by_cases h1:t<=0;·rw[iP (by simpa using h1)]
    ·rw[iN (by simpa using h1)];congr 1;rw[dE];rcases nu t 20000 with h2|h2;·exact(h ⟨hi,by omega,h2⟩).elim
     ·exact h2
 rw[this,oB,iP rfl]
theorem WA {l:List Int} (h:isB n l=true):okB (min n 20000) 0 l=true/\l.length<=60:=by unfold isB at h;rw[bq,dE] at h;exact h
theorem Q7 {l:List Int} (h:okB n 0 l=true) (hn:n<=20000) (hl:l.length<=60):isB n l=true:=by unfold isB;rw[bq,dE,show min n 20000=n by omega];exact⟨h,hl⟩
theorem XL {l:List Int} {t:Int} (hK:100000<K) (hi:isB 20000 l=true) (h1:0<t) (h2:t<20000) :
 FN K l t=some (if t∈l then (l,0) else if 60<=l.length then ([],70) else (F1 l t,0)):=by
 obtain⟨hok,hl⟩:=WA hi;have hs:=H6 hok;obtain⟨r,r1,r2,r3,r4⟩:=ZT (K:=K) (t:=t) hK (by omega) hs;have hmem:=WN r3 r4 hs;unfold FN;rw[N7 (by omega) (by omega),oB,hi,uf,tt,oB,tt,r2,oB,w64 (n:=((l.length:Nat):Int)+1),tw];have hrep:(bn (bc ((l.length:Nat):Int)) (0:Int)).length=l.length:=by rw[List.length_replicate];omega
 rw[hrep,my,mO (by omega)];by_cases hm:t∈l;·rw[decide_eq_true (hmem.2 hm),iP rfl,iP hm]
 ·rw[decide_eq_false λh=>hm (hmem.1 h),uf,iN hm];by_cases h60:60<=l.length;·rw[tq,iP h60]
  ·rw[tt,iN h60];unfold OK;rw[tq,oB,tN,XP hm r3 r4];rfl
def stB (e:Int) (out:List Int) (x:Int):List Int:=if 0<x/\x<e/\(out.length=0\/out.getD (out.length-1) 0≠x) then out++[x] else out
theorem SQ {out:List Int}:(stB e out x).length<=out.length+1:=by unfold stB;split<;>simp
theorem VD {e:Int}:∀{r out:List Int},(r.foldl (stB e) out).length<=out.length+r.length
 |[],out=>bp _
 | x :: r,out => by have:=VD (e:=e) (r:=r) (out:=stB e out x);have:=SQ (e:=e) (x:=x) (out:=out);rw[fk,lC];omega
theorem aV {out:List Int} (ho:out.length<=1000000) :
 (if decide (x>0)=true then if decide (x<e)=true then if (((out.length:Nat):Int)==(0:Int))=true then some true else if 0<=ba .i64 (((out.length:Nat):Int)-1)/\ba .i64 (((out.length:Nat):Int)-1)<((out.length:Nat):Int) then some (out.getD (ba .i64 (((out.length:Nat):Int)-1)).toNat 0 !=x) else none else some false else some false)=some (decide (0<x/\x<e/\(out.length=0\/out.getD (out.length-1) 0≠x))):=by
 by_cases h1:x>0
 ·rw[iP (by simpa using h1)];by_cases h2:x<e
  ·rw[iP (by simpa using h2)];by_cases h3:out.length=0;·rw[iP (by simp[h3])];congr 1;symm;rw[dE];exact⟨h1,h2,.inl h3⟩
   ·have hw:ba .i64 (((out.length:Nat):Int)-1)=((out.length-1:Nat):Int):=by rw[w64];omega
    rw[iN (by rw[beq_iff_eq];omega),hw,tw,tN];congr 1;by_cases h4:out.getD (out.length-1) 0=x;·rw[h4,bne_self_eq_false];symm;rw[decide_eq_false_iff_not];exact λh=>h.2.2.elim h3 λh'=>h' rfl
    ·rw[show (out.getD (out.length-1) 0 !=x)=true by rw[bne_iff_ne];exact h4];symm;rw[dE];exact⟨h1,h2,.inr h4⟩
  ·rw[iN (by simpa using h2)];congr 1;symm;rw[decide_eq_false_iff_not];exact λh=>h2 h.2.1
 ·rw[iN (by simpa using h1)];congr 1;symm;rw[decide_eq_false_iff_not];exact λh=>h1 h.1
theorem PL {K:Nat} {l:List Int} {base e:Int} {d:List El} (hK:30000<=K) (hl:l.length<=100000):∀(rest:List Int) (j k:Nat) (out:List Int),l.drop j=rest->rest.length<k->out.length<=j->
 CQ.l0 K l base d e k out (j:Int)=some ((rest.map λx=>mv base d x false).foldl (stB e) out,0)
 | [],j,k,out,hd,hk,ho => by obtain⟨k,rfl⟩:=ug (k:=k);have:=A1 hd;rw[CQ.l0,tt];rfl
 | x :: rest,j,k,out,hd,hk,ho => by
   obtain⟨k,rfl⟩:=ug (k:=k);obtain⟨hj,hx,hd'⟩:=A0 hd (0:Int);rw[lC] at hk;have hw:ba .i64 ((j:Int)+1)=((j+1:Nat):Int):=by rw[w64];omega
   have ih:=λo h=>PL (base:=base) (e:=e) (d:=d) hK hl rest (j+1) k o hd' (by omega) h;have hs:=SQ (e:=e) (x:=mv base d x false) (out:=out);rw[CQ.l0,tq,tw];simp only[tN,hx,hw,NK hK,oB];rw[aV (by omega),oB,dj,fk,<-ih (stB e out (mv base d x false)) (by omega)];by_cases h:0<mv base d x false/\mv base d x false<e/\(out.length=0\/out.getD (out.length-1) 0≠mv base d x false);·rw[iP (by rw[dE];exact h),tq];unfold stB;rw[iP h]
   ·rw[iN (by rw[dE];exact h)];unfold stB;rw[iN h]
def edB (base:Int) (d:List El) (l:List Int):List Int:=(l.map λx=>mv base d x false).foldl (stB (AD d+A6 d)) []
theorem fA {base:Int} {l:List Int}:(edB base d l).length<=l.length:=by have:=VD (e:=AD d+A6 d) (r:=l.map λx=>mv base d x false) (out:=[]);simpa[edB] using this
theorem VC {e:Int}:∀{r out:List Int},r.Pairwise (·< ·)->(∀x∈r,0<x/\x<e)->(∀x∈r,out.length=0\/out.getD (out.length-1) 0<x)->r.foldl (stB e) out=out++r
 |[],out,_,_,_=>by simp
 | x :: r,out,h1,h2,h3 => by
   rw[dz] at h1;have hx:=h2 x (by simp);have hx3:=h3 x (by simp);have e1:stB e out x=out++[x]:=by unfold stB;rw[iP ⟨hx.1,hx.2,hx3.imp id λh=>by omega⟩]
   rw[fk,e1,VC h1.2 (λy hy=>h2 y (by simp[hy])) λy hy=>.inr ?_,aA];·rfl
   ·have:(out++[x]).getD ((out++[x]).length-1) 0=x:=by simp
    rw[this];exact h1.1 y hy
def loR (x:Rg):Int:=min x.1 x.2
def hiR (x:Rg):Int:=max x.1 x.2
def ltR (a b:Rg):Bool:=decide (loR a<loR b\/(loR a=loR b/\hiR a<hiR b))
theorem H4 (x:Rg):loR x<=hiR x:=by unfold loR hiR;omega
theorem FJ {x:Rg}:CY K x.1 x.2=some (loR x,hiR x):=by unfold CY;rw[GC,H5];rfl
theorem UB:GT K a b=some (if a<b then -1 else if a>b then 1 else 0):=by
 unfold GT G5;rw[oB,oB,bne_self_eq_false,uf,bne_self_eq_false,uf];by_cases h:a<b;·rw[iP (by simpa using h),iP h]
 ·rw[iN (by simpa using h),iN h];by_cases h2:a>b;·rw[iP (by simpa using h2),iP h2]
  ·rw[iN (by simpa using h2),iN h2]
theorem dJ (hK:10<=K) {a b:Rg}:∃c,HD K a.1 a.2 b.1 b.2=some c/\decide (c<0)=ltR a b:=by
 obtain⟨k,rfl⟩:∃k,K=k+1+1+1:=⟨K-3,by omega⟩;unfold HD EU;rw[FJ,oB,FJ,oB];simp only;rw[UB,oB,UB,oB,EU.l0,iP (by simp),iP (by simp)];simp only[show bc 0=0 from rfl,lv];unfold ltR;by_cases h1:loR a<loR b
 ·rw[iP h1,iP (by decide),oB];exact⟨_,rfl,by rw[decide_eq_decide];omega⟩
 ·rw[iN h1];by_cases h2:loR a>loR b
  ·rw[iP h2,iP (by decide),oB];exact⟨_,rfl,by rw[decide_eq_decide];omega⟩
  ·rw[iN h2,iN (by decide),show ba .i64 ((0:Int)+1)=1 by decide,EU.l0,iP (by simp),iP (by simp)];simp only[show bc 1=1 from rfl,th,lv];by_cases h3:hiR a<hiR b
   ·rw[iP h3,iP (by decide),oB];exact⟨_,rfl,by rw[decide_eq_decide];omega⟩
   ·rw[iN h3];by_cases h4:hiR a>hiR b
    ·rw[iP h4,iP (by decide),oB];exact⟨_,rfl,by rw[decide_eq_decide];omega⟩
    ·rw[iN h4,iN (by decide),show ba .i64 ((1:Int)+1)=2 by decide,EU.l0,uf,oB];exact⟨_,rfl,by rw[decide_eq_decide];omega⟩
def KU (x:Rg):List Rg->List Rg
 |[]=>[x]
 |z::l=>if ltR x z=true then z::KU x l else x::z::l
def D6 (x:Rg) (S:List Rg):List Rg:=(KU x S.reverse).reverse
theorem N4 (x z:Rg) (S:List Rg):D6 x (S++[z])=if ltR x z=true then D6 x S++[z] else S++[z]++[x]:=by unfold D6;rw[List.reverse_append,List.reverse_singleton,jD,KU];split<;>simp
theorem W7 (x:Rg):∀S:List Rg,(KU x S).Perm (x::S)
 |[]=>kx _
 | z :: l => by
   rw[KU];split;·exact((W7 x l).cons z).trans (List.Perm.swap x z l)
   ·exact kx _
theorem Q6 (x:Rg) (S:List Rg):(D6 x S).Perm (x::S):=by unfold D6;refine(ur _).trans ((W7 x S.reverse).trans ?_);exact(ur S).cons x
theorem W2 (x:Rg) (S:List Rg):(D6 x S).length=S.length+1:=by rw[(Q6 x S).length_eq];rfl
def AO (X S:List Rg):List Rg:=X.foldl (λS x=>D6 x S) S
theorem ON:∀{X S:List Rg},(AO X S).Perm (X++S)
 |[],S=>kx _
 | x :: X,S => by show (AO X (D6 x S)).Perm _;refine ON.trans ?_;refine((Q6 x S).append_left X).trans ?_;rw[db];exact qw
theorem W1 {K:Nat} {x:Rg} (hK:10<=K):∀(n:Nat) (S2 T S:List Rg) (k:Nat),S.length=n->n<k->S.length+S2.length+T.length<=100000->
 BJ.l1 K 0 k (S++x::(S2++T)) (S.length:Int)=some (D6 x S++(S2++T))
 | 0,S2,T,S,k,hn,hk,hl => by obtain⟨k,rfl⟩:=ug (k:=k);have:S=[]:=bx hn;subst this;rw[BJ.l1,uf,oB,uf];rfl
 | n+1,S2,T,S,k,hn,hk,hl => by
   obtain⟨k,rfl⟩:=ug (k:=k);obtain⟨S',z,rfl⟩:=EO (l:=S) (by intro e;rw[e] at hn;simp at hn);rw[lA,ck] at hn hl;have eD:(S'++[z])++x::(S2++T)=S'++z::x::(S2++T):=by simp
   have g1:(S'++z::x::(S2++T)).getD (S'.length+1) rg0=x:=VK rfl;have g2:(S'++z::x::(S2++T)).getD S'.length rg0=z:=FU rfl;have hw:ba .i64 (((S'.length+1:Nat):Int)-1)=(S'.length:Int):=by rw[w64];omega
   have hDl:(S'++z::x::(S2++T)).length=S'.length+2+S2.length+T.length:=by simp only[lA,lC];omega
   obtain⟨c,hc1,hc2⟩:=dJ (K:=K) hK (a:=x) (b:=z);rw[lA,ck,BJ.l1,eD];simp only[hw,tN,g1,g2];rw[iP (by rw[dE];omega),hc1,oB,iP ⟨by omega,by omega,by omega,by omega⟩,hc2,oB,N4];cases hlt:ltR x z with
   | true =>
     rw[iP rfl,iP ⟨by omega,by omega,by omega,by omega,by rw[iw];omega⟩,iP rfl];have e:=W1 (K:=K) (x:=x) hK n (z::S2) T S' k (by omega) (by omega) (by simp only[lC];omega);rw[show ((S'++z::x::(S2++T)).set (S'.length+1) (z.1,z.2)).set S'.length (x.1,x.2)=S'++x::z::(S2++T) from bA rfl rfl];rw[db] at e;rw[e];simp
   | false =>
     rw[uf,uf];simp
theorem W0 {K:Nat} (hK:100000<=K):∀(X S:List Rg) (k:Nat),X.length<k->S.length+X.length<=90000->
 BJ.l0 K ((S.length+X.length:Nat):Int) 0 k (S++X) (S.length:Int)=some (AO X S)
 | [],S,k,hk,hl => by obtain⟨k,rfl⟩:=ug (k:=k);rw[BJ.l0,uf,cm];rfl
 | x :: X,S,k,hk,hl => by
   obtain⟨k,rfl⟩:=ug (k:=k);rw[lC] at hk hl;have hw:ba .i64 (((S.length:Nat):Int)+1)=((S.length+1:Nat):Int):=by rw[w64];omega
   have e:=W1 (K:=K) (x:=x) (by omega) S.length [] X S K rfl (by omega) (by simp only[eb];omega);rw[cd] at e;have e2:=W0 hK X (D6 x S) k (by omega) (by rw[W2];omega);rw[W2] at e2;rw[BJ.l0,tq,e,oB,hw,lC,show S.length+(X.length+1)=S.length+1+X.length by omega,e2];rfl
theorem q7 {X:List Rg} (hK:100000<=K) (hl:X.length<20):LW K X=some (AO X []):=by
 obtain⟨k,rfl⟩:∃m,K=m+1:=⟨K-1,by omega⟩;unfold LW BK BJ;rw[BK.l0,tt,oB];simp only[show ba .i64 ((0:Int)+1)=1 by decide];cases X with
 | nil =>
   rw[BJ.l0,uf,oB,BK.l1,uf,oB];rfl
 | cons x X =>
   rw[lC] at hl;have e:=W0 (K:=k+1) hK X [x] (k+1) (by omega) (by simp only[ck];omega);simp only[ck,jD] at e;rw[show ((1+X.length:Nat):Int)=(((x::X).length:Nat):Int) by rw[lC];omega,show ((1:Nat):Int)=1 from rfl] at e;rw[e,oB,BK.l1,tt,oB];rfl
def leR (a b:Rg):Prop:=ltR b a=false
theorem iU {a b c:Rg} (h1:leR a b) (h2:leR b c):leR a c:=by unfold leR ltR at *;rw[decide_eq_false_iff_not] at *;omega
theorem j6 {a b:Rg} (h:ltR a b=true):leR a b:=by unfold leR ltR at *;rw[dE] at h;rw[decide_eq_false_iff_not];omega
theorem WG {a b:Rg} (h:leR a b):loR a<=loR b:=by unfold leR ltR at h;rw[decide_eq_false_iff_not] at h;omega
theorem W3 {x:Rg}:∀(n:Nat) (S:List Rg),S.length=n->S.Pairwise leR->(D6 x S).Pairwise leR
 | 0,S,hn,hs => by have:S=[]:=bx hn;subst this;exact kf _ _
 | n+1,S,hn,hs => by
   obtain⟨S',z,rfl⟩:=EO (l:=S) (by intro e;rw[e] at hn;simp at hn);rw[lA,ck] at hn;have hs':=ej.1 hs;rw[N4];cases hlt:ltR x z with
   | true =>
     rw[iP rfl];refine ej.2 ⟨W3 n S' (by omega) hs'.1,kf _ _,λa ha b hb=>?_⟩;rw[df.1 hb];rcases bv.1 ((Q6 x S').mem_iff.1 ha) with rfl|ha;·exact j6 hlt
     ·exact hs'.2.2 a ha z (by simp)
   | false =>
     rw[uf];refine ej.2 ⟨hs,kf _ _,λa ha b hb=>?_⟩;rw[df.1 hb];rcases cf.1 ha with ha|ha;·exact iU (hs'.2.2 a ha z (by simp)) hlt
     ·rw[df.1 ha];exact hlt
theorem SP:∀{X S:List Rg},S.Pairwise leR->(AO X S).Pairwise leR
 |[],S,h=>h
 |x::X,S,h=>SP (X:=X) (W3 S.length S rfl h)
def mgR (c x:Rg):Rg:=if c.2<c.1 then (max (hiR x) (hiR c),loR c) else (loR c,max (hiR x) (hiR c))
def B8:Rg->List Rg->List Rg
 |c,[]=>[c]
 |c,x::l=>if loR x>hiR c then c::B8 x l else B8 (mgR c x) l
def jnR:List Rg->List Rg
 |[]=>[]
 |x::l=>B8 x l
theorem KY {c x:Rg}:loR (mgR c x)=loR c:=by have:=H4 c;unfold mgR;split<;>(unfold loR hiR at *;simp only;omega)
theorem jQ {c x:Rg}:hiR (mgR c x)=max (hiR x) (hiR c):=by have:=H4 c;unfold mgR;split<;>(unfold loR hiR at *;simp only;omega)
theorem r7 {c x:Rg}:LK K c.1 c.2 x.1 x.2=some (decide (hiR c>=loR x/\hiR x>=loR c)):=by
 unfold LK N6;rw[FJ,oB,FJ,oB];simp only;by_cases h:hiR c>=loR x;·rw[iP (by simpa using h),oB];congr 1;rw[decide_eq_decide];omega
 ·rw[iN (by simpa using h),oB];congr 1;symm;rw[decide_eq_false_iff_not];omega
theorem jP {c x:Rg} (h:loR c<=loR x):LP K c.1 c.2 x.1 x.2=some (mgR c x):=by unfold LP N5 mgR;rw[FJ,oB,FJ,oB];simp only[GC,H5,oB,dE];rw[show min (loR c) (loR x)=loR c by omega,Int.max_comm];split<;>rfl
theorem Q3 {K:Nat} {l:List Rg} (hl:l.length<=10000):∀(rest:List Rg) (j k:Nat) (O:List Rg) (c:Rg),l.drop j=rest->rest.length<k->O.length+1<=j->(∀x∈rest,loR c<=loR x)->rest.Pairwise (λa b=>loR a<=loR b)->
 D7.l0 K l k (O++[c]) (j:Int)=some (O++B8 c rest)
 | [],j,k,O,c,hd,hk,hO,_,_ => by obtain⟨k,rfl⟩:=ug (k:=k);have:=A1 hd;rw[D7.l0,tt];rfl
 | x :: rest,j,k,O,c,hd,hk,hO,hc1,hc2 => by
   obtain⟨k,rfl⟩:=ug (k:=k);obtain⟨hj,hx,hd'⟩:=A0 hd rg0;rw[lC] at hk;rw[dz] at hc2;have hcx:=hc1 x (by simp);have hlx:=H4 x;have hw:ba .i64 ((j:Int)+1)=((j+1:Nat):Int):=by rw[w64];omega
   have hol:(O++[c]).length=O.length+1:=by simp
   have hw2:ba .i64 ((((O++[c]).length:Nat):Int)-1)=(O.length:Int):=by rw[w64];omega
   have g:(O++[c]).getD O.length rg0=c:=FU rfl;have hc:(0:Int)<=(O.length:Int)/\(O.length:Int)<(((O++[c]).length:Nat):Int):=by omega
   have st:∀v:Rg,(O++[c]).set O.length v=O++[v]:=λv=>HF rfl;rw[D7.l0,tq];simp only[hw2,tN,hx,hw,r7,jP hcx,oB,g,iP hc,st];rw[tw,iP (by rw[dE];omega),oB];simp only[dE];rw[B8];by_cases h:loR x>hiR c
   ·rw[tz,iP h,iP (by simp only[ck];omega)];have e:=Q3 (K:=K) hl rest (j+1) k (O++[c]) x hd' (by omega) (by omega) hc2.1 hc2.2;rw[e];simp
   ·rw[tw,iN h];exact Q3 (K:=K) hl rest (j+1) k O (mgR c x) hd' (by omega) (by omega) (λy hy=>by rw[KY];exact hc1 y (by simp[hy])) hc2.2
theorem TT {l:List Rg} (hK:100000<=K) (hl:l.length<20):JB K l=some (jnR (AO l [])):=by
 unfold JB OH;rw[tq,oB,cd,q7 hK hl,oB];have hlen:(AO l []).length=l.length:=by rw[ON.length_eq,cm]
 have hs:(AO l []).Pairwise (λa b=>loR a<=loR b):=(SP (X:=l) iy).imp WG;unfold D7;obtain⟨k,rfl⟩:∃m,K=m+1:=⟨K-1,by omega⟩;cases hS:AO l [] with
 |nil=>rw[D7.l0,uf];rfl
 | cons x S =>
   rw[hS] at hlen hs;rw[lC] at hlen;rw[dz] at hs;have e2:=Q3 (K:=k+1) (l:=x::S) (by rw[lC];omega) S 1 k [] x rfl (by omega) (by simp) hs.1 hs.2;rw[cd,cd] at e2;rw[D7.l0,iP (by simp),iP (by simp),iN (by decide),oB,uf];simp only[show bc 0=0 from rfl,lv];rw[iP (by simp),show ba .i64 ((0:Int)+1)=((1:Nat):Int) by decide];rw[show ([]:List Rg)++[(x.1,x.2)]=[x] from rfl,e2];rfl
theorem QN:∀{l:List Rg} {c:Rg},(B8 c l).length<=l.length+1
 |[],c=>by simp[B8]
 | x :: l,c => by
   rw[B8];have h1:=QN (l:=l) (c:=x);have h2:=QN (l:=l) (c:=mgR c x);split;·rw[lC,lC];omega
   ·rw[lC];omega
theorem iQ {l:List Rg}:(jnR l).length<=l.length:=by
 cases l with
 |nil=>exact bp _
 |cons x l=>exact QN
def inR (n:Int) (x:Rg):Bool:=decide (0<=loR x/\hiR x<=n)
def edR (s:ByteArray) (x:Rg):Bool:=isE s x.1&&isE s x.2
theorem WE {x:Rg}:IQ K (loR x) (hiR x) n=some (inR n x):=by
 have:=H4 x;unfold IQ inR;by_cases h:loR x>=0;·rw[iP (by simpa using h),iP (by simpa using this)];congr 1;rw[decide_eq_decide];omega
 ·rw[iN (by simpa using h)];congr 1;symm;rw[decide_eq_false_iff_not];omega
theorem gZ {x:Rg}:LM K x.1 x.2 s=some (!inR s.size x):=by unfold LM OA;rw[FJ,oB];simp only[WE,oB]
theorem V1 {K:Nat} {l:List Rg} {s:ByteArray} (hl:l.length<=1000000):∀(rest:List Rg) (j k:Nat),l.drop j=rest->rest.length<k->
 ∃r,D1.l0 K l s k (j:Int)=some r/\decide (r>=0)=!rest.all (inR s.size)
 | [],j,k,hd,hk => by obtain⟨k,rfl⟩:=ug (k:=k);have:=A1 hd;rw[D1.l0,tt];exact⟨_,rfl,rfl⟩
 | x :: rest,j,k,hd,hk => by
   obtain⟨k,rfl⟩:=ug (k:=k);obtain⟨hj,hx,hd'⟩:=A0 hd rg0;rw[lC] at hk;have hw:ba .i64 ((j:Int)+1)=((j+1:Nat):Int):=by rw[w64];omega
   rw[D1.l0,tq];simp only[tN,hx,hw];rw[gZ,oB,tw,kj];cases inR s.size x with
   | true =>
     rw[uf];exact V1  hl rest (j+1) k hd' (by omega)
   | false =>
     rw[iP (show (!false)=true from rfl)];exact⟨_,rfl,by rw[decide_eq_true (by omega)];rfl⟩
theorem UZ {l:List Rg} (hl:l.length<=1000000) (hk:l.length<K):GH K l s=some (l.all (inR s.size)):=by unfold GH JP D1;obtain⟨r,e1,e2⟩:=V1 (K:=K) (l:=l) (s:=s)  hl l 0 K rfl hk;rw[show ((0:Nat):Int)=0 from rfl] at e1;rw[e1,oB,oB,e2,ut]
theorem gY {x:Rg} (hK:s.size+10<=K)  (hs:s.size<=1000000):LN K x.1 x.2 s=some (!edR s x):=by unfold LN O9;rw[HI hK hs,oB,HI hK hs];unfold edR;cases isE s x.1<;>rfl
theorem UY {K:Nat} {l:List Rg} {s:ByteArray} (hK:s.size+10<=K)  (hs:s.size<=1000000) (hl:l.length<=1000000):∀(rest:List Rg) (j k:Nat),l.drop j=rest->rest.length<k->
 ∃r,CZ.l0 K l s k (j:Int)=some r/\decide (r>=0)=!rest.all (edR s)
 | [],j,k,hd,hk => by obtain⟨k,rfl⟩:=ug (k:=k);have:=A1 hd;rw[CZ.l0,tt];exact⟨_,rfl,rfl⟩
 | x :: rest,j,k,hd,hk => by
   obtain⟨k,rfl⟩:=ug (k:=k);obtain⟨hj,hx,hd'⟩:=A0 hd rg0;rw[lC] at hk;have hw:ba .i64 ((j:Int)+1)=((j+1:Nat):Int):=by rw[w64];omega
   rw[CZ.l0,tq];simp only[tN,hx,hw];rw[gY hK hs,oB,tw,kj];cases edR s x with
   | true =>
     rw[uf];exact UY hK hs hl rest (j+1) k hd' (by omega)
   | false =>
     rw[iP (show (!false)=true from rfl)];exact⟨_,rfl,by rw[decide_eq_true (by omega)];rfl⟩
theorem UX {l:List Rg} (hK:s.size+10<=K)  (hs:s.size<=1000000) (hl:l.length<=1000000) (hk:l.length<K):GG K l s=some (l.all (edR s)):=by unfold GG JO CZ;obtain⟨r,e1,e2⟩:=UY (K:=K) (l:=l) (s:=s) hK hs hl l 0 K rfl hk;rw[show ((0:Nat):Int)=0 from rfl] at e1;rw[e1,oB,oB,e2,ut]
theorem hJ {x:Rg} {base:Int}:LL K x.1 x.2 base d=some (!inR base x):=by unfold LL O7;rw[FJ,oB];simp only[WE,oB]
theorem V2 {K:Nat} {l:List Rg} {base:Int} {d:List El} (hl:l.length<=1000000):∀(rest:List Rg) (j k:Nat),l.drop j=rest->rest.length<k->
 ∃r,F4.l0 K l base d k (j:Int)=some r/\decide (r>=0)=!rest.all (inR base)
 | [],j,k,hd,hk => by obtain⟨k,rfl⟩:=ug (k:=k);have:=A1 hd;rw[F4.l0,tt];exact⟨_,rfl,rfl⟩
 | x :: rest,j,k,hd,hk => by
   obtain⟨k,rfl⟩:=ug (k:=k);obtain⟨hj,hx,hd'⟩:=A0 hd rg0;rw[lC] at hk;have hw:ba .i64 ((j:Int)+1)=((j+1:Nat):Int):=by rw[w64];omega
   rw[F4.l0,tq];simp only[tN,hx,hw];rw[hJ,oB,tw,kj];cases inR base x with
   | true =>
     rw[uf];exact V2  hl rest (j+1) k hd' (by omega)
   | false =>
     rw[iP (show (!false)=true from rfl)];exact⟨_,rfl,by rw[decide_eq_true (by omega)];rfl⟩
theorem hG {l:List Rg} {base:Int} (hl:l.length<=1000000) (hk:l.length<K):LO K l base d=some (l.all (inR base)):=by unfold LO OJ F4;obtain⟨r,e1,e2⟩:=V2 (K:=K) (l:=l) (base:=base) (d:=d)  hl l 0 K rfl hk;rw[show ((0:Nat):Int)=0 from rfl] at e1;rw[e1,oB,oB,e2,ut]
def mkR (s:ByteArray) (l:List Rg):List Rg×Int:=
 if l.length=0 then ([],12) else if l.length>8 then ([],70) else if l.all (inR s.size)=false then ([],10) else if l.all (edR s)=false then ([],11) else (jnR (AO l []),0)
theorem U9 {l:List Rg}:GF K l=some (if l.length=0 then 12 else if l.length>8 then 70 else 0):=by
 unfold GF;by_cases h:l.length=0;·rw[iP (by rw[beq_iff_eq];omega),iP h]
 ·rw[iN (by rw[beq_iff_eq];omega),iN h];by_cases h2:l.length>8;·rw[iP (by rw[dE];omega),iP h2]
  ·rw[iN (by rw[dE];omega),iN h2]
theorem jH {l:List Rg} (hK:100000<=K) (hs:s.size<=50000) (hl:l.length<=1000):LJ K l s=some (mkR s l):=by
 unfold LJ mkR I6 I5;rw[U9,oB];by_cases h:l.length=0;·simp only[iP h];rw[iP (by decide)]
 ·simp only[iN h];by_cases h2:l.length>8;·simp only[iP h2];rw[iP (by decide)]
  ·simp only[iN h2];rw[iN (by decide),oB,UZ (by omega) (by omega),oB];cases h3:l.all (inR s.size) with
   |false=>rfl
   | true =>
     rw[uf,uf,oB,UX (by omega) (by omega) (by omega) (by omega),oB];cases h4:l.all (edR s) with
     |false=>rfl
     |true=>rw[uf,uf,TT hK (by omega),oB]
def goR (base:Int) (d:List El) (x:Rg):Rg:=(mv base d x.1 true,mv base d x.2 true)
def mvR (base:Int) (d:List El) (l:List Rg):List Rg×Int:=
 if isD base d=false\/l.length=0\/l.all (inR base)=false then ([],12) else if l.length>8 then ([],70) else (jnR (AO (l.map (goR base d)) []),0)
theorem WQ {K:Nat} {l:List Rg} {base:Int} {d:List El} (hK:30000<=K) (hl:l.length<=10000):∀(rest:List Rg) (j k:Nat) (out:List Rg),l.drop j=rest->rest.length<k->out.length<=j->
 EI.l0 K l base d k out (j:Int)=some (out++rest.map (goR base d))
 | [],j,k,out,hd,hk,ho => by obtain⟨k,rfl⟩:=ug (k:=k);have:=A1 hd;rw[EI.l0,tt];simp
 | x :: rest,j,k,out,hd,hk,ho => by
   obtain⟨k,rfl⟩:=ug (k:=k);obtain⟨hj,hx,hd'⟩:=A0 hd rg0;rw[lC] at hk;have hw:ba .i64 ((j:Int)+1)=((j+1:Nat):Int):=by rw[w64];omega
   rw[EI.l0,tq,tw];simp only[tN,hx,hw,NK hK,oB];rw[iP (by simp only[ck];omega),WQ hK hl rest (j+1) k _ hd' (by omega) (by simp;omega),dj];simp[goR]
theorem k7 {l:List Rg} {base:Int} (hK:100000<=K) (hl:l.length<=1000):EI K l base d=some (mvR base d l):=by
 unfold EI mvR;have e1:=WQ (K:=K) (l:=l) (base:=base) (d:=d) (by omega) (by omega) l 0 K [] rfl (by omega) (by simp);rw[show ((0:Nat):Int)=0 from rfl,cd] at e1;rw[GB (by omega),oB,hG (by omega) (by omega),oB,U9];cases h1:isD base d with
 |false=>rfl
 | true =>
   rw[uf];by_cases h2:l.length=0;·rw[iP (by rw[beq_iff_eq];omega),oB,iP rfl,iP (.inr (.inl h2))]
   ·rw[iN (by rw[beq_iff_eq];omega)];cases h3:l.all (inR base) with
    |false=>rw[oB,iP (show (!false)=true from rfl),iP (.inr (.inr rfl))]
    | true =>
      rw[oB,iN (show ¬(!true)=true by simp),oB,iN h2,iN (show ¬(true=false\/l.length=0\/true=false) from λh=>by rcases h with h|h|h;cases h;exact h2 h;cases h)];by_cases h4:l.length>8;·rw[iP h4,iP (by decide),iP h4]
      ·rw[iN h4,iN (by decide),iN h4,e1,oB,TT hK (by rw[du];omega),oB]
def chR:Rg->List Rg->Bool
 |_,[]=>true
 |p,x::l=>decide (hiR p<loR x)&&chR x l
def isR (s:ByteArray):List Rg->Bool
 |[]=>false
 |x::r=>decide ((x::r).length<=8)&&((x::r).all (edR s)&&chR x r)
theorem UR {x:Rg} (h:edR s x=true):inR s.size x=true:=by unfold edR isE at h;unfold inR loR hiR;simp only[bq,dE] at h ⊢;omega
theorem WB {K:Nat} {l:List Rg} (hl:l.length<=100000):∀(rest:List Rg) (j k:Nat) (p:Rg),l.drop j=rest->rest.length<k->0<j->l.getD (j-1) rg0=p->
 EH.l0 K l k (j:Int)=some (chR p rest)
 | [],j,k,p,hd,hk,h0,hp => by obtain⟨k,rfl⟩:=ug (k:=k);have:=A1 hd;rw[EH.l0,tt];rfl
 | x :: rest,j,k,p,hd,hk,h0,hp => by
   obtain⟨k,rfl⟩:=ug (k:=k);obtain⟨hj,hx,hd'⟩:=A0 hd rg0;rw[lC] at hk;have hw:ba .i64 ((j:Int)+1)=((j+1:Nat):Int):=by rw[w64];omega
   have hw2:ba .i64 ((j:Int)-1)=((j-1:Nat):Int):=by rw[w64];omega
   rw[EH.l0,tq];simp only[hw,hw2,tN,hx,hp,FJ,oB];rw[tw,WB hl rest (j+1) k x hd' (by omega) (by omega) (by rw[ky];exact hx),chR];by_cases h:loR x<=hiR p;·rw[iP (by simpa using h),decide_eq_false (by omega),ec]
   ·rw[iN (by simpa using h),decide_eq_true (by omega),dq]
theorem iH {l:List Rg} (hK:100000<=K) (hs:s.size<=50000) (hl:l.length<=1000):EH K l s=some (isR s l):=by
 unfold EH I6 I5;rw[UZ (by omega) (by omega),UX (by omega) (by omega) (by omega) (by omega)];cases l with
 |nil=>rfl
 | cons x r =>
   rw[iN (by rw[dE,lC];omega)];have e:=WB (K:=K) (l:=x::r) (by omega) r 1 K x rfl (by rw[lC] at hl;omega) (by omega) rfl;rw[show ((1:Nat):Int)=1 from rfl] at e;rw[isR];by_cases h:(x::r).length>8;·rw[iP (by rw[dE];omega),oB,iP rfl,decide_eq_false (by omega),ec]
   ·rw[iN (by rw[dE];omega),oB,oB,oB,oB,decide_eq_true (by omega),dq,e];cases h2:(x::r).all (edR s) with
    | true =>
      have h3:(x::r).all (inR s.size)=true:=cn.2 λy hy=>UR (cn.1 h2 y hy);rw[h3];rfl
    | false =>
      cases (x::r).all (inR s.size)<;>rfl
theorem iJ {l:List Rg} (h:isR s l=true):l.length<=8/\l≠[]/\(∀x∈l,edR s x=true)/\∀x∈l,inR s.size x=true:=by
 cases l with
 |nil=>cases h
 | cons x r =>
   rw[isR,bq,bq,dE] at h;have h2:=cn.1 h.2.1;exact⟨h.1,by simp,h2,λy hy=>UR (h2 y hy)⟩
def G6 (l:List Rg) (k:Int):Bool:=l.any λx=>decide (loR x<=k/\k<hiR x)
theorem MH {x:Rg} {l:List Rg} {k:Int}:G6 (x::l) k=(decide (loR x<=k/\k<hiR x)||G6 l k):=rfl
theorem dV {l r:List Rg} (h:l.Perm r) (k:Int):G6 l k=G6 r k:=by unfold G6;rw[jj,kk,kk];exact⟨λ⟨x,hx,h2⟩=>⟨x,h.mem_iff.1 hx,h2⟩,λ⟨x,hx,h2⟩=>⟨x,h.mem_iff.2 hx,h2⟩⟩
theorem QK {k:Int}:∀{l:List Rg} {c:Rg},(∀x∈l,loR c<=loR x)->l.Pairwise (λa b=>loR a<=loR b)->G6 (B8 c l) k=G6 (c::l) k
 |[],c,_,_=>rfl
 | x :: l,c,h1,h2 => by
   rw[dz] at h2;have hx:=h1 x (by simp);have l1:=H4 x;have l2:=H4 c;rw[B8];by_cases h:loR x>hiR c;·rw[iP h,MH,QK h2.1 h2.2];rfl
   ·rw[iN h,QK (λy hy=>by rw[KY];exact h1 y (by simp[hy])) h2.2,MH,MH,MH,KY,jQ,<-Bool.or_assoc];congr 1;rw[<-Bool.decide_or,decide_eq_decide];omega
theorem QJ:∀{l:List Rg} {c p:Rg},hiR p<loR c->(∀x∈l,loR c<=loR x)->l.Pairwise (λa b=>loR a<=loR b)->chR p (B8 c l)=true
 |[],c,p,h,_,_=>by rw[B8,chR,chR,decide_eq_true h];rfl
 | x :: l,c,p,h,h1,h2 => by
   rw[dz] at h2;rw[B8];by_cases hx:loR x>hiR c
   ·rw[iP hx,chR,decide_eq_true h,dq];exact QJ hx h2.1 h2.2
   ·rw[iN hx];exact QJ (by rw[KY];exact h) (λy hy=>by rw[KY];exact h1 y (by simp[hy])) h2.2
theorem QI {Q:Int->Prop}:∀{l:List Rg} {c:Rg},Q c.1/\Q c.2->(∀x∈l,Q x.1/\Q x.2)->∀x∈B8 c l,Q x.1/\Q x.2
 |[],c,hc,_,x,hx=>by rw[B8,df] at hx;rw[hx];exact hc
 | y :: l,c,hc,hl,x,hx => by
   have hy:=hl y (by simp);rw[B8] at hx;by_cases h:loR y>hiR c
   ·rw[iP h] at hx;rcases bv.1 hx with rfl|hx;·exact hc
    ·exact QI hy (λz hz=>hl z (by simp[hz])) x hx
   ·rw[iN h] at hx;refine QI (c:=mgR c y) ?_ (λz hz=>hl z (by simp[hz])) x hx;have hlo:Q (loR c):=by unfold loR;rcases uv c.1 c.2 with e|e;rw[Int.min_eq_left e];exact hc.1;rw[Int.min_eq_right e];exact hc.2
    have hhi:∀{z:Rg},Q z.1/\Q z.2->Q (hiR z):=λ{z} hz=>by unfold hiR;rcases uv z.1 z.2 with e|e;rw[vf e];exact hz.2;rw[wh e];exact hz.1
    have hmx:Q (max (hiR y) (hiR c)):=by rcases uv (hiR y) (hiR c) with e|e;rw[vf e];exact hhi hc;rw[wh e];exact hhi hy
    unfold mgR;split;·exact⟨hmx,hlo⟩
    ·exact⟨hlo,hmx⟩
def apR:List Rg->Bool
 |[]=>true
 |x::l=>chR x l
theorem QU {l:List Rg}:apR (jnR (AO l []))=true/\(∀k,G6 (jnR (AO l [])) k=G6 l k)/\(jnR (AO l [])).length<=l.length/\(l≠[]->jnR (AO l [])≠[])/\∀{Q:Int->Prop},(∀x∈l,Q x.1/\Q x.2)->∀x∈jnR (AO l []),Q x.1/\Q x.2:=by
 have hp:(AO l []).Perm l:=by have:=ON (X:=l) (S:=[]);rwa[cm] at this
 have hs:(AO l []).Pairwise (λa b=>loR a<=loR b):=(SP (X:=l) iy).imp WG;have hlen:=hp.length_eq;have hjl:=iQ (l:=AO l []);refine⟨?_,λk=>?_,by omega,λhne e=>?_,λ{Q} hQ x hx=>?_⟩
 ·cases hS:AO l [] with
  |nil=>rfl
  | cons x S =>
    rw[hS,dz] at hs;have h:=QJ (l:=S) (c:=x) (p:=(loR x-1,loR x-1)) (by unfold hiR;simp only;omega) hs.1 hs.2;show apR (B8 x S)=true;cases hj:B8 x S with
    |nil=>rfl
    |cons y T=>rw[hj,chR,bq] at h;exact h.2
 ·rw[<-dV hp];cases hS:AO l [] with
  |nil=>rfl
  | cons x S =>
    rw[hS,dz] at hs;exact QK hs.1 hs.2
 ·cases hS:AO l [] with
  |nil=>rw[hS] at hlen;exact hne (bx (by simpa using hlen.symm))
  | cons x S =>
    rw[hS] at e;have:∀(S:List Rg) (x:Rg),B8 x S≠[]:=by
     intro S;induction S with
     |nil=>intro x h;cases h
     |cons y S ih=>intro x h;rw[B8] at h;split at h;cases h;exact ih _ h
    exact this S x e
 ·have hQ':∀x∈AO l [],Q x.1/\Q x.2:=λy hy=>hQ y (hp.mem_iff.1 hy);cases hS:AO l [] with
  |nil=>rw[hS] at hx;cases hx
  | cons y S =>
    rw[hS] at hx hQ';exact QI (hQ' y (by simp)) (λz hz=>hQ' z (by simp[hz])) x hx
theorem U6:∀{l:List Rg} {p:Rg},chR p l=true->∀x∈l,hiR p<loR x
 |[],_,_,x,hx=>by cases hx
 | y :: l,p,h,x,hx => by
   rw[chR,bq,dE] at h;rcases bv.1 hx with rfl|hx;·exact h.1
   ·have:=U6 h.2 x hx;have:=H4 y;omega
theorem dI {l:List Rg} {p:Rg} (h:chR p l=true):apR l=true:=by
 cases l with
 |nil=>rfl
 |cons y l=>rw[chR,bq] at h;exact h.2
theorem aR:∀{l S:List Rg},apR l=true->(∀z∈S,∀x∈l,hiR z<loR x)->AO l S=S++l
 |[],S,_,_=>by simp[AO]
 | x :: l,S,h,hS => by
   have e:D6 x S=S++[x]:=by
    rcases List.eq_nil_or_concat S with rfl|⟨S',z,rfl⟩;·rfl
    ·rw[List.concat_eq_append,N4,iN];have h1:=hS z (by simp) x (by simp);have h2:=H4 z;unfold ltR;rw[dE];omega
   show AO l (D6 x S)=_;rw[e,aR (dI h) λz hz y hy=>?_,aA];·rfl
   ·rcases cf.1 hz with hz|hz;·exact hS z hz y (by simp[hy])
    ·rw[df.1 hz];exact U6 h y hy
theorem WF:∀{l:List Rg} {c:Rg},chR c l=true->B8 c l=c::l
 |[],_,_=>rfl
 | x :: l,c,h => by rw[chR,bq,dE] at h;rw[B8,tw,WF h.2]
theorem jE {l:List Rg} (h:apR l=true):jnR (AO l [])=l:=by
 rw[aR h (λz hz=>by cases hz),cd];cases l with
 |nil=>rfl
 |cons x l=>exact WF h
theorem iI {l:List Rg} (h1:l≠[]) (h2:l.length<=8) (h3:∀x∈l,edR s x=true) (h4:apR l=true):isR s l=true:=by
 cases l with
 |nil=>exact(h1 rfl).elim
 | cons x l =>
   rw[isR,decide_eq_true h2,cn.2 h3,dq,dq];exact h4
theorem jZ {l:List Rg} (h:(mkR s l).2=0):(mkR s l).1=jnR (AO l [])/\isR s (mkR s l).1=true/\l.length<=8/\(∀x∈l,inR s.size x=true)/\∀x∈l,edR s x=true:=by
 unfold mkR at h ⊢;by_cases h1:l.length=0;·rw[iP h1] at h;simp at h
 rw[iN h1] at h ⊢;by_cases h2:l.length>8;·rw[iP h2] at h;simp at h
 rw[iN h2] at h ⊢;by_cases h3:l.all (inR s.size)=false;·rw[iP h3] at h;simp at h
 rw[iN h3] at h ⊢;by_cases h4:l.all (edR s)=false;·rw[iP h4] at h;simp at h
 rw[iN h4];obtain⟨m1,m2,m3,m4,m5⟩:=QU (l:=l);have h4':=cn.1 (ta h4);refine⟨rfl,iI (m4 λe=>h1 (by rw[e];rfl)) (by simp only;omega) (λx hx=>?_) m1,by omega,cn.1 (ta h3),h4'⟩;have:=m5 (Q:=λp=>isE s p=true) (λy hy=>by have:=h4' y hy;unfold edR at this;rw[bq] at this;exact this) x hx;unfold edR;rw[this.1,this.2];rfl
theorem bW (h:usz s p≠0):¬A3 (bt s p):=by
 intro hc;unfold A3 at hc;refine h ?_;unfold usz B6;split;·rfl
 ·rw[tz,tz,tz,tz]
theorem Y4 {s:ByteArray} {p:Int} (hp:p=s.size\/¬A3 (bt s p)) (h1:p<=s.size):∀(m:Nat) (a:Int),AA s m a=true->0<=a->a<=p->(s.size:Int)-a<=m->∃m',AA s m' p=true/\(s.size:Int)-p<=m'
 |0,a,h,h0,ha,hm=>⟨0,rfl,by omega⟩
 | m+1,a,h,h0,ha,hm => by
   by_cases e:a=p;·exact⟨m+1,e▸h,by omega⟩
   ·have hlt:a<s.size:=by omega
    have hu:=CK (s:=s) (a:=a);have hu3:=hu.2.2 h0 hlt;rw[AA,iP hlt] at h;by_cases hz:usz s a=0;·rw[iP hz] at h;cases h
    ·rw[iN hz] at h;by_cases c:a+usz s a<=p;·exact Y4 hp h1 m _ h (by omega) c (by omega)
     ·exfalso;have hc:=T8 (s:=s) (i:=a.toNat) (j:=p.toNat) (by omega) (by rw[show ((a.toNat:Nat):Int)=a by omega];omega);rw[show ((p.toNat:Nat):Int)=p by omega] at hc;rcases hp with hp|hp;·omega
      ·exact hp hc
theorem qJ (h:isE s p=true):isE s (p+usz s p)=true/\(p<s.size->usz s p≠0):=by
 obtain⟨h0,h1,hv,hc⟩:=IS h;obtain⟨m,m1,m2⟩:=Y4 hc h1 s.size 0 hv (eo 0) h0 (by omega);by_cases e:p<s.size
 ·obtain⟨m,rfl⟩:=ug (k:=m);rw[AA,iP e] at m1;have hz:usz s p≠0:=λhz=>by rw[iP hz] at m1;cases m1
  rw[iN hz] at m1;have hu:=CK (s:=s) (a:=p);have hu3:=hu.2.2 h0 e;refine⟨Q9 hv (by omega) hu3 ?_,λ_=>hz⟩;by_cases e2:p+usz s p=s.size;·exact .inl e2
  ·right;obtain⟨m,rfl⟩:=ug (k:=m);rw[AA,tw] at m1;exact bW λhz'=>by rw[iP hz'] at m1;cases m1
 ·have hz:usz s p=0:=by unfold usz;rw[tw]
  rw[hz];exact⟨by rw[yi];exact h,λh'=>(e h').elim⟩
theorem VA (hv:A4 s=true) (h:0<s.size):¬A3 (bt s 0):=by
 have:isE s 0=true:=by
  by_cases hc:A3 (bt s 0)
  ·exfalso;unfold A4 at hv;obtain⟨m,hm⟩:∃k,s.size=k+1:=⟨s.size-1,by omega⟩;rw[hm,AA,tw] at hv;have hz:usz s 0≠0:=λhz=>by rw[iP hz] at hv;cases hv
   exact bW hz hc
  ·exact Q9 hv (eo 0) (by omega) (.inr hc)
 rcases (IS this).2.2.2 with e|e;·omega
 ·exact e
def bcF (s:ByteArray):Nat->Nat
 |0=>0
 |k+1=>if A3 (bt s ((k+1:Nat):Int)) then bcF s k else k+1
theorem TY {s:ByteArray}:∀{k:Nat},bcF s k<=k/\(bcF s k=0\/¬A3 (bt s (bcF s k:Int)))/\∀j,bcF s k<j->j<=k->A3 (bt s (j:Int))
 |0=>⟨bp 0,.inl rfl,λj h1 h2=>by omega⟩
 | k+1 => by
   obtain⟨h1,h2,h3⟩:=TY (s:=s) (k:=k);rw[bcF];by_cases c:A3 (bt s ((k+1:Nat):Int))
   ·rw[iP c];refine⟨by omega,h2,λj j1 j2=>?_⟩;by_cases e:j=k+1;·rw[e];exact c
    ·exact h3 j j1 (by omega)
   ·rw[iN c];exact⟨bp _,.inr c,λj j1 j2=>by omega⟩
def bkP (s:ByteArray) (p:Int):Int:=if 1<=p/\isE s p=true then (bcF s (p-1).toNat:Int) else p
theorem bR {K:Nat} {s:ByteArray} (h0:¬A3 (bt s 0)) (hs:s.size<=100000):∀(j k:Nat),j<s.size->j<k->ER.l0 K s k (j:Int)=some (bcF s j:Int)
 | 0,k,hj,hk => by
   obtain⟨k,rfl⟩:=ug (k:=k);have hb:=AU (s:=s) (i:=(0:Nat));have:=HN hb.1 hb.2;rw[ER.l0,tw,iN];·rfl
   ·intro e;rw[beq_iff_eq] at e;rw[e] at this;rw[bne_self_eq_false] at this;rw[decide_eq_false (show ¬A3 (bt s ((0:Nat):Int)) from h0)] at this;cases this
 | j+1,k,hj,hk => by
   obtain⟨k,rfl⟩:=ug (k:=k);have hb:=AU (s:=s) (i:=((j+1:Nat):Int));have h192:=HN hb.1 hb.2;have hw:ba .i64 (((j+1:Nat):Int)-1)=(j:Int):=by rw[w64];omega
   rw[ER.l0,tw,hw,bcF];by_cases c:A3 (bt s ((j+1:Nat):Int))
   ·rw[iP c,iP,bR h0 hs j k (by omega) (by omega)];rw[decide_eq_true c] at h192;simpa using h192
   ·rw[iN c,iN];rw[decide_eq_false c] at h192;intro e;rw[beq_iff_eq] at e;rw[e,bne_self_eq_false] at h192;cases h192
theorem rK (hs:s.size<=100000) (hK:s.size+10<=K):ER K s p=some (bkP s p):=by
 unfold ER bkP;rw[HI hK (by omega)];by_cases h:p<1;·rw[iP (by simpa using h),oB,iP rfl,tz]
 ·rw[iN (by simpa using h),oB,oB];cases he:isE s p with
  |false=>rw[iP (show (!false)=true from rfl),uf]
  | true =>
    obtain⟨e0,e1,e2,-⟩:=IS he;have e:=bR (K:=K) (VA e2 (by omega)) hs (p-1).toNat K (by omega) (by omega);rw[uf,iP ⟨by omega,rfl⟩,w64 (n:=p-1),<-e];congr 1;omega
def tyC (t:ByteArray) (x:Rg):El:=(loR x,(hiR x,t))
theorem bQ {K:Nat} {l:List Rg} {t:ByteArray} (hl:l.length<=10000):∀(rest:List Rg) (j n:Nat) (out:List El),l.drop j=rest->rest.length<n->out.length<=j->
 DM.l0 K l t n out (j:Int)=some (out++rest.map (tyC t))
 | [],j,n,out,hd,hn,ho => by obtain⟨n,rfl⟩:=ug (k:=n);have:=A1 hd;rw[DM.l0,tt];simp
 | x :: rest,j,n,out,hd,hn,ho => by
   obtain⟨n,rfl⟩:=ug (k:=n);obtain⟨hj,hx,hd'⟩:=A0 hd rg0;rw[lC] at hn;have hw:ba .i64 ((j:Int)+1)=((j+1:Nat):Int):=by rw[w64];omega
   rw[DM.l0,tq,tw];simp only[tN,hx,hw,FJ,oB];rw[iP (by simp only[ck];omega),bQ hl rest (j+1) n _ hd' (by omega) (by simp;omega),dj];simp[tyC]
theorem rJ {l:List Rg} (hl:l.length<=10000) (hK:l.length<K):DM K l t=some (l.map (tyC t)):=by have e:=bQ (K:=K) (t:=t) hl l 0 K [] rfl hK (by simp);rw[cd] at e;exact e
def frC (s:ByteArray) (e:Int) (x:Rg):Int:=max (if loR x=hiR x then bkP s (loR x) else loR x) e
def erC (s:ByteArray):Int->List Rg->List El
 |_,[]=>[]
 |e,x::l=>if frC s e x>=hiR x then erC s e l else (frC s e x,hiR x,cc)::erC s (hiR x) l
theorem MZ {s:ByteArray}:∀{l:List Rg} {e:Int},(erC s e l).length<=l.length
 |[],_=>bp 0
 | x :: l,e => by
   have h1:=MZ (s:=s) (l:=l) (e:=e);have h2:=MZ (s:=s) (l:=l) (e:=hiR x);rw[erC];split;·rw[lC];omega
   ·rw[lC,lC];omega
theorem PX {K:Nat} {l:List Rg} {s:ByteArray} (hs:s.size<=100000) (hK:s.size+10<=K) (hl:l.length<=10000):∀(rest:List Rg) (j n:Nat) (out:List El) (e:Int),l.drop j=rest->rest.length<n->out.length<=j->
 CS.l0 K l s n out e (j:Int)=some (out++erC s e rest)
 | [],j,n,out,e,hd,hn,ho => by obtain⟨n,rfl⟩:=ug (k:=n);have:=A1 hd;rw[CS.l0,tt];simp[erC]
 | x :: rest,j,n,out,e,hd,hn,ho => by
   obtain⟨n,rfl⟩:=ug (k:=n);obtain⟨hj,hx,hd'⟩:=A0 hd rg0;rw[lC] at hn;have hw:ba .i64 ((j:Int)+1)=((j+1:Nat):Int):=by rw[w64];omega
   rw[CS.l0,tq,tw];simp only[tN,hx,hw,FJ,rK hs hK,oB,H5];have e0:(if (loR x==hiR x)=true then some (bkP s (loR x)) else some (loR x))=some (if loR x=hiR x then bkP s (loR x) else loR x):=by
    by_cases c:loR x=hiR x;·rw[iP (by simpa using c),iP c]
    ·rw[iN (by simpa using c),iN c]
   rw[e0,oB,show max (if loR x=hiR x then bkP s (loR x) else loR x) e=frC s e x from rfl,erC];by_cases c:frC s e x>=hiR x;·rw[iP (by simpa using c),iP c,PX hs hK hl rest (j+1) n out e hd' (by omega) (by omega)]
   ·rw[iN (by simpa using c),iN c,iP (by simp only[ck];omega),PX hs hK hl rest (j+1) n _ (hiR x) hd' (by omega) (by simp;omega)];simp
theorem gV {l:List Rg} (hK:100000<=K) (hs:s.size<=50000) (hl:l.length<=1000):CS K l s=some (if isR s l=true then erC s 0 l else []):=by
 unfold CS;rw[iH hK hs hl,oB];cases h:isR s l with
 |false=>rfl
 | true =>
   have e:=PX (K:=K) (l:=l) (s:=s) (by omega) (by omega) (by omega) l 0 K [] 0 rfl (by omega) (by simp);rw[show ((0:Nat):Int)=0 from rfl,cd] at e;rw[uf,e,iP rfl]
theorem rI (h:j<(txt s).length) (hs:j<s.size):(txt s)[j]=(s[j].toNat:Int):=by
 have:∀(l:List Int) (h:j<l.length),l=s.data.toList.map (λb=>(b.toNat:Int))->l[j]=(s[j].toNat:Int):=by intro l h e;subst e;rw[List.getElem_map,Array.getElem_toList];rfl
 exact this _ h rfl
theorem IG (h:j<(txt s).length):bt s (j:Int)=(txt s)[j]:=by
 have hs:j<s.size:=by rw[<-DJ];exact h
 rw[rI h hs];unfold bt;simp[hs]
theorem T6 {a b:ByteArray}:txt (a++b)=txt a++txt b:=by unfold txt;rw[ByteArray.data_append];simp
theorem GS {a b:ByteArray} (h:i<a.size):bt (a++b) (i:Int)=bt a (i:Int):=by
 have h1:i<(txt a).length:=by rw[DJ];exact h
 have h2:i<(txt (a++b)).length:=by rw[DJ,DK];omega
 rw[IG h1,IG h2];have:∀(l:List Int) (hl:i<l.length),l=txt a++txt b->l[i]=(txt a)[i]:=by intro l hl e;subst e;rw[List.getElem_append_left]
 exact this _ h2 T6
theorem K7 {a b:ByteArray}:bt (a++b) ((a.size+i:Nat):Int)=bt b (i:Int):=by
 by_cases h:i<b.size
 ·have h1:i<(txt b).length:=by rw[DJ];exact h
  have h2:a.size+i<(txt (a++b)).length:=by rw[DJ,DK];omega
  rw[IG h1,IG h2];have:∀(l:List Int) (hl:a.size+i<l.length),l=txt a++txt b->l[a.size+i]=(txt b)[i]:=by intro l hl e;subst e;rw[List.getElem_append_right (by rw[DJ];omega)];congr 1;rw[DJ];omega
  exact this _ h2 T6
 ·have h1:¬i<b.size:=h;have h2:¬a.size+i<(a++b).size:=by rw[DK];omega
  unfold bt;rw[tN,tN];simp[h1,h2]
end Go.Pal
