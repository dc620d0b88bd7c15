/- Each end of a region goes, at an edit or a group taken back, ahead of the atom that it stood ahead of, or the next one that is kept. -/
import Derived.Test.YtidbfmbocikkgaaGreatPureWholeMarksa
namespace Go.Pal
open Go
set_option linter.unusedVariables false
set_option linter.unusedSimpArgs false
set_option linter.unnecessarySimpa false
theorem LV {K:Nat} {l:List Rg} {s:ByteArray} (hs:s.size≤100000) (hK:s.size+10≤K) (hl:l.length≤10000):∀ (rest:List Rg) (j n:Nat) (out:List El) (e:Int),l.drop j=rest→rest.length<n→out.length≤j→
 BI.l0 K l s n out e (j:Int)=some (out++erC s e rest)
 | [],j,n,out,e,hd,hn,ho => by
   obtain ⟨n,rfl⟩:∃ m,n=m+1:=⟨n - 1,by omega⟩
   have:=A6 hd
   rw [BI.l0,if_neg (by simp; omega)]; simp [erC]
 | x :: rest,j,n,out,e,hd,hn,ho => by
   obtain ⟨n,rfl⟩:∃ m,n=m+1:=⟨n - 1,by omega⟩
   obtain ⟨hj,hx,hd'⟩:=A4 hd rg0
   rw [List.length_cons] at hn
   have hw:IntKind.wrap .i64 ((j:Int)+1)=((j+1:Nat):Int):=by rw [w64 (by omega) (by omega)]; omega
   rw [BI.l0,if_pos (by simp; omega),if_pos (by omega)]
   simp only [Int.toNat_natCast,hx,hw,DJ,eK hs hK,Option.bind_some,K7]
   have e0:(if (loR x==hiR x)=true then some (bkP s (loR x)) else some (loR x))=some (if loR x=hiR x then bkP s (loR x) else loR x):=by
    by_cases c:loR x=hiR x
    ·rw [if_pos (by simpa using c),if_pos c]
    ·rw [if_neg (by simpa using c),if_neg c]
   rw [e0,Option.bind_some,show max (if loR x=hiR x then bkP s (loR x) else loR x) e=frC s e x from rfl,erC]
   by_cases c:frC s e x≥hiR x
   ·rw [if_pos (by simpa using c),if_pos c,LV hs hK hl rest (j+1) n out e hd' (by omega) (by omega)]
   ·rw [if_neg (by simpa using c),if_neg c,if_pos (by simp only [List.length_singleton]; omega),LV hs hK hl rest (j+1) n _ (hiR x) hd' (by omega) (by simp; omega)]
    simp
theorem XD {K:Nat} {l:List Rg} {s:ByteArray} (hK:100000≤K) (hs:s.size≤50000) (hl:l.length≤1000):BI K l s=some (if isR s l=true then erC s 0 l else []):=by
 unfold BI
 rw [Y1 hK hs hl,Option.bind_some]
 cases h:isR s l with
 | false => rfl
 | true =>
   have e:=LV (K:=K) (l:=l) (s:=s) (by omega) (by omega) (by omega) l 0 K [] 0 rfl (by omega) (by simp)
   rw [show ((0:Nat):Int)=0 from rfl,List.nil_append] at e
   rw [if_neg (by simp),e,if_pos rfl]
theorem eG {s:ByteArray} {j:Nat} (h:j<(txt s).length) (hs:j<s.size):(txt s)[j]=(s[j].toNat:Int):=by
 have:∀ (l:List Int) (h:j<l.length),l=s.data.toList.map (fun b=>(b.toNat:Int))→l[j]=(s[j].toNat:Int):=by
  intro l h e
  subst e
  rw [List.getElem_map,Array.getElem_toList]
  rfl
 exact this _ h rfl
theorem J2 {s:ByteArray} {j:Nat} (h:j<(txt s).length):bt s (j:Int)=(txt s)[j]:=by
 have hs:j<s.size:=by rw [← F1]; exact h
 rw [eG h hs]
 unfold bt
 simp [hs]
theorem U4 {a b:ByteArray}:txt (a++b)=txt a++txt b:=by
 unfold txt
 rw [ByteArray.data_append]
 simp
theorem EM {a b:ByteArray} {i:Nat} (h:i<a.size):bt (a++b) (i:Int)=bt a (i:Int):=by
 have h1:i<(txt a).length:=by rw [F1]; exact h
 have h2:i<(txt (a++b)).length:=by rw [F1,BV]; omega
 rw [J2 h1,J2 h2]
 have:∀ (l:List Int) (hl:i<l.length),l=txt a++txt b→l[i]=(txt a)[i]:=by
  intro l hl e; subst e; rw [List.getElem_append_left]
 exact this _ h2 U4
theorem GX {a b:ByteArray} {i:Nat}:bt (a++b) ((a.size+i:Nat):Int)=bt b (i:Int):=by
 by_cases h:i<b.size
 ·have h1:i<(txt b).length:=by rw [F1]; exact h
  have h2:a.size+i<(txt (a++b)).length:=by rw [F1,BV]; omega
  rw [J2 h1,J2 h2]
  have:∀ (l:List Int) (hl:a.size+i<l.length),l=txt a++txt b→l[a.size+i]=(txt b)[i]:=by
   intro l hl e
   subst e
   rw [List.getElem_append_right (by rw [F1]; omega)]
   congr 1
   rw [F1]; omega
  exact this _ h2 U4
 ·have h1:¬ i<b.size:=h
  have h2:¬ a.size+i<(a++b).size:=by rw [BV]; omega
  unfold bt
  rw [Int.toNat_natCast,Int.toNat_natCast]
  simp [h1,h2]
theorem eW {n n' c d e f d' e' f':Int} (hn:n≤n') (hd:2≤n→d'=d) (he:3≤n→e'=e) (hf:4≤n→f'=f) (h:AL n c d e f≠0):AL n' c d' e' f'=AL n c d e f:=by
 unfold AL at *
 split
 ·rfl
 ·rename_i h1
  rw [if_neg h1] at h
  split
  ·rename_i h2
   rw [if_pos h2] at h
   by_cases c2:2≤n∧A0 d∧128≤c % 32 * 64+d % 64
   ·rw [hd c2.1,if_pos c2,if_pos ⟨by omega,c2.2⟩]
   ·rw [if_neg c2] at h; exact absurd rfl h
  ·rename_i h2
   rw [if_neg h2] at h
   split
   ·rename_i h3
    rw [if_pos h3] at h
    by_cases c3:3≤n∧A0 d∧A0 e∧2048≤(c % 16 * 64+d % 64) * 64+e % 64∧¬ (55296≤(c % 16 * 64+d % 64) * 64+e % 64∧(c % 16 * 64+d % 64) * 64+e % 64<57344)
    ·rw [hd (by omega),he c3.1,if_pos c3,if_pos ⟨by omega,c3.2⟩]
    ·rw [if_neg c3] at h; exact absurd rfl h
   ·rename_i h3
    rw [if_neg h3] at h
    split
    ·rename_i h4
     rw [if_pos h4] at h
     by_cases c4:4≤n∧A0 d∧A0 e∧A0 f∧65536≤((c % 8 * 64+d % 64) * 64+e % 64) * 64+f % 64∧((c % 8 * 64+d % 64) * 64+e % 64) * 64+f % 64≤1114111
     ·rw [hd (by omega),he (by omega),hf c4.1,if_pos c4,if_pos ⟨by omega,c4.2⟩]
     ·rw [if_neg c4] at h; exact absurd rfl h
    ·first
     | rfl
     | (rename_i h4
        rw [if_neg h4] at h
        exact absurd rfl h)
theorem UC {a b:ByteArray} {i:Nat} (h:usz a (i:Int)≠0):usz (a++b) (i:Int)=usz a (i:Int):=by
 unfold usz at *
 by_cases h1:(i:Int)<0∨(i:Int)≥a.size
 ·rw [if_pos h1] at h; exact absurd rfl h
 ·have hb:=BV (a:=a) (b:=b)
  rw [if_neg h1] at h ⊢
  rw [if_neg (by omega),EM (by omega)]
  refine eW (by omega) (fun hh=>?_) (fun hh=>?_) (fun hh=>?_) h
  ·have e:(i:Int)+1=((i+1:Nat):Int):=by omega
   rw [e,EM (by omega)]
  ·have e:(i:Int)+2=((i+2:Nat):Int):=by omega
   rw [e,EM (by omega)]
  ·have e:(i:Int)+3=((i+3:Nat):Int):=by omega
   rw [e,EM (by omega)]
theorem UD {a b:ByteArray} {i:Nat}:usz (a++b) ((a.size+i:Nat):Int)=usz b (i:Int):=by
 unfold usz
 have hb:=BV (a:=a) (b:=b)
 by_cases h1:(i:Int)<0∨(i:Int)≥b.size
 ·rw [if_pos h1,if_pos (by omega)]
 ·rw [if_neg h1,if_neg (by omega),GX]
  have e1:((a.size+i:Nat):Int)+1=((a.size+(i+1):Nat):Int):=by omega
  have e2:((a.size+i:Nat):Int)+2=((a.size+(i+2):Nat):Int):=by omega
  have e3:((a.size+i:Nat):Int)+3=((a.size+(i+3):Nat):Int):=by omega
  rw [e1,e2,e3,GX,GX,GX,show ((a++b).size:Int) - ((a.size+i:Nat):Int)=(b.size:Int) - i by omega]
  rfl
theorem NV {s:ByteArray}:∀ (d m m':Nat) (a:Nat),s.size - a≤d→d≤m→d≤m'→A3 s m (a:Int)=A3 s m' (a:Int):=by
 intro d
 induction d with
 | zero =>
   intro m m' a h hm hm'
   cases m with
   | zero => cases m' with
     | zero => rfl
     | succ m' => rw [A3,A3,if_neg (by omega)]
   | succ m => cases m' with
     | zero => rw [A3,A3,if_neg (by omega)]
     | succ m' => rw [A3,A3,if_neg (by omega),if_neg (by omega)]
 | succ d ih =>
   intro m m' a h hm hm'
   obtain ⟨m,rfl⟩:∃ l,m=l+1:=⟨m - 1,by omega⟩
   obtain ⟨m',rfl⟩:∃ l,m'=l+1:=⟨m' - 1,by omega⟩
   have hu:=CC (s:=s) (a:=a)
   rw [A3,A3]
   split
   ·split
    ·rfl
    ·obtain ⟨n,hn⟩:∃ n:Nat,(a:Int)+usz s a=n:=⟨((a:Int)+usz s a).toNat,by omega⟩
     rw [hn]
     exact ih m m' n (by omega) (by omega) (by omega)
   ·rfl
theorem fI {a b:ByteArray} (hb:A8 b=true):∀ (d i m:Nat),a.size - i=d→i≤a.size→d+b.size≤m→A3 a d (i:Int)=true→A3 (a++b) m (i:Int)=true:=by
 have hsz:=BV (a:=a) (b:=b)
 have right:∀ (e j m:Nat),b.size - j≤e→j≤b.size→e≤m→A3 b e (j:Int)=true→A3 (a++b) m ((a.size+j:Nat):Int)=true:=by
  intro e
  induction e with
  | zero =>
    intro j m h1 h2 h3 h4
    cases m with
    | zero => rfl
    | succ m => rw [A3,if_neg (by omega)]
  | succ e ih =>
    intro j m h1 h2 h3 h4
    obtain ⟨m,rfl⟩:∃ l,m=l+1:=⟨m - 1,by omega⟩
    have hu:=CC (s:=b) (a:=j)
    rw [A3] at h4 ⊢
    by_cases hj:(j:Int)<b.size
    ·have hu3:=hu.2.2 (by omega) hj
     rw [if_pos hj] at h4
     rw [if_pos (by omega),UD]
     by_cases hz:usz b j=0
     ·rw [if_pos hz] at h4; cases h4
     ·rw [if_neg hz] at h4 ⊢
      obtain ⟨n,hn⟩:∃ n:Nat,usz b j=n:=⟨(usz b j).toNat,by omega⟩
      rw [hn] at h4 hu3 hz ⊢
      have e1:((a.size+j:Nat):Int)+(n:Int)=((a.size+(j+n):Nat):Int):=by omega
      have e2:(j:Int)+(n:Int)=((j+n:Nat):Int):=by omega
      rw [e1]
      rw [e2] at h4
      exact ih (j+n) m (by omega) (by omega) (by omega) h4
    ·rw [if_neg (by omega)]
 intro d
 induction d using Nat.strongRecOn with
 | _ d ih =>
   intro i m h1 h2 h3 h4
   by_cases hi:i=a.size
   ·subst hi
    have:=right b.size 0 m (by omega) (by omega) (by omega) hb
    simpa using this
   ·obtain ⟨d,rfl⟩:∃ l,d=l+1:=⟨d - 1,by omega⟩
    obtain ⟨m,rfl⟩:∃ l,m=l+1:=⟨m - 1,by omega⟩
    have hu:=CC (s:=a) (a:=i)
    have hu3:=hu.2.2 (by omega) (by omega)
    rw [A3,if_pos (by omega)] at h4
    rw [A3,if_pos (by omega)]
    by_cases hz:usz a i=0
    ·rw [if_pos hz] at h4; cases h4
    ·rw [if_neg hz] at h4
     rw [UC hz,if_neg hz]
     obtain ⟨n,hn⟩:∃ n:Nat,usz a i=n:=⟨(usz a i).toNat,by omega⟩
     rw [hn] at h4 hu3 hz ⊢
     have e2:(i:Int)+(n:Int)=((i+n:Nat):Int):=by omega
     rw [e2] at h4 ⊢
     refine ih (a.size - (i+n)) (by omega) (i+n) m rfl (by omega) (by omega) ?_
     rw [NV (a.size - (i+n)) (a.size - (i+n)) d (i+n) (by omega) (by omega) (by omega)]
     exact h4
theorem fM {a b:ByteArray} (ha:A8 a=true) (hb:A8 b=true):A8 (a++b)=true:=by
 unfold A8
 have h:=fI hb a.size 0 (a++b).size (by omega) (by omega) (by rw [BV]; omega) ha
 exact h
theorem eT {n n' c d e f d' e' f' v:Int} (h:AL n' c d' e' f'=v) (hv:v≠0) (hvn:v≤n) (hd:2≤v→d=d') (he:3≤v→e=e') (hf:4≤v→f=f'):AL n c d e f=v:=by
 unfold AL at h ⊢
 split
 ·rename_i h1; rw [if_pos h1] at h; exact h
 ·rename_i h1
  rw [if_neg h1] at h
  split
  ·rename_i h2
   rw [if_pos h2] at h
   by_cases c2:2≤n'∧A0 d'∧128≤c % 32 * 64+d' % 64
   ·rw [if_pos c2] at h
    rw [hd (by omega),if_pos ⟨by omega,c2.2⟩,h]
   ·rw [if_neg c2] at h; exact absurd h.symm hv
  ·rename_i h2
   rw [if_neg h2] at h
   split
   ·rename_i h3
    rw [if_pos h3] at h
    by_cases c3:3≤n'∧A0 d'∧A0 e'∧2048≤(c % 16 * 64+d' % 64) * 64+e' % 64∧¬ (55296≤(c % 16 * 64+d' % 64) * 64+e' % 64∧(c % 16 * 64+d' % 64) * 64+e' % 64<57344)
    ·rw [if_pos c3] at h
     rw [hd (by omega),he (by omega),if_pos ⟨by omega,c3.2⟩,h]
    ·rw [if_neg c3] at h; exact absurd h.symm hv
   ·rename_i h3
    rw [if_neg h3] at h
    split
    ·rename_i h4
     rw [if_pos h4] at h
     by_cases c4:4≤n'∧A0 d'∧A0 e'∧A0 f'∧65536≤((c % 8 * 64+d' % 64) * 64+e' % 64) * 64+f' % 64∧((c % 8 * 64+d' % 64) * 64+e' % 64) * 64+f' % 64≤1114111
     ·rw [if_pos c4] at h
      rw [hd (by omega),he (by omega),hf (by omega),if_pos ⟨by omega,c4.2⟩,h]
     ·rw [if_neg c4] at h; exact absurd h.symm hv
    ·rename_i h4
     rw [if_neg h4] at h; exact h
theorem eY {a b:ByteArray} {i:Nat} (hz:usz (a++b) (i:Int)≠0) (h:(i:Int)+usz (a++b) i≤a.size):usz a (i:Int)=usz (a++b) (i:Int):=by
 have hu:=CC (s:=a++b) (a:=i)
 have hb:=BV (a:=a) (b:=b)
 have hia:(i:Int)<a.size:=by omega
 generalize hv:usz (a++b) (i:Int)=v at *
 unfold usz at hv ⊢
 rw [if_neg (by omega)] at hv ⊢
 rw [EM (by omega)] at hv
 refine eT hv hz (by omega) (fun h2=>?_) (fun h3=>?_) (fun h4=>?_)
 ·rw [show (i:Int)+1=((i+1:Nat):Int) by omega,EM (by omega)]
 ·rw [show (i:Int)+2=((i+2:Nat):Int) by omega,EM (by omega)]
 ·rw [show (i:Int)+3=((i+3:Nat):Int) by omega,EM (by omega)]
theorem fK {a b:ByteArray} (he:b.size=0∨¬ A0 (bt b 0)):∀ (d i m:Nat),a.size - i≤d→i≤a.size→(a++b).size - i≤m→A3 (a++b) m (i:Int)=true→A3 a d (i:Int)=true:=by
 have hsz:=BV (a:=a) (b:=b)
 intro d
 induction d with
 | zero => intro i m _ _ _ _; rfl
 | succ d ih =>
   intro i m h1 h2 h3 h4
   rw [A3]
   by_cases hi:(i:Int)<a.size
   ·obtain ⟨m,rfl⟩:∃ l,m=l+1:=⟨m - 1,by omega⟩
    have hu:=CC (s:=a++b) (a:=i)
    have hu3:=hu.2.2 (by omega) (by omega)
    rw [A3,if_pos (by omega)] at h4
    by_cases hz:usz (a++b) i=0
    ·rw [if_pos hz] at h4; cases h4
    ·rw [if_neg hz] at h4
     have hle:(i:Int)+usz (a++b) i≤a.size:=by
      rcases Int.lt_or_le (a.size:Int) ((i:Int)+usz (a++b) i) with h5 | h5
      ·exfalso
       have hc:=NR (s:=a++b) (i:=i) (j:=a.size) (by omega) h5
       rcases he with he | he
       ·omega
       ·have:=GX (a:=a) (b:=b) (i:=0)
        rw [Nat.add_zero] at this
        rw [this] at hc
        exact he hc
      ·exact h5
     rw [if_pos hi,eY hz hle,if_neg hz]
     obtain ⟨n,hn⟩:∃ n:Nat,usz (a++b) i=n:=⟨(usz (a++b) i).toNat,by omega⟩
     rw [hn] at h4 hu3 hz hle ⊢
     have e2:(i:Int)+(n:Int)=((i+n:Nat):Int):=by omega
     rw [e2] at h4 ⊢
     exact ih (i+n) m (by omega) (by omega) (by omega) h4
   ·rw [if_neg hi]
theorem fJ {a b:ByteArray}:∀ (d i m:Nat),a.size - i≤d→i≤a.size→(a++b).size - i≤m→A3 a d (i:Int)=true→A3 (a++b) m (i:Int)=true→A3 (a++b) (a++b).size (a.size:Int)=true:=by
 have hsz:=BV (a:=a) (b:=b)
 intro d
 induction d with
 | zero =>
   intro i m h1 h2 h3 _ h4
   rw [show i=a.size by omega] at h4 h3
   rw [← NV ((a++b).size - a.size) m (a++b).size a.size (Nat.le_refl _) h3 (by omega)]
   exact h4
 | succ d ih =>
   intro i m h1 h2 h3 h4 h5
   by_cases hi:i=a.size
   ·subst hi
    rw [← NV ((a++b).size - a.size) m (a++b).size a.size (Nat.le_refl _) h3 (by omega)]
    exact h5
   ·obtain ⟨m,rfl⟩:∃ l,m=l+1:=⟨m - 1,by omega⟩
    have hu:=CC (s:=a) (a:=i)
    have hu3:=hu.2.2 (by omega) (by omega)
    rw [A3,if_pos (by omega)] at h4 h5
    by_cases hz:usz a i=0
    ·rw [if_pos hz] at h4; cases h4
    ·rw [if_neg hz] at h4
     rw [UC hz,if_neg hz] at h5
     obtain ⟨n,hn⟩:∃ n:Nat,usz a i=n:=⟨(usz a i).toNat,by omega⟩
     rw [hn] at h4 h5 hu3 hz
     have e2:(i:Int)+(n:Int)=((i+n:Nat):Int):=by omega
     rw [e2] at h4 h5
     exact ih (i+n) m (by omega) (by omega) (by omega) h4 h5
theorem fL {a b:ByteArray}:∀ (d j m:Nat),b.size - j≤d→j≤b.size→b.size - j≤m→A3 (a++b) m ((a.size+j:Nat):Int)=true→A3 b d (j:Int)=true:=by
 have hsz:=BV (a:=a) (b:=b)
 intro d
 induction d with
 | zero => intro j m _ _ _ _; rfl
 | succ d ih =>
   intro j m h1 h2 h3 h4
   rw [A3]
   by_cases hj:(j:Int)<b.size
   ·obtain ⟨m,rfl⟩:∃ l,m=l+1:=⟨m - 1,by omega⟩
    have hu:=CC (s:=b) (a:=j)
    have hu3:=hu.2.2 (by omega) hj
    rw [A3,if_pos (by omega),UD] at h4
    rw [if_pos hj]
    by_cases hz:usz b j=0
    ·rw [if_pos hz] at h4; cases h4
    ·rw [if_neg hz] at h4 ⊢
     obtain ⟨n,hn⟩:∃ n:Nat,usz b j=n:=⟨(usz b j).toNat,by omega⟩
     rw [hn] at h4 hu3 hz ⊢
     have e1:((a.size+j:Nat):Int)+(n:Int)=((a.size+(j+n):Nat):Int):=by omega
     have e2:(j:Int)+(n:Int)=((j+n:Nat):Int):=by omega
     rw [e1] at h4
     rw [e2]
     exact ih (j+n) m (by omega) (by omega) (by omega) h4
   ·rw [if_neg hj]
theorem fP {a b:ByteArray} (h:A8 (a++b)=true) (ha:A8 a=true):A8 b=true:=by
 unfold A8 at h ha ⊢
 have hsz:=BV (a:=a) (b:=b)
 have h1:=fJ (a:=a) (b:=b) a.size 0 (a++b).size (by omega) (by omega) (by omega) ha h
 exact fL (a:=a) (b:=b) b.size 0 (a++b).size (by omega) (by omega) (by omega) (by rw [Nat.add_zero]; exact h1)
theorem fN {a b:ByteArray} (h:A8 (a++b)=true) (he:b.size=0∨¬ A0 (bt b 0)):A8 a=true:=by
 unfold A8 at h ⊢
 exact fK (a:=a) (b:=b) he a.size 0 (a++b).size (by omega) (by omega) (by omega) h
theorem ZD {a b:List Int}:ofBytes (a++b)=ofBytes a++ofBytes b:=by
 apply ByteArray.ext
 rw [ByteArray.data_append]
 unfold ofBytes
 simp
def BF (ps:List ByteArray):List Int:=(ps.map bytesL).flatten
theorem OI {a b:List ByteArray}:BF (a++b)=BF a++BF b:=by unfold BF; rw [List.map_append,List.flatten_append]
theorem J6 {a:ByteArray} {b:List ByteArray}:BF (a :: b)=bytesL a++BF b:=rfl
theorem Q0:∀ {ps:List ByteArray},inB (BF ps)=true
 | [] => rfl
 | p :: ps => by rw [J6,PY,PZ,Q0]; rfl
theorem SP {K:Nat} {ps:List ByteArray}:∀ (r:List ByteArray) (j k:Nat) (x:List Int),ps.drop j=r→ps.length≤100000→r.length<k→(x++BF r).length≤1000000→C8.l0 K ps k x (j:Int)=some (x++BF r)
 | [],j,k+1,x,h,_,_,_ => by
   have:=A6 h
   rw [C8.l0,if_neg (by simp; omega)]
   simp [BF]
 | p :: r,j,k+1,x,h,hn,hk,hx => by
   obtain ⟨h1,h2,h3⟩:=A4 h ByteArray.empty
   rw [J6,← List.append_assoc] at hx ⊢
   have hx2:(x++bytesL p).length≤1000000:=by rw [List.length_append] at hx; omega
   rw [List.length_append] at hx2
   rw [C8.l0,if_pos (by simp; omega),if_pos ⟨by omega,by omega⟩,Int.toNat_natCast,h2,GQ,II,Option.bind_some,if_pos (by omega),Option.bind_some,up1 (by omega)]
   exact SP r (j+1) k _ h3 hn (by simpa using hk) hx
def Tr (h:Nat) (q:Option Tree) (ps:List ByteArray):Prop:=∃ t,q=some t∧t.n=((ps.length:Nat):Int)∧∀ K,100000≤K→∀ k,h<k→∀ out,out.length+ps.length≤1000000→AW.f K k (some t) out=some (out++ps)
def Rw (h:Nat):List (Option Tree)→List ByteArray→Prop
 | [],l => l=[]
 | q :: r,l => ∃ a b,l=a ++ b ∧ Tr h q a ∧ Rw h r b
theorem Rw.snoc {h:Nat} {q:Option Tree} {b:List ByteArray}:∀ {r:List (Option Tree)} {a:List ByteArray},Rw h r a→Tr h q b→Rw h (r++[q]) (a++b)
 | [],a,ha,hq => by
   obtain rfl:a=[]:=ha
   exact ⟨b,[],by simp,hq,rfl⟩
 | x :: r,a,ha,hq => by
   obtain ⟨a1,a2,rfl,h1,h2⟩:=ha
   exact ⟨a1,a2++b,by simp,h1,Rw.snoc h2 hq⟩
theorem Rw.cut {h:Nat}:∀ {l:List (Option Tree)} {ps:List ByteArray} (i:Nat),Rw h l ps→∃ a b,ps=a++b∧Rw h (l.take i) a∧Rw h (l.drop i) b
 | l,ps,0,hr => ⟨[],ps,rfl,by simp [Rw],by simpa using hr⟩
 | [],ps,i+1,hr => ⟨[],ps,rfl,by simp [Rw],by simpa using hr⟩
 | q :: l,ps,i+1,hr => by
   obtain ⟨a,b,rfl,h1,h2⟩:=hr
   obtain ⟨c,d,rfl,h3,h4⟩:=h2.cut i
   exact ⟨a++c,d,by simp,⟨a,c,rfl,h1,h3⟩,h4⟩
theorem O9 {K:Nat} {h k0:Nat} {x:Option Tree} {l:List (Option Tree)} (hK:100000≤K) (hx:Tree.kids (Option.getD x (Tree.mk [] [] 0 0 0 0 0 0))=l) (hk0:h<k0) (hl:l.length≤50000):∀ (r:List (Option Tree)) (ps:List ByteArray) (j k:Nat) (out:List ByteArray),l.drop j=r→Rw h r ps→r.length<k→out.length+ps.length≤1000000→
 AW.l0 K (AW.f K k0) x k out (j:Int)=some (out++ps)
 | [],ps,j,k+1,out,hd,hr,_,_ => by
   have:=A6 hd
   obtain rfl:ps=[]:=hr
   rw [AW.l0,hx,if_neg (by simp; omega),List.append_nil]
 | q :: r,ps,j,k+1,out,hd,hr,hk,ho => by
   obtain ⟨h1,h2,h3⟩:=A4 hd (none:Option Tree)
   obtain ⟨a,b,rfl,⟨t,rfl,-,ht⟩,h5⟩:=hr
   rw [List.length_append] at ho
   rw [AW.l0,hx,if_pos (by simp; omega),if_pos ⟨by omega,by omega⟩,Int.toNat_natCast,h2,ht K hK k0 hk0 out (by omega),Option.bind_some,up1 (by omega),O9 hK hx hk0 hl r b (j+1) k (out++a) h3 h5 (by simpa using hk) (by rw [List.length_append]; omega),List.append_assoc]
theorem dT {l:List ByteArray} {d a b c e:Int}:Tr 0 (some (Tree.mk [] l ((l.length:Nat):Int) d a b c e)) l:=by
 refine ⟨_,rfl,rfl,fun K hK k hk out ho=>?_⟩
 obtain ⟨k,rfl⟩:∃ m,k=m+1:=⟨k - 1,by omega⟩
 have e1:Tree.items (Option.getD (some (Tree.mk [] l ((l.length:Nat):Int) d a b c e)) (Tree.mk [] [] 0 0 0 0 0 0))=l:=rfl
 rw [AW.f,e1,if_pos ⟨rfl,by omega⟩]
 obtain ⟨m,rfl⟩:∃ m,K=m+1:=⟨K - 1,by omega⟩
 rw [AW.l0,if_neg]
 show ¬ decide ((0:Int)<(([]:List (Option Tree)).length:Nat))=true
 simp
theorem dS {h:Nat} {l:List (Option Tree)} {ps:List ByteArray} {n d a b c e:Int} (hr:Rw h l ps) (hl:l.length≤50000) (hn:n=((ps.length:Nat):Int)):Tr (h+1) (some (Tree.mk l [] n d a b c e)) ps:=by
 refine ⟨_,rfl,hn,fun K hK k hk out ho=>?_⟩
 obtain ⟨k,rfl⟩:∃ m,k=m+1:=⟨k - 1,by omega⟩
 have e1:Tree.items (Option.getD (some (Tree.mk l [] n d a b c e)) (Tree.mk [] [] 0 0 0 0 0 0))=[]:=rfl
 rw [AW.f,e1,if_pos ⟨rfl,by simp; omega⟩,List.append_nil]
 exact O9 (l:=l) hK rfl (by omega) hl l ps 0 K out rfl hr (by omega) ho
theorem eN {K:Nat} {r:Int}:∃ n,H3 K r=some n:=by
 unfold H3
 split <;> exact ⟨_,rfl⟩
theorem VC {K:Nat} {r:Int}:∃ n,H2 K r=some n:=by
 obtain ⟨n,hn⟩:=eN (K:=K) (r:=r)
 unfold H2
 rw [hn,Option.bind_some]
 split <;> exact ⟨_,rfl⟩
theorem OM {K:Nat} {s:ByteArray} (hv:s.size≤100000):∀ (m t k:Nat) (a b c d:Int),A3 s m t=true→s.size≤t+m→m<k→∃ r,DG.l0 K s k a b c d t=some r
 | m,t,0,a,b,c,d,_,_,hk => by omega
 | m,t,k+1,a,b,c,d,hu,hm,hk => by
   rw [DG.l0]
   by_cases ht:t<s.size
   ·obtain ⟨m,rfl⟩:∃ x,m=x+1:=⟨m - 1,by omega⟩
    have hz:usz s t≠0:=fun hz=>by
     rw [A3,if_pos (by omega),if_pos hz] at hu; cases hu
    have hu2:A3 s m (t+usz s t)=true:=by
     rw [A3,if_pos (by omega),if_neg hz] at hu; exact hu
    obtain ⟨c',z,h1,h2,h3,_⟩:=LG ht hz
    obtain ⟨n,hn⟩:=VC (K:=K) (r:=(((Utf8.decode s t).1:Nat):Int))
    rw [if_pos (by simpa using ht),hn,Option.bind_some,F9,Option.bind_some]
    rw [h1]
    exact OM hv m (t+z) k _ _ _ _ (by rw [show ((t+z:Nat):Int)=t+usz s t by omega]; exact hu2) (by omega) (by omega)
   ·rw [if_neg (by simpa using ht)]
    exact ⟨_,rfl⟩
theorem dD {K:Nat} {p:ByteArray} (hK:100000≤K) (hv:A8 p=true) (hp:p.size≤64):∃ r,IA K p=some r:=by
 obtain ⟨r,hr⟩:=OM (K:=K) (s:=p) (by omega) p.size 0 K 0 0 0 0 hv (by omega) (by omega)
 rw [IA,DG,LB hK (by omega) hv,Option.bind_some,hr,Option.bind_some]
 exact ⟨_,rfl⟩
def Pc (l:List ByteArray):Prop:=∀ p∈l,A8 p=true∧p.size≤64
theorem QW {K:Nat} {l:List ByteArray} (hK:100000≤K) (hl:l.length≤50000) (hp:Pc l):∀ (r:List ByteArray) (j k:Nat) (a b c d:Int),l.drop j=r→r.length<k→∃ q,D9.l0 K l k a b c d (j:Int)=some q∧Tr 0 q l
 | [],j,k+1,a,b,c,d,h,_ => by
   have:=A6 h
   rw [D9.l0,if_neg (by simp; omega)]
   exact ⟨_,rfl,dT⟩
 | p :: r,j,k+1,a,b,c,d,h,hk => by
   obtain ⟨h1,h2,h3⟩:=A4 h ByteArray.empty
   have hpm:=hp p (mdr h)
   obtain ⟨s,hs⟩:=dD hK hpm.1 hpm.2
   rw [D9.l0,if_pos (by simp; omega),if_pos ⟨by omega,by omega⟩,Int.toNat_natCast,h2,hs,Option.bind_some,GG,F9,Option.bind_some,Option.bind_some,up1 (by omega)]
   exact QW hK hl hp r (j+1) k _ _ _ _ h3 (by simpa using hk)
theorem YD {K:Nat} {l:List ByteArray} (hK:100000≤K) (hl:l.length≤50000) (hp:Pc l):∃ q,D9 K l=some q∧Tr 0 q l:=
 QW hK hl hp l 0 K 0 0 0 0 rfl (by omega)
theorem SO {h:Nat}:∀ {l:List (Option Tree)} {ps:List ByteArray} {q:Option Tree},Rw h l ps→q∈l→Option.isSome q=true
 | x :: l,ps,q,hr,hm => by
   obtain ⟨a,b,rfl,⟨t,rfl,-⟩,h2⟩:=hr
   rcases List.mem_cons.1 hm with rfl | hm
   ·rfl
   ·exact SO h2 hm
theorem Q5 {K h:Nat} {l:List (Option Tree)} {ps:List ByteArray} (hK:100000≤K) (hl:l.length≤50000) (hR:Rw h l ps) (hps:ps.length≤50000):∀ (r:List (Option Tree)) (pa pb:List ByteArray) (j k:Nat) (a b c d:Int),l.drop j=r→pa++pb=ps→Rw h r pb→r.length<k→∃ q,CX.l0 K l k ((pa.length:Nat):Int) a b c d (j:Int)=some q∧Tr (h+1) q ps
 | [],pa,pb,j,k+1,a,b,c,d,hd,he,hr,_ => by
   have:=A6 hd
   obtain rfl:pb=[]:=hr
   rw [CX.l0,if_neg (by simp; omega)]
   exact ⟨_,rfl,dS hR hl (by rw [← he,List.append_nil])⟩
 | q :: r,pa,pb,j,k+1,a,b,c,d,hd,he,hr,hk => by
   obtain ⟨h1,h2,h3⟩:=A4 hd (none:Option Tree)
   obtain ⟨x,y,rfl,⟨t,rfl,ht,-⟩,h5⟩:=hr
   have hlen:pa.length+x.length≤50000:=by
    rw [← he] at hps
    simp at hps
    omega
   rw [CX.l0,if_pos (by simp; omega),if_pos ⟨by omega,by omega⟩,Int.toNat_natCast,h2,Option.isSome_some,if_pos rfl,GG,F9,Option.bind_some,Option.bind_some,up1 (by omega),Option.getD_some,ht,w64 (by omega) (by omega),show ((pa.length:Nat):Int)+((x.length:Nat):Int)=(((pa++x).length:Nat):Int) by simp]
   exact Q5 hK hl hR hps r (pa++x) y (j+1) k _ _ _ _ h3 (by rw [← he]; simp) h5 (by simpa using hk)
theorem XV {K h:Nat} {l:List (Option Tree)} {ps:List ByteArray} (hK:100000≤K) (hl:l.length≤50000) (h0:0<l.length) (hR:Rw h l ps) (hps:ps.length≤50000):∃ q,CX K l=some q∧Tr (h+1) q ps:=by
 rw [CX,if_pos ⟨by omega,SO hR (G1 h0)⟩]
 exact Q5 hK hl hR hps l [] ps 0 K 0 0 0 0 rfl rfl hR (by omega)
theorem wM {n:Nat} (h:n≤50000):IntKind.wrap .i64 (Int.tdiv (IntKind.wrap .i64 ((IntKind.wrap .i64 (((n:Nat):Int)+(16:Int))) - (1:Int))) (16:Int))=(((n+15) / 16:Nat):Int):=by
 rw [w64 (n:=(n:Int)+16) (by omega) (by omega),w64 (n:=(n:Int)+16 - 1) (by omega) (by omega),show (n:Int)+16 - 1=((n+15:Nat):Int) by omega]
 have:Int.tdiv ((n+15:Nat):Int) (16:Int)=(((n+15) / 16:Nat):Int):=rfl
 rw [this,w64 (by omega) (by omega)]
theorem wD {n t m:Nat} (hn:n≤50000) (ht:t≤50000):IntKind.wrap .i64 (Int.tdiv (IntKind.wrap .i64 (((n:Nat):Int) * ((t:Nat):Int))) ((m:Nat):Int))=((n * t / m:Nat):Int):=by
 have h1:n * t≤50000 * 50000:=Nat.mul_le_mul hn ht
 have h2:n * t / m≤n * t:=Nat.div_le_self _ _
 rw [show (n:Int) * (t:Int)=((n * t:Nat):Int) by simp,w64 (n:=((n * t:Nat):Int)) (by omega) (by omega)]
 have:Int.tdiv ((n * t:Nat):Int) ((m:Nat):Int)=((n * t / m:Nat):Int):=rfl
 have h3:(0:Int)≤((n * t / m:Nat):Int):=Int.natCast_nonneg _
 rw [this,w64 (by omega) (by omega)]
theorem RR {n m t:Nat} (hm:m≤n) (ht:t<m):n * t / m<n * (t+1) / m∧n * (t+1) / m≤n:=by
 have h0:0<m:=by omega
 constructor
 ·rw [Nat.lt_iff_add_one_le,Nat.le_div_iff_mul_le h0,Nat.add_mul,Nat.one_mul]
  have:=Nat.div_mul_le_self (n * t) m
  rw [Nat.mul_succ]
  omega
 ·refine Nat.div_le_of_le_mul ?_
  rw [Nat.mul_comm]
  exact Nat.mul_le_mul_right n (by omega)
theorem TW {α:Type} {l:List α} {a b:Nat} (h:a≤b):(l.drop a).drop (b - a)=l.drop b:=by
 rw [List.drop_drop]; congr 1; omega
theorem T5 {K:Nat} {l:List ByteArray} {m:Nat} (hK:100000≤K) (hl:l.length≤50000) (hm:m=(l.length+15) / 16) (hp:Pc l):∀ (d t k:Nat) (out:List (Option Tree)) (pa:List ByteArray),t+d=m→d<k→out.length=t→pa++l.drop (l.length * t / m)=l→Rw 0 out pa→
 ∃ row,DC.l0 K l k out (t:Int)=some row∧row.length=m∧Rw 0 row l
 | 0,t,k+1,out,pa,ht,_,ho,he,hr => by
   refine ⟨out,?_,by omega,?_⟩
   ·rw [DC.l0,wM hl,if_neg (by simp; omega)]
   ·rcases Nat.eq_zero_or_pos m with h0 | h0
    ·have h1:l.length=0:=by omega
     have h2:l=[]:=List.eq_nil_of_length_eq_zero h1
     subst h2
     simp at he
     rw [he] at hr
     exact hr
    ·rw [show l.length * t / m=l.length by rw [show t=m by omega,Nat.mul_div_cancel _ h0]] at he
     simp at he
     rw [he] at hr
     exact hr
 | d+1,t,k+1,out,pa,ht,hk,ho,he,hr => by
   obtain ⟨p1,p2⟩:=RR (n:=l.length) (m:=m) (t:=t) (by omega) (by omega)
   have wa:=wD (n:=l.length) (t:=t) (m:=m) hl (by omega)
   have wb:=wD (n:=l.length) (t:=t+1) (m:=m) hl (by omega)
   generalize l.length * t / m=x at *
   generalize hy:l.length * (t+1) / m=y at *
   obtain ⟨q,hq,hT⟩:=YD (l:=(l.drop x).take (y - x)) hK (by simp; omega) fun p hpm=>hp p (List.mem_of_mem_drop (List.mem_of_mem_take hpm))
   have hlen:((l.drop x).take (y - x)).length≤50000:=by simp; omega
   rw [DC.l0,wM hl,← hm,if_pos (by simp; omega),up1 (by omega),wa,wb,if_pos ⟨by omega,by omega,by omega,by omega⟩,Int.toNat_natCast,Int.toNat_natCast,hq,Option.bind_some,if_pos ⟨by omega,by simp; omega⟩]
   refine T5 hK hl hm hp d (t+1) k (out++[q]) (pa++_) (by omega) (by omega) (by simp; omega) ?_ (hr.snoc hT)
   rw [hy,List.append_assoc,← TW (Nat.le_of_lt p1),List.take_append_drop]
   exact he
theorem T4 {K h:Nat} {l:List (Option Tree)} {ps:List ByteArray} {m:Nat} (hK:100000≤K) (hl:l.length≤50000) (hm:m=(l.length+15) / 16) (hps:ps.length≤50000):∀ (d t k:Nat) (out:List (Option Tree)) (pa pb:List ByteArray),t+d=m→d<k→out.length=t→pa++pb=ps→Rw h (l.drop (l.length * t / m)) pb→Rw (h+1) out pa→
 ∃ row,DB.l0 K l k out (t:Int)=some row∧row.length=m∧Rw (h+1) row ps
 | 0,t,k+1,out,pa,pb,ht,_,ho,he,hb,hr => by
   refine ⟨out,?_,by omega,?_⟩
   ·rw [DB.l0,wM hl,if_neg (by simp; omega)]
   ·have:l.drop (l.length * t / m)=[]:=by
     rcases Nat.eq_zero_or_pos m with h0 | h0
     ·have h1:l.length=0:=by omega
      have h2:l=[]:=List.eq_nil_of_length_eq_zero h1
      subst h2
      simp
     ·rw [show l.length * t / m=l.length by rw [show t=m by omega,Nat.mul_div_cancel _ h0],List.drop_length]
    rw [this] at hb
    obtain rfl:pb=[]:=hb
    rw [← he,List.append_nil]
    exact hr
 | d+1,t,k+1,out,pa,pb,ht,hk,ho,he,hb,hr => by
   obtain ⟨p1,p2⟩:=RR (n:=l.length) (m:=m) (t:=t) (by omega) (by omega)
   have wa:=wD (n:=l.length) (t:=t) (m:=m) hl (by omega)
   have wb:=wD (n:=l.length) (t:=t+1) (m:=m) hl (by omega)
   generalize l.length * t / m=a at *
   generalize hc:l.length * (t+1) / m=c at *
   obtain ⟨x,y,rfl,h1,h2⟩:=hb.cut (c - a)
   rw [TW (Nat.le_of_lt p1)] at h2
   have hlen:((l.drop a).take (c - a)).length≤50000:=by simp; omega
   have hx:x.length≤50000:=by rw [← he] at hps; simp at hps; omega
   obtain ⟨q,hq,hT⟩:=XV hK hlen (by simp; omega) h1 hx
   rw [DB.l0,wM hl,← hm,if_pos (by simp; omega),up1 (by omega),wa,wb,if_pos ⟨by omega,by omega,by omega,by omega⟩,Int.toNat_natCast,Int.toNat_natCast,hq,Option.bind_some,if_pos ⟨by omega,by simp; omega⟩]
   exact T4 hK hl hm hps d (t+1) k (out++[q]) (pa++x) y (by omega) (by omega) (by simp; omega) (by rw [← he,List.append_assoc]) (by rw [hc]; exact h2) (hr.snoc hT)
theorem RA {K:Nat} {ps:List ByteArray} (hK:100000≤K) (hps:ps.length≤50000):∀ (d h k:Nat) (row:List (Option Tree)),row.length≤d→0<row.length→row.length≤50000→d<k→h+d≤60000→Rw h row ps→∃ q h',D8.l0 K k row=some q∧h'≤60000∧Tr h' q ps
 | 0,h,k,row,hd,h0,_,_,_,_ => by omega
 | d+1,h,k+1,row,hd,h0,h1,hk,hh,hr => by
   rw [D8.l0]
   by_cases hl:1<row.length
   ·obtain ⟨row',e1,e2,e3⟩:=T4 (K:=K) (m:=(row.length+15) / 16) hK h1 rfl hps _ 0 K [] [] ps (by rw [Nat.zero_add]) (by omega) rfl rfl (by rw [Nat.mul_zero,Nat.zero_div]; exact hr) rfl
    have e1:DB K row=some row':=e1
    rw [if_pos (by simp; omega),e1,Option.bind_some]
    exact RA hK hps d (h+1) k row' (by omega) (by omega) (by omega) (by omega) (by omega) e3
   ·rw [if_neg (by simp; omega),if_pos (by omega)]
    obtain ⟨q,hq⟩:∃ q,row=[q]:=List.length_eq_one_iff.1 (by omega)
    subst hq
    obtain ⟨a,b,rfl,h2,h3⟩:=hr
    obtain rfl:b=[]:=h3
    rw [List.append_nil]
    exact ⟨q,h,rfl,by omega,h2⟩
theorem YO {K:Nat} {ps:List ByteArray} (hK:100000≤K) (hps:ps.length≤50000) (hp:Pc ps):∃ q,D8 K ps=some q∧(ps=[]∧q=none∨∃ h',h'≤60000∧Tr h' q ps):=by
 rw [D8]
 by_cases h:ps.length=0
 ·rw [if_pos (by simpa using h)]
  exact ⟨none,rfl,.inl ⟨List.eq_nil_of_length_eq_zero h,rfl⟩⟩
 ·rw [if_neg (by simpa using h)]
  obtain ⟨row,e1,e2,e3⟩:=T5 (K:=K) (m:=(ps.length+15) / 16) hK hps rfl hp _ 0 K [] [] (by rw [Nat.zero_add]) (by omega) rfl (by simp) rfl
  have e1:DC K ps=some row:=e1
  rw [e1,Option.bind_some]
  obtain ⟨q,h',e4,e5,e6⟩:=RA hK hps row.length 0 K row (Nat.le_refl _) (by omega) (by omega) (by omega) (by omega) e3
  exact ⟨q,e4,.inr ⟨h',e5,e6⟩⟩
def RS (R:Option (Option Tree)) (s:ByteArray):Prop:=∀ K,100000≤K→C8 K R=some s
theorem OH {a b:ByteArray} (h:bytesL a=bytesL b):a=b:=by
 rw [← HT (s:=a),h,HT]
theorem bG {q:Option Tree} {ps:List ByteArray} {s:ByteArray} (hps:ps.length≤50000) (hq:ps=[]∧q=none∨∃ h',h'≤60000∧Tr h' q ps) (hs:BF ps=bytesL s) (hsz:s.size≤100000):RS (some q) s:=by
 intro K hK
 have e:IK K q=some ps:=by
  rw [IK,KT]
  rcases hq with ⟨rfl,rfl⟩ | ⟨h',hh,t,rfl,hn,ht⟩
  ·rfl
  ·rw [if_neg (by simp),Option.isSome_some,if_pos rfl,Option.bind_some,Option.getD_some,hn,if_pos ⟨by omega,by omega,by omega⟩,if_pos (by simp),AW]
   rw [ht K hK K (by omega) _ (by simp; omega),Option.bind_some]
   rfl
 have hlen:(BF ps).length=s.size:=by rw [hs,C6]
 have e2:=SP (K:=K) (ps:=ps) ps 0 K [] rfl (by omega) (by omega) (by rw [List.nil_append]; omega)
 have e2:C8.l0 K ps K [] 0=some ([]++BF ps):=e2
 rw [C8,Option.getD_some,e,Option.bind_some,Option.isSome_some,if_pos rfl,e2,Option.bind_some,GP,List.nil_append,if_pos Q0,Option.bind_some,hs,HT]
theorem R4 {K:Nat} {s:ByteArray} (h0:¬ A0 (bt s 0)) (hs:s.size≤100000):∀ (j k:Nat),j<s.size→j<k→B4.l1 K s k (j:Int)=some (bcF s j:Int)
 | 0,k,hj,hk => by
   obtain ⟨k,rfl⟩:∃ m,k=m+1:=⟨k - 1,by omega⟩
   have hb:=AF (s:=s) (i:=(0:Nat))
   have:=F7 hb.1 hb.2
   rw [B4.l1,if_pos (by omega),if_neg]
   ·rfl
   ·intro e
    rw [beq_iff_eq] at e
    rw [e] at this
    rw [bne_self_eq_false] at this
    rw [decide_eq_false (show ¬ A0 (bt s ((0:Nat):Int)) from h0)] at this
    cases this
 | j+1,k,hj,hk => by
   obtain ⟨k,rfl⟩:∃ m,k=m+1:=⟨k - 1,by omega⟩
   have hb:=AF (s:=s) (i:=((j+1:Nat):Int))
   have h192:=F7 hb.1 hb.2
   have hw:IntKind.wrap .i64 (((j+1:Nat):Int) - 1)=(j:Int):=by rw [w64 (by omega) (by omega)]; omega
   rw [B4.l1,if_pos (by omega),hw,bcF]
   by_cases c:A0 (bt s ((j+1:Nat):Int))
   ·rw [if_pos c,if_pos,R4 h0 hs j k (by omega) (by omega)]
    rw [decide_eq_true c] at h192
    simpa using h192
   ·rw [if_neg c,if_neg]
    rw [decide_eq_false c] at h192
    intro e
    rw [beq_iff_eq] at e
    rw [e,bne_self_eq_false] at h192
    cases h192
theorem LZ {s:ByteArray} {i:Nat} (h:i≤s.size):s.extract 0 i++s.extract i s.size=s:=by
 refine OH ?_
 have hl:(bytesL s).length=s.size:=C6
 rw [L9,GY,GY,List.drop_zero,Nat.sub_zero,List.take_of_length_le (l:=(bytesL s).drop i) (by rw [List.length_drop]; omega),List.take_append_drop]
theorem JP {s:ByteArray} {i j:Nat} (h:j≤s.size) (hi:i≤j):(s.extract i j).size=j - i:=by
 have:=congrArg List.length (GY (s:=s) (i:=i) (j:=j))
 rw [C6,List.length_take,List.length_drop,C6] at this
 omega
theorem XJ {s:ByteArray} {i:Nat} (h:i<s.size):bt (s.extract i s.size) 0=bt s (i:Int):=by
 have h1:=J3 (s:=s.extract i s.size) (i:=0) (by rw [JP (Nat.le_refl _) (by omega)]; omega)
 rw [GY,List.getElem?_take_of_lt (by omega),List.getElem?_drop,Nat.add_zero,J3 h] at h1
 exact (Option.some.inj h1).symm
theorem VJ {s:ByteArray} {i:Nat} (hv:A8 s=true) (h:i<s.size) (hc:¬ A0 (bt s (i:Int))):A8 (s.extract 0 i)=true∧A8 (s.extract i s.size)=true:=by
 have e:=LZ (s:=s) (i:=i) (by omega)
 have h1:A8 (s.extract 0 i)=true:=fN (b:=s.extract i s.size) (by rw [e]; exact hv) (.inr (by rw [XJ h]; exact hc))
 exact ⟨h1,fP (a:=s.extract 0 i) (by rw [e]; exact hv) h1⟩
theorem MD {K:Nat} (hK:100000≤K):∀ (d k:Nat) (s:ByteArray) (out:List ByteArray),s.size≤d→d≤20000→d<k→out.length+d≤20000→A8 s=true→Pc out→
 ∃ ps,B4.l0 K k s out=some ps∧Pc ps∧ps.length≤out.length+d∧BF ps=BF out++bytesL s
 | d,0,s,out,_,_,hk,_,_,_ => by omega
 | d,k+1,s,out,hd,hd2,hk,ho,hv,hp => by
   rw [B4.l0,NG]
   by_cases h0:s.size=0
   ·rw [if_neg (by simp [h0])]
    refine ⟨out,rfl,hp,by omega,?_⟩
    have:bytesL s=[]:=List.eq_nil_of_length_eq_zero (by rw [C6]; exact h0)
    rw [this,List.append_nil]
   ·rw [if_pos (by simp [h0])]
    obtain ⟨d,rfl⟩:∃ x,d=x+1:=⟨d - 1,by omega⟩
    by_cases h:s.size > 64
    ·have hf:=PM hv (by omega)
     obtain ⟨b1,b2,b3⟩:=OE (s:=s) (k:=64)
     have hb:1≤bcF s 64:=by
      have he:isE s 0=true:=M6 hv (by omega) (by omega) (.inr hf)
      obtain ⟨s1,s2⟩:=d9 he
      have hu:=CC (s:=s) (a:=0)
      have hz:=s2 (by omega)
      obtain ⟨-,-,-,s3⟩:=G6 s1
      rcases Nat.eq_zero_or_pos (bcF s 64) with hz0 | hz0
      ·exfalso
       have:=b3 (usz s 0).toNat (by omega) (by omega)
       rw [show (((usz s 0).toNat:Nat):Int)=0+usz s 0 by omega] at this
       rcases s3 with s3 | s3
       ·omega
       ·exact s3 this
      ·exact hz0
     have hc:¬ A0 (bt s (bcF s 64:Int)):=b2.resolve_left (by omega)
     have e1:=R4 (K:=K) hf (by omega) 64 K (by omega) (by omega)
     have e1:B4.l1 K s K (64:Int)=some (bcF s 64:Int):=e1
     generalize bcF s 64=z at *
     obtain ⟨v1,v2⟩:=VJ hv (show z<s.size by omega) hc
     have z1:=JP (s:=s) (i:=0) (j:=z) (by omega) (by omega)
     have z2:=JP (s:=s) (i:=z) (j:=s.size) (by omega) (by omega)
     rw [if_pos (by simp; omega),e1,Option.bind_some,if_pos ⟨by omega,by omega,by simp; omega⟩,Option.bind_some,Int.toNat_natCast]
     obtain ⟨ps,q1,q2,q3,q4⟩:=MD hK d k (s.extract z s.size) (out++[s.extract 0 z]) (by omega) (by omega) (by omega) (by simp; omega) v2 (fun p hpm=>by
      rcases List.mem_append.1 hpm with hpm | hpm
      ·exact hp p hpm
      ·simp at hpm; subst hpm; exact ⟨v1,by omega⟩)
     refine ⟨ps,q1,q2,by simp at q3; omega,?_⟩
     rw [q4,OI,J6,List.append_assoc]
     congr 1
     rw [show BF []=[] from rfl,List.append_nil,← L9,LZ (by omega)]
    ·have z1:=JP (s:=s) (i:=s.size) (j:=s.size) (by omega) (by omega)
     have e2:s.extract 0 s.size=s:=by
      have:=LZ (s:=s) (i:=s.size) (by omega)
      refine OH ?_
      rw [GY,List.drop_zero,Nat.sub_zero,List.take_of_length_le (by rw [C6]; omega)]
     have e3:bytesL (s.extract s.size s.size)=[]:=List.eq_nil_of_length_eq_zero (by rw [C6,z1]; omega)
     rw [if_neg (by simp; omega),if_pos ⟨by omega,by omega,by simp; omega⟩,Option.bind_some,Int.toNat_natCast,e2]
     obtain ⟨ps,q1,q2,q3,q4⟩:=MD hK d k (s.extract s.size s.size) (out++[s]) (by omega) (by omega) (by omega) (by simp; omega) (by
      unfold A8; rw [z1,Nat.sub_self]; rfl) (fun p hpm=>by
      rcases List.mem_append.1 hpm with hpm | hpm
      ·exact hp p hpm
      ·simp at hpm; subst hpm; exact ⟨hv,by omega⟩)
     refine ⟨ps,q1,q2,by simp at q3; omega,?_⟩
     rw [q4,OI,J6,show BF []=[] from rfl,List.append_nil,e3,List.append_nil]
theorem SI {K:Nat} {s:ByteArray} (hK:100000≤K) (hs:s.size≤20000) (hv:A8 s=true):∃ R,GF K s=some (some R,0)∧RS (some R) s:=by
 obtain ⟨ps,q1,q2,q3,q4⟩:=MD hK s.size K s [] (Nat.le_refl _) hs (by omega) (by simp; omega) hv (fun p hp=>(List.not_mem_nil hp).elim)
 simp at q3
 have q4:BF ps=bytesL s:=q4
 obtain ⟨q,m1,m2⟩:=YO hK (by omega) q2
 refine ⟨q,?_,bG (by omega) m2 q4 (by omega)⟩
 rw [GF,LB hK (by omega) hv,Option.bind_some,if_neg (by simp; omega),B4,q1,Option.bind_some,m1,Option.bind_some,Option.bind_some]
theorem LQ {c:Nat} (hc:c≤1114111∧¬ (55296≤c∧c<57344)):0<(Utf8.encode (c:Int)).size∧usz (Utf8.encode (c:Int)) 0=((Utf8.encode (c:Int)).size:Int):=by
 have hv:Utf8.valid (c:Int)=true:=by
  unfold Utf8.valid
  simp only [Bool.or_eq_true,Bool.and_eq_true,decide_eq_true_eq]; omega
 have key:∀ s:ByteArray,0<s.size→usz s 0=s.size→0<s.size∧usz s 0=s.size:=fun _ h k=>⟨h,k⟩
 have b:∀ n:Nat,n<256→((UInt8.ofNat n).toNat:Int)=n:=fun n hn=>by
  rw [UInt8.toNat_ofNat']
  omega
 unfold Utf8.encode
 simp only [hv,if_true,Int.toNat_natCast]
 by_cases h1:c<128
 ·rw [if_pos h1]
  refine key _ (by show 0<1; omega) ?_
  have e0:bt ⟨#[UInt8.ofNat c]⟩ 0=c:=b c (by omega)
  unfold usz
  rw [if_neg (by show ¬ ((0:Int)<0∨(0:Int)≥((1:Nat):Int)); omega),e0]
  unfold AL
  rw [if_pos (by omega)]
  rfl
 ·rw [if_neg h1]
  by_cases h2:c<2048
  ·rw [if_pos h2]
   refine key _ (by show 0<2; omega) ?_
   have e0:bt ⟨#[UInt8.ofNat (192+c / 64),UInt8.ofNat (128+c % 64)]⟩ 0=((192+c / 64:Nat):Int):=b _ (by omega)
   have e1:bt ⟨#[UInt8.ofNat (192+c / 64),UInt8.ofNat (128+c % 64)]⟩ (0+1)=((128+c % 64:Nat):Int):=b _ (by omega)
   unfold usz
   rw [if_neg (by show ¬ ((0:Int)<0∨(0:Int)≥((2:Nat):Int)); omega),e0,e1]
   unfold AL A0
   rw [if_neg (by omega),if_pos (by omega),if_pos]
   ·rfl
   ·refine ⟨?_,by omega,by omega⟩
    show (2:Int)≤((2:Nat):Int) - 0
    omega
  ·rw [if_neg h2]
   by_cases h3:c<65536
   ·rw [if_pos h3]
    refine key _ (by show 0<3; omega) ?_
    have e0:bt ⟨#[UInt8.ofNat (224+c / 4096),UInt8.ofNat (128+c / 64 % 64),UInt8.ofNat (128+c % 64)]⟩ 0=((224+c / 4096:Nat):Int):=b _ (by omega)
    have e1:bt ⟨#[UInt8.ofNat (224+c / 4096),UInt8.ofNat (128+c / 64 % 64),UInt8.ofNat (128+c % 64)]⟩ (0+1)=((128+c / 64 % 64:Nat):Int):=b _ (by omega)
    have e2:bt ⟨#[UInt8.ofNat (224+c / 4096),UInt8.ofNat (128+c / 64 % 64),UInt8.ofNat (128+c % 64)]⟩ (0+2)=((128+c % 64:Nat):Int):=b _ (by omega)
    unfold usz
    rw [if_neg (by show ¬ ((0:Int)<0∨(0:Int)≥((3:Nat):Int)); omega),e0,e1,e2]
    unfold AL A0
    rw [if_neg (by omega),if_neg (by omega),if_pos (by omega),if_pos]
    ·rfl
    ·refine ⟨?_,by omega,by omega,by omega,by omega⟩
     show (3:Int)≤((3:Nat):Int) - 0
     omega
   ·rw [if_neg h3]
    refine key _ (by show 0<4; omega) ?_
    have e0:bt ⟨#[UInt8.ofNat (240+c / 262144),UInt8.ofNat (128+c / 4096 % 64),UInt8.ofNat (128+c / 64 % 64),UInt8.ofNat (128+c % 64)]⟩ 0=((240+c / 262144:Nat):Int):=b _ (by omega)
    have e1:bt ⟨#[UInt8.ofNat (240+c / 262144),UInt8.ofNat (128+c / 4096 % 64),UInt8.ofNat (128+c / 64 % 64),UInt8.ofNat (128+c % 64)]⟩ (0+1)=((128+c / 4096 % 64:Nat):Int):=b _ (by omega)
    have e2:bt ⟨#[UInt8.ofNat (240+c / 262144),UInt8.ofNat (128+c / 4096 % 64),UInt8.ofNat (128+c / 64 % 64),UInt8.ofNat (128+c % 64)]⟩ (0+2)=((128+c / 64 % 64:Nat):Int):=b _ (by omega)
    have e3:bt ⟨#[UInt8.ofNat (240+c / 262144),UInt8.ofNat (128+c / 4096 % 64),UInt8.ofNat (128+c / 64 % 64),UInt8.ofNat (128+c % 64)]⟩ (0+3)=((128+c % 64:Nat):Int):=b _ (by omega)
    unfold usz
    rw [if_neg (by show ¬ ((0:Int)<0∨(0:Int)≥((4:Nat):Int)); omega),e0,e1,e2,e3]
    unfold AL A0
    rw [if_neg (by omega),if_neg (by omega),if_neg (by omega),if_pos (by omega),if_pos]
    ·rfl
    ·refine ⟨?_,by omega,by omega,by omega,by omega,by omega⟩
     show (4:Int)≤((4:Nat):Int) - 0
     omega
def Onc (s:ByteArray):Prop:=A8 s=true∧∀ i:Nat,0<i→i<s.size→A0 (bt s (i:Int))
theorem RM {s:ByteArray} (h0:0<s.size) (h:usz s 0=s.size):Onc s:=by
 constructor
 ·unfold A8
  obtain ⟨n,hn⟩:∃ n,s.size=n+1:=⟨s.size - 1,by omega⟩
  have e:A3 s (n+1) 0=true:=by
   rw [A3,if_pos (by omega),if_neg (by omega),h,Int.zero_add]
   cases n with
   | zero => rfl
   | succ n => rw [A3,if_neg (by omega)]
  rw [hn]
  exact e
 ·intro i h1 h2
  exact NR (i:=0) h1 (by rw [show (((0:Nat):Int))=0 from rfl,h]; omega)
theorem X4 {c:Nat}:Onc (Utf8.encode (c:Int)):=by
 by_cases hc:c≤1114111∧¬ (55296≤c∧c<57344)
 ·exact RM (LQ hc).1 (LQ hc).2
 ·have hv:Utf8.valid (c:Int)=false:=by
   unfold Utf8.valid
   simp only [Bool.or_eq_false_iff,Bool.and_eq_false_iff,decide_eq_false_iff_not]; omega
  have:Utf8.encode (c:Int)=Utf8.encode ((65533:Nat):Int):=by
   have hv2:Utf8.valid ((65533:Nat):Int)=true:=by decide
   unfold Utf8.encode
   simp only [hv,hv2,Bool.false_eq_true,if_false,if_true,Int.toNat_natCast,Utf8.runeError]
  rw [this]
  have:=LQ (c:=65533) (by omega)
  exact RM this.1 this.2
def Av (l:List Atm):Prop:=∀ a∈l,Onc a.1
theorem OD {r:Int} {u:List Int}:∀ {l:List Atm},Av l→A8 (ofBytes (vtx r u l))=true
 | [],_ => rfl
 | a :: l,h => by
   have ih:=OD (r:=r) (u:=u) (l:=l) fun b hb=>h b (List.mem_cons_of_mem _ hb)
   simp only [vtx]
   split
   ·rw [ZD,HT]
    exact fM (h a List.mem_cons_self).1 ih
   ·exact ih
theorem OC {s:ByteArray} {w g r:Int}:∀ {m t:Nat},Av (ptL s w g r m t)
 | 0,_ => fun a ha => (List.not_mem_nil ha).elim
 | m+1,t => fun a ha => by
   rw [ptL] at ha
   split at ha
   ·rcases List.mem_cons.1 ha with e | ha
    ·have e1:a.1=Utf8.encode (((Utf8.decode s t).1:Nat):Int):=by rw [e]
     rw [e1]
     generalize (Utf8.decode s t).1=c
     exact X4
    ·exact OC a ha
   ·exact (List.not_mem_nil ha).elim
theorem L6 {l:List Atm} {us:List (List Int)} {f:Int} {g o:List Int} {base grp rank:Int} {c:List Chg} (h:Av l):Av (C7 l us f g o base grp rank c).2.2.1:=by
 unfold C7
 repeat' split
 all_goals first | exact h | skip
 intro a ha
 rcases MI (show a∈spl _ _ _ from ha) with h1 | ⟨q,h1,h2⟩
 ·obtain ⟨b,hb,e⟩:=MG h1
  rcases e with rfl | rfl
  ·exact h _ hb
  ·exact h b hb
 ·obtain ⟨x,hx,rfl⟩:=List.mem_map.1 h1
  exact OC a h2
theorem UZ {l:List Atm} {us:List (List Int)} {f:Int} {g o:List Int} {x:Int} (h:Av l):Av (D7 l us f g o x).2.2.1:=by
 unfold D7
 split <;> exact h
theorem UY {l:List Atm} {us:List (List Int)} {f:Int} {g o gs:List Int} (h:Av l):Av (DS l us f g o gs).2.1:=by
 unfold DS
 split
 ·intro a ha
  obtain ⟨b,hb,rfl⟩:=List.mem_map.1 (show a∈(l.filter (kpA gs (lsR us))).map (lfA gs (lsR us)) from ha)
  exact h b (List.mem_filter.1 hb).1
 ·exact h
def isS (base:Int):Int→Option Bool→List El→Prop
 | _,_,[] => True
 | to,pre,x :: r =>
   if x.2.2.size=0 then (to≤x.1∧(to<x.1∨pre≠some true)∧x.1<x.2.1∧x.2.1≤base)∧isS base x.2.1 (some true) r
   else (x.1=0∧x.2.1=0∧pre≠some false∧A8 x.2.2=true)∧isS base to (some false) r
theorem M7 {base:Int}:∀ {l:List El} {size to:Int} {pre:Option Bool},isL base size to pre l=true→isS base to pre l
 | [],_,_,_,_ => trivial
 | x :: r,size,to,pre,h => by
   rw [isL] at h
   rw [isS]
   split at h
   ·rename_i hz
    rw [Bool.and_eq_true,decide_eq_true_eq] at h
    rw [if_pos hz]
    exact ⟨⟨h.1.1,h.1.2.1,h.1.2.2.1,h.1.2.2.2.1⟩,M7 h.2⟩
   ·rename_i hz
    rw [Bool.and_eq_true,Bool.and_eq_true,decide_eq_true_eq] at h
    rw [if_neg hz]
    exact ⟨⟨h.1.1.1,h.1.1.2.1,h.1.1.2.2.1,h.1.2⟩,M7 h.2⟩
theorem QK {base:Int} {l:List El} (h:isD base l=true):isS base 0 none l:=by
 unfold isD at h
 rw [Bool.and_eq_true] at h
 exact M7 h.2
theorem HS {p:Int} (hp:0≤p):∀ {l:List El} {n w to base:Int} {pre:Option Bool},0≤to→isS base to pre l→0≤n→0≤w→n≤(mvE p n w l).1∧n+w≤(mvE p n w l).1+(mvE p n w l).2∧0≤(mvE p n w l).2
 | [],n,w,to,base,pre,h0,h,hn,hw => by simp only [mvE]; omega
 | x :: r,n,w,to,base,pre,h0,h,hn,hw => by
   rw [isS] at h
   rw [mvE]
   split at h
   ·rename_i hz
    have q1:=h.1.1
    have q2:=h.1.2.2.1
    rw [if_pos hz]
    split
    ·simp only; omega
    ·split
     ·simp only; omega
     ·have:=HS hp (l:=r) (n:=n+(w+min x.2.1 p - x.1)) (w:=0) (by omega) h.2 (by omega) (by omega)
      omega
   ·rename_i hz
    rw [if_neg hz]
    have:=HS hp (l:=r) (n:=n) (w:=w+x.2.2.size) h0 h.2 hn (by omega)
    omega
theorem ML {p q:Int} (hp:0≤p) (hpq:p≤q):∀ {l:List El} {n w to base:Int} {pre:Option Bool},0≤to→isS base to pre l→0≤n→0≤w→
 (mvE p n w l).1≤(mvE q n w l).1∧(mvE p n w l).1+(mvE p n w l).2≤(mvE q n w l).1+(mvE q n w l).2
 | [],n,w,to,base,pre,h0,h,hn,hw => ⟨Int.le_refl _,Int.le_refl _⟩
 | x :: r,n,w,to,base,pre,h0,h,hn,hw => by
   have hall:=HS (p:=q) (by omega) (l:=x :: r) (n:=n) (w:=w) h0 h hn hw
   rw [isS] at h
   by_cases hz:x.2.2.size=0
   ·rw [if_pos hz] at h
    have q1:=h.1.1
    have q2:=h.1.2.2.1
    by_cases c1:x.1≥p
    ·have e:mvE p n w (x :: r)=(n,w):=by rw [mvE,if_pos hz,if_pos c1]
     rw [e]
     exact ⟨hall.1,hall.2.1⟩
    ·by_cases c2:x.2.1 > p
     ·have e:mvE p n w (x :: r)=(n+(w+min x.2.1 p - x.1),0):=by rw [mvE,if_pos hz,if_neg c1,if_pos c2]
      rw [e,mvE,if_pos hz,if_neg (by omega)]
      by_cases c3:x.2.1 > q
      ·rw [if_pos c3]; simp only; omega
      ·rw [if_neg c3]
       have:=HS (p:=q) (by omega) (l:=r) (n:=n+(w+min x.2.1 q - x.1)) (w:=0) (by omega) h.2 (by omega) (by omega)
       simp only; omega
     ·rw [mvE,if_pos hz,if_neg c1,if_neg c2,mvE,if_pos hz,if_neg (by omega)]
      by_cases c3:x.2.1 > q
      ·omega
      ·rw [if_neg c3,show min x.2.1 p=x.2.1 by omega,show min x.2.1 q=x.2.1 by omega]
       exact ML hp hpq (by omega) h.2 (by omega) (by omega)
   ·rw [if_neg hz] at h
    rw [mvE,if_neg hz,mvE,if_neg hz]
    exact ML hp hpq h0 h.2 hn (by omega)
theorem MM {base a:Int} {d:List El} (h:isD base d=true):0≤mv base d a false∧mv base d a false≤mv base d a true∧mv base d a true≤AG d+A9 d:=by
 obtain ⟨h1,h2,h3,h4,h5⟩:=HN h
 have g:=HS (p:=min (max a 0) base) (by omega) (l:=d) (n:=0) (w:=0) (Int.le_refl 0) (QK h) (by omega) (by omega)
 have g2:=(K5 (base:=base) (p:=min (max a 0) base) (by omega) (l:=d) (n:=0) (w:=0) h4 (by omega) (by omega)).2.2
 unfold mv
 rw [if_pos h,if_pos h,if_neg (by simp),if_pos rfl]
 omega
theorem Z5 {base a b:Int} {d:List El} {after:Bool} (h:isD base d=true) (hab:a≤b):mv base d a after≤mv base d b after:=by
 obtain ⟨h1,h2,h3,h4,h5⟩:=HN h
 have:=ML (p:=min (max a 0) base) (q:=min (max b 0) base) (by omega) (by omega) (l:=d) (n:=0) (w:=0) (Int.le_refl 0) (QK h) (by omega) (by omega)
 unfold mv
 rw [if_pos h,if_pos h]
 cases after
 ·rw [if_neg (by simp),if_neg (by simp)]; exact this.1
 ·rw [if_pos rfl,if_pos rfl]; exact this.2
def goS (base:Int) (d:List El) (x:Sp):Sp:=(mv base d x.1 true,(max (mv base d x.1 true) (mv base d x.2.1 false),x.2.2))
def neI (x:Sp):Bool:=decide (x.1<x.2.1)
theorem P6 {K:Nat} {l:List Sp} {base:Int} {d:List El} (hK:30000≤K) (hl:l.length≤100000):∀ (rest:List Sp) (j k:Nat) (out:List Sp),l.drop j=rest→rest.length<k→out.length≤j→
 BL.l0 K l base d k out (j:Int)=some (out++(rest.map (goS base d)).filter neI)
 | [],j,k,out,hd,hk,ho => by
   obtain ⟨k,rfl⟩:∃ m,k=m+1:=⟨k - 1,by omega⟩
   have:=A6 hd
   rw [BL.l0,if_neg (by simp; omega)]; simp
 | x :: rest,j,k,out,hd,hk,ho => by
   obtain ⟨k,rfl⟩:∃ m,k=m+1:=⟨k - 1,by omega⟩
   obtain ⟨hj,hx,hd'⟩:=A4 hd sp0
   rw [List.length_cons] at hk
   have hw:IntKind.wrap .i64 ((j:Int)+1)=((j+1:Nat):Int):=by rw [w64 (by omega) (by omega)]; omega
   rw [BL.l0,if_pos (by simp; omega),if_pos (by omega)]
   simp only [Int.toNat_natCast,hx,hw,XZ hK,Option.bind_some]
   rw [GV (by omega),Option.bind_some,P6 hK hl rest (j+1) k _ hd' (by omega) (by rw [List.length_append]; split <;> simp <;> omega),List.map_cons,List.filter_cons]
   unfold neI goS
   simp only [decide_eq_true_eq]
   split <;> simp
theorem XT {base n:Int} {d:List El} {l:List Sp} (hd:isD base d=true) (hl:AE n 0 0 l=true):(l.map (goS base d)).filter neS=(l.map (goS base d)).filter neI∧((l.map (goS base d)).filter neI).Pairwise Od∧∀ x∈(l.map (goS base d)).filter neI,Fn (AG d+A9 d) x:=by
 have hm:=DU hl (Int.le_refl 0)
 have hod:=K9 hl (Int.le_refl 0)
 refine ⟨List.filter_congr fun x hx=>?_,?_,fun x hx=>?_⟩
 ·obtain ⟨y,hy,rfl⟩:=List.mem_map.1 hx
  have:=(hm y hy).1
  unfold neS neI goS Fn at *
  simp only
  rw [decide_eq_decide]; omega
 ·rw [List.pairwise_filter,List.pairwise_map]
  refine hod.imp fun {x y} h h1 h2=>?_
  unfold Od goS neI at *
  simp only [decide_eq_true_eq] at *
  have a1:=Z5 (after:=false) hd h
  have a2:=(MM (a:=y.1) hd).2.1
  omega
 ·rw [List.mem_filter] at hx
  obtain ⟨y,hy,rfl⟩:=List.mem_map.1 hx.1
  have hy':=(hm y hy).1
  have b1:=MM (a:=y.1) hd
  have b2:=MM (a:=y.2.1) hd
  have h2:=hx.2
  unfold Fn goS neI at *
  simp only [decide_eq_true_eq] at *
  omega
def dfS (r:Int) (u:List Int) (r':Int) (u':List Int) (acc:List El×Int) (a:Atm):List El×Int:=
 (if (vis r u a&&vis r' u' a)=true then CJ acc.1 acc.2 (acc.2+a.1.size) else if vis r' u' a=true then CK acc.1 a.1 else acc.1,if vis r u a=true then acc.2+a.1.size else acc.2)
theorem V4 {K:Nat} {s:ByteArray} {was is:Bool} {p4 p6:Int} {d:List El} (hl:d.length≤100000) (hs:s.size≤1000) (ht:A9 d≤1000000) (h6:0≤p6) (h7:p6≤1000000):H9 K s was is p4 d p6=some (if (was&&is)=true then CJ d p6 (p6+s.size) else if is=true then CK d s else d,if was=true then p6+s.size else p6):=by
 rw [H9,w64 (n:=p6+_) (by omega) (by omega)]
 cases was with
 | true =>
   cases is with
   | true => rw [if_pos rfl,Option.bind_some,if_pos rfl,VD (by omega)]; rfl
   | false => rfl
 | false =>
   cases is with
   | true => rw [if_neg (by simp),Option.bind_some,if_neg (by simp),if_pos rfl,aI (by omega) (by omega)]; rfl
   | false => rfl
theorem OF {K:Nat} {l:List Atm} {r r':Int} {u u':List Int} {n:Int} (hK:100000≤K) (hu:u.length≤50000) (hu':u'.length≤50000) (hl:Aok l):∀ (rest:List Atm) (j k:Nat) (acc:List El×Int),l.drop j=rest→rest.length<k→acc.1.length+rest.length≤50000→A9 acc.1+10 * rest.length≤1000000→0≤acc.2→acc.2+10 * rest.length≤1000000→
 BY.l0 K l r u r' u' n k acc.1 acc.2 (j:Int)=some (0,rest.foldl (dfS r u r' u') acc)
 | [],j,k+1,acc,h,_,_,_,_,_ => by
   have:=A6 h
   rw [BY.l0,if_neg (by simp; omega)]
   rfl
 | a :: rest,j,k+1,acc,h,hk,h1,h2,h3,h4 => by
   obtain ⟨g1,g2,g3⟩:=A4 h zA
   have hlen:=hl.1
   have ha:=hl.2 a (mdr h)
   simp only [List.length_cons] at h1 h2 h4 hk
   rw [BY.l0,if_pos (by simp; omega),if_pos ⟨by omega,by omega⟩,Int.toNat_natCast,g2,GU hK hu (by omega),Option.bind_some,GU hK hu' (by omega),Option.bind_some,up1 (by omega),List.foldl_cons]
   have key:dfS r u r' u' acc a=(if (vis r u a&&vis r' u' a)=true then CJ acc.1 acc.2 (acc.2+a.1.size) else if vis r' u' a=true then CK acc.1 a.1 else acc.1,if vis r u a=true then acc.2+a.1.size else acc.2):=rfl
   have b1:(dfS r u r' u' acc a).1.length≤acc.1.length+1:=by
    rw [key]
    simp only
    split
    ·exact YT
    ·split
     ·exact YW
     ·omega
   have b2:A9 (dfS r u r' u' acc a).1≤A9 acc.1+10:=by
    rw [key]
    simp only
    split
    ·rw [YU]; omega
    ·split
     ·rw [YX]; omega
     ·omega
   have b3:0≤(dfS r u r' u' acc a).2∧(dfS r u r' u' acc a).2≤acc.2+10:=by
    rw [key]
    simp only
    split <;> omega
   have ih:=OF hK hu hu' hl (r:=r) (r':=r') (n:=n) rest (j+1) k (dfS r u r' u' acc a) g3 (by omega) (by omega) (by omega) b3.1 (by omega)
   by_cases hz:vis r u a=false∧vis r' u' a=false
   ·rw [hz.1,hz.2,Bool.not_false,if_pos rfl,Option.bind_some,if_pos rfl,← ih,key,hz.1,hz.2]
    rfl
   ·have e:(if (!vis r u a)=true then some (!vis r' u' a) else some false)=some false:=by
     cases h5:vis r u a with
     | true => rfl
     | false =>
       cases h6:vis r' u' a with
       | true => rfl
       | false => exact (hz ⟨h5,h6⟩).elim
    rw [e,Option.bind_some,if_neg (by simp),V4 (by omega) (by omega) (by omega) h3 (by omega),Option.bind_some,← key]
    exact ih
def dfL (r:Int) (u:List Int) (r':Int) (u':List Int) (l:List Atm):List El×Int:=l.foldl (dfS r u r' u') ([],0)
def btR (l:List Atm) (us:List (List Int)) (f r r':Int):Int×List El×Int:=
 if lvR us f r=true∧lvR us f r'=true then
  if 60<(dfL r (unR us f r) r' (unR us f r') l).1.length then (0,[],70)
  else (((vtx r (unR us f r) l).length:Nat),(dfL r (unR us f r) r' (unR us f r') l).1,0)
 else (0,[],190)
theorem V5 {K:Nat} {l:List Atm} {us:List (List Int)} {f:Int} {g o:List Int} {r r':Int} (hK:100000≤K) (h:Ivt l us f g o):HA K l us f g o r r'=some (btR l us f r r'):=by
 have R:=h.rok
 have A:=h.aok
 have hu:=KU R (r:=r)
 have hu':=KU R (r:=r')
 have hln:=h.len
 have e:=OF (K:=K) (n:=(((E0 l us f r).1.size:Nat):Int)) (r:=r) (r':=r') hK (u:=unR us f r) (u':=unR us f r') (by omega) (by omega) A l 0 K ([],0) rfl (by omega) (by simp; omega) (by simp [A9]; omega) (by simp) (by simp; omega)
 have e:BY.l0 K l r (unR us f r) r' (unR us f r') (((E0 l us f r).1.size:Nat):Int) K [] 0 0=some (0,dfL r (unR us f r) r' (unR us f r') l):=e
 have e2:BY K l us f g o r r' (((E0 l us f r).1.size:Nat):Int) 0=some (if lvR us f r=true∧lvR us f r'=true then (0,dfL r (unR us f r) r' (unR us f r') l) else (190,([],0))):=by
  rw [BY,EP,JW R,Option.bind_some,Option.bind_some]
  by_cases h1:lvR us f r=true
  ·rw [h1,if_neg (by simp),EP,JW R,Option.bind_some,Option.bind_some,Option.bind_some]
   by_cases h2:lvR us f r'=true
   ·rw [h2,if_neg (by simp),DP,IM R,Option.bind_some,Option.bind_some,DP,IM R,Option.bind_some,Option.bind_some,FD,J9 hK A,Option.bind_some,Option.bind_some,e,if_pos ⟨rfl,rfl⟩]
   ·rw [if_pos (by simpa using h2),if_neg (fun h=>h2 h.2)]
  ·rw [if_pos (by simpa using h1),Option.bind_some,if_pos rfl,if_neg (fun h=>h1 h.1)]
 rw [HA,HF hK R A,Option.bind_some,JB,Option.bind_some,e2,Option.bind_some]
 unfold btR
 by_cases hc:lvR us f r=true∧lvR us f r'=true
 ·rw [if_pos hc,if_pos hc,if_neg (by simp),JA]
  have hsz:(E0 l us f r).1.size=(vtx r (unR us f r) l).length:=by unfold E0; rw [if_pos hc.1]; exact BD
  by_cases h60:60<(dfL r (unR us f r) r' (unR us f r') l).1.length
  ·rw [if_pos (by simp; omega),Option.bind_some,if_pos h60]
  ·rw [if_neg (by simp; omega),Option.bind_some,if_neg h60,hsz]
 ·rw [if_neg hc,if_neg hc,if_pos (by simp)]
def E6 (K:Nat) (base:Int) (d:List El) (l:List Sp):List Sp×Int:=(BL K l base d).getD ([],0)
theorem WB {K:Nat} {l:List Sp} {base:Int} {d:List El} (hK:100000≤K) (h:¬ (isD base d=true∧C0 base l=true)):BL K l base d=some ([],12):=by
 unfold BL
 rw [G7 (by omega),JT (by omega)]
 simp only [Option.bind_some]
 have:(if (!isD base d)=true then some true else some (!C0 base l))=some true:=by
  cases h1:isD base d with
  | false => rfl
  | true =>
    cases h2:C0 base l with
    | false => rfl
    | true => exact (h ⟨h1,h2⟩).elim
 rw [this,Option.bind_some,if_pos rfl]
theorem WC {K:Nat} {l:List Sp} {base:Int} {d:List El} (hK:100000<K) (hd:isD base d=true) (hi:C0 base l=true) :
 ∃ C,AE (AG d+A9 d) 0 0 C=true∧(∀ k,atS C k=atS ((l.map (goS base d)).filter neI) k)∧C.length≤l.length∧BL K l base d=some (C,0):=by
 obtain ⟨hl60,hok⟩:=QO hi
 obtain ⟨p1,p2,p3⟩:=XT hd hok
 have hfl:((l.map (goS base d)).filter neI).length≤l.length:=by
  have:=List.length_filter_le neI (l.map (goS base d))
  rw [List.length_map] at this; exact this
 obtain ⟨C,Z,c1,c2,c3,c4⟩:=U0 (K:=K) hK (by omega) (MN p2) p3
 refine ⟨C,c1,c2,by omega,?_⟩
 unfold BL
 have el:=P6 (K:=K) (base:=base) (d:=d) (by omega) (by omega) l 0 K [] rfl (by omega) (by simp)
 rw [show ((0:Nat):Int)=0 from rfl] at el
 rw [G7 (by omega),Option.bind_some,hd,JT (by omega),Option.bind_some,hi,if_neg (by simp),Option.bind_some,if_neg (by simp),el,Option.bind_some,List.nil_append,c4,Option.bind_some,if_neg (by omega)]
theorem P4 {K:Nat} {l:List Sp} {base:Int} {d:List El} (hK:100000<K) (hl:l.length≤60):BL K l base d=some (E6 K base d l)∧(E6 K base d l).1.length≤60:=by
 unfold E6
 by_cases h:isD base d=true∧C0 base l=true
 ·obtain ⟨C,c1,c2,c3,c4⟩:=WC hK h.1 h.2
  rw [c4]
  exact ⟨rfl,by simp only [Option.getD_some]; omega⟩
 ·rw [WB (by omega) h]
  exact ⟨rfl,by simp⟩
def FB (base:Int) (d:List El) (l:List Int):List Int×Int:=if isD base d=true∧isB base l=true then (edB base d l,0) else ([],12)
theorem W7 {K:Nat} {l:List Int} {base:Int} {d:List El} (hK:100000≤K) (hl:l.length≤1000):C5 K l base d=some (FB base d l):=by
 unfold C5 FB
 rw [G7 (by omega),Option.bind_some,M5 (by omega) (by omega)]
 cases h1:isD base d with
 | false => rfl
 | true =>
   cases h2:isB base l with
   | false => rfl
   | true =>
     have e:=P5 (K:=K) (base:=base) (e:=AG d+A9 d) (d:=d) (by omega) (by omega) l 0 K [] rfl (by omega) (by simp)
     rw [show ((0:Nat):Int)=0 from rfl] at e
     rw [if_neg (by simp),Option.bind_some,Option.bind_some,if_neg (by simp),W4 (by omega),h1,if_pos rfl,Option.bind_some,e,if_pos ⟨rfl,rfl⟩]
     rfl
theorem W8 {base:Int} {d:List El} {l:List Int}:(FB base d l).1.length≤l.length:=by
 unfold FB
 split
 ·exact W6
 ·simp
def flR (K:Nat) (b:Int×List El×Int) (sel:List Rg) (sp:List Sp) (bk:List Int):Int×List Rg×List Sp×List Int:=
 if b.2.2≠0 then (b.2.2,sel,sp,bk)
 else if (mvR b.1 b.2.1 sel).2≠0 then ((mvR b.1 b.2.1 sel).2,(mvR b.1 b.2.1 sel).1,sp,bk)
 else if (E6 K b.1 b.2.1 sp).2≠0 then ((E6 K b.1 b.2.1 sp).2,(mvR b.1 b.2.1 sel).1,(E6 K b.1 b.2.1 sp).1,bk)
 else ((FB b.1 b.2.1 bk).2,(mvR b.1 b.2.1 sel).1,(E6 K b.1 b.2.1 sp).1,(FB b.1 b.2.1 bk).1)
theorem DK {K:Nat} {l:List Atm} {us:List (List Int)} {f:Int} {g o:List Int} {R:Option (Option Tree)} {sel:List Rg} {sp:List Sp} {bk:List Int} (h:Rok us f g o):AN K l us f g o R sel sp bk=some (hdR us f):=by
 rw [AN,JH h,Option.bind_some]
theorem XO {K:Nat} {l l0:List Atm} {us us0:List (List Int)} {f f0:Int} {g o g0 o0:List Int} {R R0:Option (Option Tree)} {sel sel0:List Rg} {sp sp0:List Sp} {bk bk0:List Int} (hK:100000<K) (h:Ivt l us f g o) (h0:Rok us0 f0 g0 o0) (h1:sel.length≤1000) (h2:sp.length≤60) (h3:bk.length≤1000) :
 F5 K l us f g o R sel sp bk l0 us0 f0 g0 o0 R0 sel0 sp0 bk0=some (flR K (btR l us f (hdR us0 f0) (hdR us f)) sel sp bk):=by
 rw [F5,DK h0,Option.bind_some,DK h.rok,Option.bind_some,V5 (by omega) h,Option.bind_some]
 unfold flR
 generalize btR l us f (hdR us0 f0) (hdR us f)=b
 by_cases e1:b.2.2=0
 ·rw [if_neg (by simpa using e1),if_neg (by simpa using e1),Z0 (by omega) h1,Option.bind_some]
  by_cases e2:(mvR b.1 b.2.1 sel).2=0
  ·rw [if_neg (by simpa using e2),if_neg (by simpa using e2),(P4 hK h2).1,Option.bind_some]
   by_cases e3:(E6 K b.1 b.2.1 sp).2=0
   ·rw [if_neg (by simpa using e3),if_neg (by simpa using e3),W7 (by omega) h3,Option.bind_some]
   ·rw [if_pos (by simpa using e3),if_pos e3]
  ·rw [if_pos (by simpa using e2),if_pos e2]
 ·rw [if_pos (by simpa using e1),if_pos e1]
theorem dQ {K:Nat} {l:List Atm} {us:List (List Int)} {f:Int} {g o:List Int} {R:Option (Option Tree)} {sel:List Rg} {sp:List Sp} {bk:List Int} (hK:100000≤K) (h:Ivt l us f g o) (hv:Av l):∃ R',EI K l us f g o R sel sp bk=some R'∧RS R' (ofBytes (A7 l us f)):=by
 have ht:=h.vtx (rev:=hdR us f) (u:=lsR us)
 obtain ⟨q,q1,q2⟩:=SI (K:=K) (s:=ofBytes (A7 l us f)) hK (by rw [BD]; unfold A7; omega) (OD hv)
 refine ⟨some q,?_,q2⟩
 rw [EI,DK h.rok,Option.bind_some,HF hK h.rok h.aok,Option.bind_some]
 unfold E0
 rw [if_pos (K1 h.ne),IL h.ne]
 unfold A7 at q1
 simp only
 rw [q1,Option.bind_some]
structure Vi (l:List Atm) (us:List (List Int)) (f:Int) (g o:List Int) (R:Option (Option Tree)) (sel:List Rg) (sp:List Sp) (bk:List Int):Prop where
 iv:Ivt l us f g o
 av:Av l
 rs:RS R (ofBytes (A7 l us f))
 se:sel.length≤1000
 st:sp.length≤60
 br:bk.length≤100
theorem IX {K:Nat} {l:List Atm} {us:List (List Int)} {f:Int} {g o:List Int} {R:Option (Option Tree)} {sel:List Rg} {sp:List Sp} {bk:List Int} (hK:100000≤K) (V:Vi l us f g o R sel sp bk):C4 K l us f g o R sel sp bk=some (ofBytes (A7 l us f)):=by
 rw [C4,V.rs K hK,Option.bind_some]
theorem Vi.len {l:List Atm} {us:List (List Int)} {f:Int} {g o:List Int} {R:Option (Option Tree)} {sel:List Rg} {sp:List Sp} {bk:List Int} (V:Vi l us f g o R sel sp bk):(A7 l us f).length≤16000:=V.iv.vtx
theorem UK {K:Nat} {l:List Atm} {us:List (List Int)} {f:Int} {g o:List Int} {R:Option (Option Tree)} {sel:List Rg} {sp:List Sp} {bk:List Int} (h:sel.length≤1000):GT K l us f g o R sel sp bk=some sel:=by
 rw [GT,L0,if_pos ⟨by omega,by omega,by omega,by omega⟩,Option.bind_some,FI (by simp),List.take_of_length_le (by simp)]
theorem gL {K:Nat} {l:List Atm} {us:List (List Int)} {f:Int} {g o:List Int} {R:Option (Option Tree)} {sel:List Rg} {sp:List Sp} {bk:List Int} (h:sp.length≤60):IT K l us f g o R sel sp bk=some sp:=by
 rw [IT,L1,if_pos ⟨by omega,by omega,by omega,by omega⟩,Option.bind_some,FI (by simp),List.take_of_length_le (by simp)]
theorem fQ {K:Nat} {l:List Atm} {us:List (List Int)} {f:Int} {g o:List Int} {R:Option (Option Tree)} {sel:List Rg} {sp:List Sp} {bk:List Int} (h:bk.length≤1000):IQ K l us f g o R sel sp bk=some bk:=by
 rw [IQ,L2,if_pos ⟨by omega,by omega,by omega,by omega⟩,Option.bind_some,FI (by simp),List.take_of_length_le (by simp)]
theorem UG {K:Nat} {l:List Atm} {us:List (List Int)} {f:Int} {g o:List Int} {R:Option (Option Tree)} {sel:List Rg} {sp:List Sp} {bk:List Int} (hK:100000≤K) (V:Vi l us f g o R sel sp bk):F4 K l us f g o R sel sp bk=some (l,us,g,o,sel,sp,bk):=by
 rw [F4,LR hK V.iv.rok V.iv.aok,Option.bind_some,UK V.se,Option.bind_some,gL V.st,Option.bind_some,fQ (by have:=V.br; omega),Option.bind_some]
theorem Vi.anew {K:Nat} {l:List Atm} {us:List (List Int)} {f:Int} {g o:List Int} (hK:100000≤K) (R:Option (Option Tree)) {sel:List Rg} {sp:List Sp} {bk:List Int} (iv:Ivt l us f g o) (av:Av l) (h1:sel.length≤1000) (h2:sp.length≤60) (h3:bk.length≤100):∃ R',EI K l us f g o R sel sp bk=some R'∧Vi l us f g o R' sel sp bk:=by
 obtain ⟨R',e,h⟩:=dQ (K:=K) (R:=R) (sel:=sel) (sp:=sp) (bk:=bk) hK iv av
 exact ⟨R',e,iv,av,h,h1,h2,h3⟩
theorem W3 {K:Nat} {l:List Atm} {us:List (List Int)} {f:Int} {g o:List Int} {R:Option (Option Tree)} {sel rg sel':List Rg} {sp:List Sp} {bk:List Int} (hK:100000≤K) (V:Vi l us f g o R sel sp bk) (h:DW K rg (ofBytes (A7 l us f))=some (sel',0)) (hs:sel'.length≤1000) :
 ∃ R',IR K l us f g o R sel sp bk 4 0 0 0 rg ByteArray.empty 0 0 0=some (hdR us f,0,l,us,f,g,o,R',sel',sp,bk)∧Vi l us f g o R' sel' sp bk:=by
 have hln:=V.len
 obtain ⟨R',e,V'⟩:=Vi.anew hK R V.iv V.av hs V.st V.br
 refine ⟨R',?_,V'⟩
 have em:IW K l us f g o R sel sp bk 4 0 0 0 rg ByteArray.empty 0 0 0=some (0,l,us,f,g,o,sel',sp,bk):=by
  rw [IW,IX hK V,Option.bind_some,if_neg (by decide),if_pos (by decide),h,Option.bind_some]
 rw [IR,if_neg (by decide),show (some (decide ((4:Int) > 8)))=some false from rfl,Option.bind_some,if_neg (by decide),UG hK V,Option.bind_some,F6,Option.bind_some,if_pos (by decide),if_neg (by decide)]
 simp only
 rw [em,Option.bind_some,Option.bind_some]
 simp only
 rw [if_neg (by decide),e,Option.bind_some,DK V.iv.rok,Option.bind_some]
theorem gK {K:Nat} (hK:100000≤K):∃ R,GR K=some ([[]],[],[],R)∧Vi [] [[]] 0 [] [] R [((0:Int),(0:Int))] [] []:=by
 have hi:=Z7
 obtain ⟨q,q1,q2⟩:=SI (K:=K) (s:=ofBytes (A7 [] [[]] 0)) hK (by decide) (by decide)
 refine ⟨some q,?_,hi,fun a ha=>(List.not_mem_nil ha).elim,q2,by decide,by decide,by decide⟩
 have R:=Iv.r hi
 have A:=Iv.k hi
 have e1:IS K [] [[]] 0 [] [] (List.replicate 1 ((0:Int),(0:Int)))=some (hdR [[]] 0):=by
  rw [IS]
  have:=JH (K:=K) (l:=[]) R
  have this:E8 K [] [[]] 0 [] []=some (hdR [[]] 0):=this
  rw [this,Option.bind_some]
 have e2:DO K [] [[]] 0 [] [] (hdR [[]] 0)=some (ofBytes (A7 [] [[]] 0),0):=HF (r:=hdR [[]] 0) hK R A
 rw [GR,X5,Option.bind_some,KY,e1,Option.bind_some,e2,Option.bind_some]
 simp only
 rw [q1,Option.bind_some,Option.bind_some]
theorem UU (n:Nat) (x:Int×Int):FJ (n+40) [x]=some [x]:=by kernel_rfl
theorem YZ {K:Nat} {s:ByteArray} {p:Int} (hK:100000≤K) (hs:s.size≤50000) (h:isE s p=true):DW K [(p,p)] s=some ([(p,p)],0):=by
 obtain ⟨n,rfl⟩:∃ n,K=n+40:=⟨K - 40,by omega⟩
 obtain ⟨h1,h2,-,-⟩:=G6 h
 have he:edR s (p,p)=true:=by unfold edR; rw [h]; rfl
 have hi:inR s.size (p,p)=true:=P3 he
 unfold DW EX EW
 rw [LE,Option.bind_some,if_neg (by simp),Option.bind_some,LY (by simp) (by simp),Option.bind_some,if_neg (by simp [hi]),Option.bind_some,LX (by omega) (by omega) (by simp) (by simp),Option.bind_some,if_neg (by simp [he]),UU,Option.bind_some]
theorem UM {r:Int} {u:List Int}:∀ {l:List Atm},(∀ a∈l,vis r u a=false)→vtx r u l=[]
 | [],_ => rfl
 | a :: l,h => by
   simp only [vtx]
   rw [h a List.mem_cons_self,if_neg (by simp)]
   exact UM fun b hb=>h b (List.mem_cons_of_mem _ hb)
def BT (x:Int×Int):Int:=x.1+x.2
theorem K6 {p:Int} {r1 r2:List El} (h:∀ n w,BT (mvE p n w r1)=BT (mvE p n w r2)):∀ (m:List El) (n w:Int),BT (mvE p n w (m++r1))=BT (mvE p n w (m++r2))
 | [],n,w => h n w
 | x :: m,n,w => by
   simp only [List.cons_append,mvE]
   split
   ·split
    ·rfl
    ·split
     ·rfl
     ·exact K6 h m _ _
   ·exact K6 h m _ _
theorem Z4 {p:Int} {d r:List El} {f t:Int} (hft:f<t):BT (mvE p 0 0 (CJ d f t++r))=BT (mvE p 0 0 (d++(f,(t,ByteArray.empty)) :: r)):=by
 by_cases h:d=[]
 ·subst h
  rw [R7,if_neg (by omega)]
  rfl
 ·obtain ⟨m,x,rfl⟩:=DZ h
  rw [R6,if_neg (by omega)]
  split
  ·rename_i hx
   rw [List.append_assoc,List.append_assoc]
   refine K6 (fun n w=>?_) m 0 0
   obtain ⟨a,b,s⟩:=x
   simp only at hx
   obtain ⟨h1,rfl⟩:=hx
   simp only [List.cons_append,List.nil_append,mvE,h1,if_true,HE]
   by_cases c1:a≥p
   ·rw [if_pos c1,if_pos c1]
   ·rw [if_neg c1,if_neg c1]
    by_cases c2:b > p
    ·rw [if_pos c2,if_pos (by omega)]
     unfold BT; simp only; omega
    ·rw [if_neg c2]
     by_cases c3:b≥p
     ·rw [if_pos c3]
      by_cases c4:t > p
      ·rw [if_pos c4]; unfold BT; simp only; omega
      ·omega
     ·rw [if_neg c3]
      by_cases c4:t > p
      ·rw [if_pos c4,if_pos c4]; unfold BT; simp only; omega
      ·rw [if_neg c4,if_neg c4]
       congr 2 <;> omega
  ·rw [List.append_assoc,List.append_assoc,List.append_assoc]
   rfl
theorem Z6 {p:Int} {d r:List El} {s:ByteArray} (hs:0<s.size):BT (mvE p 0 0 (CK d s++r))=BT (mvE p 0 0 (d++(0,(0,s)) :: r)):=by
 by_cases h:d=[]
 ·subst h
  rw [R9,if_neg (by omega)]
  rfl
 ·obtain ⟨m,x,rfl⟩:=DZ h
  rw [R8,if_neg (by omega)]
  split
  ·rw [List.append_assoc,List.append_assoc,List.append_assoc]
   rfl
  ·rename_i hx
   rw [List.append_assoc,List.append_assoc]
   refine K6 (fun n w=>?_) m 0 0
   obtain ⟨a,b,q⟩:=x
   simp only at hx
   have hq:(q++s).size≠0:=by rw [BV]; omega
   simp only [List.cons_append,List.nil_append,mvE,if_neg hx,if_neg hq,if_neg (show ¬ s.size=0 by omega)]
   rw [BV]
   congr 2
   omega
def plE (r:Int) (u:List Int) (r':Int) (u':List Int):Int→List Atm→List El
 | _,[] => []
 | q,a :: l => if (vis r u a && vis r' u' a)=true then (q,(q+a.1.size,ByteArray.empty)) :: plE r u r' u' (q+a.1.size) l
   else if vis r' u' a=true then (0,(0,a.1)) :: plE r u r' u' q l
   else plE r u r' u' (if vis r u a=true then q+a.1.size else q) l
theorem PR {r r' p:Int} {u u':List Int}:∀ {l:List Atm} {acc:List El×Int},(∀ a∈l,1≤a.1.size)→BT (mvE p 0 0 (l.foldl (dfS r u r' u') acc).1)=BT (mvE p 0 0 (acc.1++plE r u r' u' acc.2 l))
 | [],acc,_ => by simp [plE]
 | a :: l,acc,h => by
   have ha:=h a List.mem_cons_self
   rw [List.foldl_cons,PR fun b hb=>h b (List.mem_cons_of_mem _ hb),plE]
   unfold dfS
   cases h1:vis r u a with
   | true =>
     cases h2:vis r' u' a with
     | true =>
       simp only [Bool.and_self,if_true]
       exact Z4 (by omega)
     | false => simp only [Bool.and_false,Bool.false_eq_true,if_false,if_true]
   | false =>
     cases h2:vis r' u' a with
     | true =>
       simp only [Bool.and_true,Bool.false_eq_true,if_false,if_true]
       exact Z6 (by omega)
     | false => simp only [Bool.and_false,Bool.false_eq_true,if_false]
def nxA (p r:Int) (u:List Int) (r':Int) (u':List Int):Int→Int→List Atm→Int
 | _,y,[] => y
 | q,y,a :: l => if q ≥ p ∧ (vis r u a && vis r' u' a)=true then y else nxA p r u r' u' (if vis r u a=true then q+a.1.size else q) (if vis r' u' a=true then y+a.1.size else y) l
def bdA (p r:Int) (u:List Int):Int→List Atm→Prop
 | _,[] => True
 | q,a :: l => (vis r u a=true → ¬ (q<p ∧ p<q+a.1.size)) ∧ bdA p r u (if vis r u a=true then q+a.1.size else q) l
theorem RU {p r r':Int} {u u':List Int}:∀ {l:List Atm} {q n w:Int},(∀ a∈l,1≤a.1.size)→bdA p r u q l→BT (mvE p n w (plE r u r' u' q l))=nxA p r u r' u' q (n+w) l
 | [],q,n,w,_,_ => rfl
 | a :: l,q,n,w,h,hb => by
   have ha:=h a List.mem_cons_self
   obtain ⟨b1,b2⟩:=hb
   have ih:=fun q n w=>RU (p:=p) (r:=r) (r':=r') (u:=u) (u':=u') (l:=l) (q:=q) (n:=n) (w:=w) fun b hb=>h b (List.mem_cons_of_mem _ hb)
   rw [plE,nxA]
   cases h1:vis r u a with
   | true =>
     rw [h1] at b1 b2
     simp only [if_true] at b2
     have b1:=b1 rfl
     cases h2:vis r' u' a with
     | true =>
       simp only [Bool.and_self,if_true,mvE,HE,and_true]
       by_cases c:q≥p
       ·rw [if_pos c,if_pos c]; rfl
       ·rw [if_neg c,if_neg c,if_neg (by omega),ih _ _ _ b2]
        congr 1
        omega
     | false =>
       simp only [Bool.and_false,Bool.false_eq_true,if_false,if_true,and_false]
       exact ih _ _ _ b2
   | false =>
     rw [h1] at b2
     simp only [Bool.false_eq_true,if_false] at b2
     cases h2:vis r' u' a with
     | true =>
       simp only [Bool.false_and,Bool.false_eq_true,if_false,if_true,and_false,mvE,if_neg (show ¬ a.1.size=0 by omega)]
       rw [ih _ _ _ b2]
       congr 1
       omega
     | false =>
       simp only [Bool.and_false,Bool.false_eq_true,if_false,and_false]
       exact ih _ _ _ b2
theorem VY {p r r':Int} {u u':List Int} {l:List Atm} (h:∀ a∈l,1≤a.1.size) (hb:bdA p r u 0 l):BT (mvE p 0 0 (dfL r u r' u' l).1)=nxA p r u r' u' 0 0 l:=by
 unfold dfL
 rw [PR h]
 exact RU h hb
theorem SM {K:Nat} {u:List Int} {g:Int} (hK:100000≤K) (hu:u.length≤50000):GA K u g=some (!holds g u):=by
 rw [GA]
 unfold holds
 by_cases h:g = -1
 ·rw [if_neg (by simp [h])]; simp [h]
 ·rw [if_pos (by simpa using h),XU hK (by omega),Option.bind_some]
  simp [h]
theorem SN {K:Nat} {l:List (Int×Int)} {u:List Int} {rev:Int} (hK:100000≤K) (hu:u.length≤50000) (hl:l.length≤50000):∀ (r:List (Int×Int)) (j k:Nat),l.drop j=r→r.length<k→BP.l0 K l rev u k (j:Int)=some (!r.any (EO rev u))
 | [],j,k+1,h,_ => by
   have:=A6 h
   rw [BP.l0,if_neg (by simp; omega)]
   rfl
 | c :: r,j,k+1,h,hk => by
   obtain ⟨h1,h2,h3⟩:=A4 h ((0:Int),(0:Int))
   have hb:0≤(j:Int)∧(j:Int)<l.length:=⟨by omega,by omega⟩
   rw [BP.l0,if_pos (by simp; omega),Int.toNat_natCast,h2,SM hK hu,Option.bind_some,up1 (by omega),SN hK hu hl r (j+1) k h3 (by simpa using hk)]
   simp only [if_pos hb,List.any_cons,EO]
   by_cases hc:c.1≤rev
   ·rw [if_pos (by simpa using hc),Option.bind_some,decide_eq_true hc]
    cases holds c.2 u <;> simp
   ·rw [if_neg (by simpa using hc),Option.bind_some,decide_eq_false hc]
    simp
theorem N6 {K:Nat} {a:Atm} {u:List Int} {rev:Int} (hK:100000≤K) (hu:u.length≤50000) (hl:a.2.2.2.2.length≤50000):BP K a.1 a.2.1 a.2.2.1 a.2.2.2.1 a.2.2.2.2 rev u=some (vis rev u a):=by
 rw [BP,SM hK hu,Option.bind_some]
 have e:=SN (K:=K) (rev:=rev) hK hu hl a.2.2.2.2 0 K rfl (by omega)
 have e:BP.l0 K a.2.2.2.2 rev u K 0=_:=e
 rw [e]
 unfold vis
 by_cases hc:a.2.1≤rev
 ·rw [if_neg (by simp; omega),Option.bind_some,decide_eq_true hc]
  cases holds a.2.2.1 u <;> simp
 ·rw [if_pos (by simp; omega),Option.bind_some,decide_eq_false hc]
  simp
theorem MR {rev:Int} {u:List Int} {p:Int} {l:List Atm}:plc rev u p l=p :: (plc rev u p l).tail:=by
 cases l <;> rfl
theorem N5 {K:Nat} {l:List Atm} {u:List Int} {rev:Int} (hK:100000≤K) (hu:u.length≤50000) (hl:Aok l):∀ (r:List Atm) (j k:Nat) (n:Int) (x:List Int),l.drop j=r→r.length<k→x.length+r.length≤1000000→0≤n→n+10 * r.length≤1000000→
 BO.l0 K l rev u k n x (j:Int)=some (x++(plc rev u n r).tail)
 | [],j,k+1,n,x,h,_,_,_,_ => by
   have:=A6 h
   rw [BO.l0,if_neg (by simp; omega)]
   simp [plc]
 | g :: r,j,k+1,n,x,h,hk,hx,h0,hn => by
   obtain ⟨h1,h2,h3⟩:=A4 h zA
   have hlen:=hl.1
   have hg:=hl.2 g (mdr h)
   simp only [List.length_cons] at hx hn
   rw [BO.l0,if_pos (by simp; omega),Int.toNat_natCast,h2,N6 hK hu (by omega),Option.bind_some,if_pos ⟨by omega,by omega⟩,up1 (by omega)]
   have e:(plc rev u n (g :: r)).tail=plc rev u (if vis rev u g=true then n+g.1.size else n) r:=rfl
   rw [e]
   cases hv:vis rev u g with
   | true =>
     rw [if_pos rfl,if_pos rfl,w64 (by omega) (by omega),if_pos (by simp; omega),N5 hK hu hl r (j+1) k _ _ h3 (by simpa using hk) (by simp; omega) (by omega) (by omega),List.append_assoc]
     congr 2
     exact MR.symm
   | false =>
     simp only [Bool.false_eq_true,if_false]
     rw [if_pos (by simp; omega),N5 hK hu hl r (j+1) k _ _ h3 (by simpa using hk) (by simp; omega) (by omega) (by omega),List.append_assoc]
     congr 2
     exact MR.symm
theorem SL {K:Nat} {l:List Atm} {u:List Int} {rev:Int} (hK:100000≤K) (hu:u.length≤50000) (hl:Aok l):BO K l rev u=some (plc rev u 0 l):=by
 have hlen:=hl.1
 have e:=N5 (K:=K) (rev:=rev) hK hu hl l 0 K 0 [0] rfl (by omega) (by simp; omega) (by omega) (by omega)
 have e:BO.l0 K l rev u K 0 [0] 0=_:=e
 rw [BO,e]
 congr 1
 exact MR.symm
theorem aL {K:Nat} {s:ByteArray} {p:Int} (hK:s.size+10≤K) (hs:s.size≤1000000):HW K s p=some (isE s p):=by
 have hb:=AF (s:=s) (i:=p)
 rw [HW,bI hK (by omega),Option.bind_some]
 unfold isE
 by_cases h0:p<0
 ·rw [if_pos (by simpa using h0),Option.bind_some,if_pos rfl,decide_eq_false (by omega),Bool.false_and]
 rw [if_neg (by simpa using h0)]
 by_cases h1:p > s.size
 ·rw [if_pos (by simpa using h1),Option.bind_some,if_pos rfl,decide_eq_false (by omega),Bool.false_and]
 rw [if_neg (by simpa using h1),Option.bind_some,decide_eq_true ⟨by omega,by omega⟩,Bool.true_and]
 cases A8 s with
 | false => rfl
 | true =>
   rw [if_neg (by simp),Bool.true_and]
   by_cases h2:p=s.size
   ·rw [if_pos (by simpa using h2),decide_eq_true h2]; rfl
   ·rw [if_neg (by simpa using h2),if_pos ⟨by omega,by omega⟩,w64 (by omega) (by omega),LI hb.1 hb.2,decide_eq_false h2,Bool.false_or]
def fC (c:Bool×Int) (w:Int):Int:=if c.1=true then c.2 else w
def csA (p r:Int) (u:List Int) (r':Int) (u':List Int):Int→Int→List Atm→List (Bool×Int)
 | _,_,[] => []
 | q,y,a :: l => (decide (q ≥ p) && (vis r u a && vis r' u' a),y) :: csA p r u r' u' (if vis r u a=true then q+a.1.size else q) (if vis r' u' a=true then y+a.1.size else y) l
theorem OR {p r r':Int} {u u':List Int}:∀ {l:List Atm} {q y:Int},(csA p r u r' u' q y l).length=l.length
 | [],_,_ => rfl
 | a :: l,q,y => by simp [csA,OR]
theorem OS {p r r':Int} {u u':List Int}:∀ {l:List Atm} {q y:Int},(csA p r u r' u' q y l).foldr fC (y+vsz r' u' l)=nxA p r u r' u' q y l
 | [],q,y => by simp [csA,nxA,vsz,vtx]
 | a :: l,q,y => by
   have ih:=OS (p:=p) (r:=r) (r':=r') (u:=u) (u':=u') (l:=l) (q:=if vis r u a=true then q+a.1.size else q) (y:=if vis r' u' a=true then y+a.1.size else y)
   have e:y+vsz r' u' (a :: l)=(if vis r' u' a=true then y+(a.1.size:Int) else y)+vsz r' u' l:=by
    rw [gM]
    split <;> omega
   rw [csA,List.foldr_cons,nxA,e,ih]
   simp only [fC,Bool.and_eq_true,decide_eq_true_eq]
theorem OQ {p r r':Int} {u u':List Int}:∀ {l:List Atm} {q y:Int} {j:Nat},j<l.length→(csA p r u r' u' q y l)[j]? = some (decide ((plc r u q l).getD j 0≥p)&&(vis r u (l.getD j zA)&&vis r' u' (l.getD j zA)),(plc r' u' y l).getD j 0)
 | a :: l,q,y,0,_ => by simp [csA,plc]
 | a :: l,q,y,j+1,h => by
   have:=OQ (p:=p) (r:=r) (r':=r') (u:=u) (u':=u') (l:=l) (q:=if vis r u a=true then q+a.1.size else q) (y:=if vis r' u' a=true then y+a.1.size else y) (j:=j) (by simpa using h)
   simpa [csA,plc] using this
theorem dJ {c:List (Bool×Int)} {j:Nat} {x:Bool×Int} {w:Int} (h:c[j]? = some x):(c.take (j+1)).foldr fC w=(c.take j).foldr fC (fC x w):=by
 rw [List.take_add_one,h,List.foldr_append]
 rfl
theorem L7 {p r:Int} {u:List Int} {T:List Int} (hT:∀ (k:Nat) (b:Int),(k:Int)=p→T[k]? = some b→¬ A0 b):∀ {l:List Atm} {q:Nat},Av l→(∀ i,(vtx r u l)[i]? = T[q+i]?)→bdA p r u (q:Int) l
 | [],_,_,_ => trivial
 | a :: l,q,ha,hq => by
   have h1:=ha a List.mem_cons_self
   have hl:Av l:=fun b hb=>ha b (List.mem_cons_of_mem _ hb)
   rw [bdA]
   cases hv:vis r u a with
   | true =>
     have hx:vtx r u (a :: l)=bytesL a.1++vtx r u l:=by simp only [vtx]; rw [hv,if_pos rfl]
     rw [hx] at hq
     refine ⟨fun _ hp=>?_,?_⟩
     ·obtain ⟨k,hk⟩:∃ k:Nat,(k:Int)=p - q:=⟨(p - q).toNat,by omega⟩
      have hb:=J3 (s:=a.1) (i:=k) (by omega)
      have:=hq k
      rw [List.getElem?_append_left (by rw [C6]; omega),hb] at this
      exact hT (q+k) _ (by omega) this.symm (h1.2 k (by omega) (by omega))
     ·rw [if_pos rfl,show (q:Int)+(a.1.size:Int)=((q+a.1.size:Nat):Int) by omega]
      refine L7 hT hl fun i=>?_
      have:=hq (a.1.size+i)
      rw [List.getElem?_append_right (by rw [C6]; omega),C6,Nat.add_sub_cancel_left] at this
      rw [this,Nat.add_assoc]
   | false =>
     have hx:vtx r u (a :: l)=vtx r u l:=by simp only [vtx]; rw [hv,if_neg (by simp)]
     rw [hx] at hq
     refine ⟨fun h=>by simp at h,?_⟩
     rw [if_neg (by simp)]
     exact L7 hT hl hq
theorem gI {r:Int} {u:List Int} {a:Atm} {w g:Int} (h:r<w):vis r u (E1 a (w,g))=vis r u a:=by
 unfold vis E1
 simp only [List.any_append,List.any_cons,List.any_nil,EO]
 rw [decide_eq_false (show ¬ w≤r by omega)]
 simp
theorem UL {r:Int} {u:List Int} {w g:Int} (h:r<w):∀ {bs:List Bool} {l:List Atm},vtx r u (ctA (w,g) bs l)=vtx r u l
 | [],l => by simp [ctA]
 | _ :: _,[] => rfl
 | b :: bs,a :: l => by
   simp only [ctA,vtx,UL h]
   cases b with
   | false => rfl
   | true =>
     simp only [if_true,gI h]
     rfl
theorem UN {r:Int} {u:List Int} {old:List Atm}:∀ {rs:List (Nat×List Atm)} {p:Nat},Inc p rs→(∀ q∈rs,∀ a∈q.2,vis r u a=false)→vtx r u (spl old p rs)=vtx r u (old.drop p)
 | [],p,_,_ => rfl
 | (s,x) :: rs,p,hi,hx => by
   obtain ⟨hps,hi⟩:=hi
   have hps:p≤s:=hps
   simp only [spl]
   rw [IY,IY,UN hi (fun q hq=>hx q (List.mem_cons_of_mem _ hq)),UM (hx _ List.mem_cons_self),List.nil_append,← IY]
   congr 1
   have:old.drop s=(old.drop p).drop (s - p):=by rw [List.drop_drop]; congr 1; omega
   rw [this,List.take_append_drop]
theorem gN {r rev:Int} {u v:List Int} {w g rank:Int} {c:List Chg} {s:ByteArray} {l:List Atm} (h:r<w) (G:Gok s c):vtx r u (upS rev v c w g rank l)=vtx r u l:=by
 unfold upS
 rw [UN (Q4 G.od (fun x hx=>(G.bd x hx).2.1) fun _ _=>Nat.zero_le _) (fun q hq a ha=>by
  obtain ⟨y,hy,rfl⟩:=List.mem_map.1 hq
  obtain ⟨_,_,e⟩:=MV (G.vt y hy) a ha
  unfold vis
  rw [e,decide_eq_false (by simp only; omega)]
  rfl),List.drop_zero,UL h]
theorem ZU {K:Nat} {l:List Sp} {a b s:Int} (hK:100000<K) (hl:l.length≤60):∃ r:List Sp×Int,B5 K l a b s=some r∧r.1.length≤60:=by
 by_cases h:C0 20000 l=true∧0≤s∧s≤100∧0≤a∧a≤b∧b≤20000
 ·obtain ⟨h1,h2,h3,h4,h5,h6⟩:=h
  obtain ⟨-,hok⟩:=QO h1
  obtain ⟨C,c1,c2,c3,c4⟩:=ZW (K:=K) (n:=20000) hK hl hok (by omega) ⟨h2,h3⟩ h4 h5 h6
  refine ⟨_,c4,?_⟩
  split
  ·simp
  ·simp only; omega
 ·exact ⟨_,ZV hK h,by simp⟩
theorem ZT {K:Nat} {l:List Int} {t:Int} (hK:100000<K) (hl:l.length≤100):∃ r:List Int×Int,DF K l t=some r∧r.1.length≤100:=by
 by_cases h:isB 20000 l=true∧0<t∧t<20000
 ·obtain ⟨h1,h2,h3⟩:=h
  obtain ⟨hok,hl6⟩:=QJ h1
  refine ⟨_,aB hK h1 h2 h3,?_⟩
  split
  ·exact hl
  ·split
   ·simp
   ·rename_i hn _
    simp only
    rw [aC (MO hok) hn]
    omega
 ·exact ⟨_,ZZ (by omega) hl h,by simp⟩
def edG (l:List Atm) (us:List (List Int)) (f:Int) (g o:List Int) (sel:List Rg) (kd base grp rank:Int) (c:List Chg) (t:ByteArray):Int×Int×List Atm×List (List Int)×List Int×List Int:=
 if kd=1 then C7 l us f g o base grp rank c
 else if kd=2 then D7 l us f g o grp
 else if kd=5 then C7 l us f g o (hdR us f) grp 0 (sel.map (tyC t))
 else if 0<(if isR (ofBytes (A7 l us f)) sel=true then erC (ofBytes (A7 l us f)) 0 sel else []).length then C7 l us f g o (hdR us f) grp 0 (if isR (ofBytes (A7 l us f)) sel=true then erC (ofBytes (A7 l us f)) 0 sel else [])
 else (0,0,l,us,g,o)
theorem WA {l:List Atm} {us:List (List Int)} {f:Int} {g o:List Int} {sel:List Rg} {kd base grp rank:Int} {c:List Chg} {t:ByteArray} (h:Ivt l us f g o) (hv:Av l):Ivt (edG l us f g o sel kd base grp rank c t).2.2.1 (edG l us f g o sel kd base grp rank c t).2.2.2.1 f (edG l us f g o sel kd base grp rank c t).2.2.2.2.1 (edG l us f g o sel kd base grp rank c t).2.2.2.2.2∧Av (edG l us f g o sel kd base grp rank c t).2.2.1:=by
 unfold edG
 split
 ·exact ⟨LN h,L6 hv⟩
 ·split
  ·exact ⟨dN h,UZ hv⟩
  ·split
   ·exact ⟨LN h,L6 hv⟩
   ·generalize (if isR (ofBytes (A7 l us f)) sel=true then erC (ofBytes (A7 l us f)) 0 sel else [])=cs
    split
    ·exact ⟨LN h,L6 hv⟩
    ·exact ⟨h,hv⟩
theorem LU {s:ByteArray}:∀ {l:List Rg} {e:Int},∀ x∈erC s e l,x.2.2=ByteArray.empty
 | [],e,x,h => by simp [erC] at h
 | y :: l,e,x,h => by
   rw [erC] at h
   split at h
   ·exact LU x h
   ·rcases List.mem_cons.1 h with rfl | h
    ·rfl
    ·exact LU x h
theorem W9 {K:Nat} {l:List Atm} {us:List (List Int)} {f:Int} {g o gs:List Int} {R:Option (Option Tree)} {sel rg:List Rg} {sp:List Sp} {bk:List Int} {kd base grp rank x y z:Int} {c:List Chg} {t:ByteArray} (hK:100000<K) (V:Vi l us f g o R sel sp bk) (hc:Cok c) (ht:t.size≤30000) :
 IU K l us f g o R sel sp bk kd base grp rank c gs rg t x y z=some (edG l us f g o sel kd base grp rank c t).2:=by
 have hse:=V.se
 have hln:=V.len
 unfold IU edG
 by_cases h1:kd=1
 ·rw [if_pos (by simpa using h1),if_pos h1,LO (by omega) V.iv hc,Option.bind_some]
 rw [if_neg (by simpa using h1),if_neg h1]
 by_cases h2:kd=2
 ·rw [if_pos (by simpa using h2),if_pos h2,XE (by omega) V.iv,Option.bind_some]
 rw [if_neg (by simpa using h2),if_neg h2]
 by_cases h5:kd=5
 ·rw [if_pos (by simpa using h5),if_pos h5,DK V.iv.rok,Option.bind_some,eH (by omega) (by omega),Option.bind_some,LO (by omega) V.iv ⟨by rw [List.length_map]; omega,fun w hw=>by
   obtain ⟨v,_,rfl⟩:=List.mem_map.1 hw
   exact ht⟩,Option.bind_some]
 rw [if_neg (by simpa using h5),if_neg h5,IX (by omega) V,Option.bind_some,XD (by omega) (by rw [BD]; omega) (by omega),Option.bind_some]
 have hcs:(if isR (ofBytes (A7 l us f)) sel=true then erC (ofBytes (A7 l us f)) 0 sel else []).length≤sel.length∧∀ w∈(if isR (ofBytes (A7 l us f)) sel=true then erC (ofBytes (A7 l us f)) 0 sel else []),w.2.2=ByteArray.empty:=by
  split
  ·exact ⟨LT,LU⟩
  ·exact ⟨by simp,fun w hw=>(List.not_mem_nil hw).elim⟩
 generalize (if isR (ofBytes (A7 l us f)) sel=true then erC (ofBytes (A7 l us f)) 0 sel else [])=cs at *
 by_cases hp:0<cs.length
 ·rw [if_pos (decide_eq_true (by omega)),if_pos hp,DK V.iv.rok,Option.bind_some,LO (by omega) V.iv ⟨by omega,fun w hw=>by rw [hcs.2 w hw,HE]; omega⟩,Option.bind_some]
 ·rw [if_neg (by rw [decide_eq_true_eq]; omega),if_neg hp]
theorem YV {K:Nat} {l:List Atm} {us:List (List Int)} {f:Int} {g o gs:List Int} {R:Option (Option Tree)} {sel rg:List Rg} {sp:List Sp} {bk:List Int} {kd base grp rank x y z:Int} {c:List Chg} {t:ByteArray} (hK:100000<K) (V:Vi l us f g o R sel sp bk) (hg:gs.length≤1000) (hr:rg.length≤1000) :
 ∃ (e:Int) (l':List Atm) (us':List (List Int)) (f':Int) (g' o':List Int) (sel':List Rg) (sp':List Sp) (bk':List Int),IV K l us f g o R sel sp bk kd base grp rank c gs rg t x y z=some (e,l',us',f',g',o',sel',sp',bk')∧Ivt l' us' f' g' o'∧Av l'∧sel'.length≤1000∧sp'.length≤60∧bk'.length≤100:=by
 have hln:=V.len
 unfold IV
 rw [IX (by omega) V,Option.bind_some]
 have id:∀ e:Int,∃ (e':Int) (l':List Atm) (us':List (List Int)) (f':Int) (g' o':List Int) (sel':List Rg) (sp':List Sp) (bk':List Int),some (e,l,us,f,g,o,sel,sp,bk)=some (e',l',us',f',g',o',sel',sp',bk')∧Ivt l' us' f' g' o'∧Av l'∧sel'.length≤1000∧sp'.length≤60∧bk'.length≤100:=fun e=>⟨_,_,_,_,_,_,_,_,_,rfl,V.iv,V.av,V.se,V.st,V.br⟩
 by_cases h3:kd=3
 ·rw [if_pos (by simpa using h3),X1 (by omega) V.iv hg,Option.bind_some]
  exact ⟨_,_,_,_,_,_,_,_,_,rfl,XN V.iv,UY V.av,V.se,V.st,V.br⟩
 rw [if_neg (by simpa using h3)]
 by_cases h4:kd=4
 ·rw [if_pos (by simpa using h4),YN (by omega) (by rw [BD]; omega) hr,Option.bind_some]
  have:=YY (s:=ofBytes (A7 l us f)) (l:=rg)
  exact ⟨_,_,_,_,_,_,_,_,_,rfl,V.iv,V.av,by omega,V.st,V.br⟩
 rw [if_neg (by simpa using h4)]
 by_cases h7:kd=7
 ·rw [if_pos (by simpa using h7)]
  obtain ⟨q1,e1⟩:∃ q,(if decide (x<(0:Int))=true then some true else if decide (x > y)=true then some true else some (decide (y > (((ofBytes (A7 l us f)).size:Nat):Int))))=some q:=by
   split
   ·exact ⟨_,rfl⟩
   ·split <;> exact ⟨_,rfl⟩
  rw [e1,Option.bind_some]
  cases q1 with
  | true => exact id 10
  | false =>
    rw [if_neg (by simp),F2 (by rw [BD]; omega) (by rw [BD]; omega),Option.bind_some,F2 (by rw [BD]; omega) (by rw [BD]; omega),Option.bind_some]
    obtain ⟨q2,e2⟩:∃ q,(if (!isE (ofBytes (A7 l us f)) x)=true then some true else some (!isE (ofBytes (A7 l us f)) y))=some q:=by
     split <;> exact ⟨_,rfl⟩
    rw [e2,Option.bind_some]
    cases q2 with
    | true => exact id 11
    | false =>
      obtain ⟨r,r1,r2⟩:=ZU (K:=K) (a:=x) (b:=y) (s:=z) hK V.st
      rw [if_neg (by simp),r1,Option.bind_some]
      exact ⟨_,_,_,_,_,_,_,_,_,rfl,V.iv,V.av,V.se,r2,V.br⟩
 rw [if_neg (by simpa using h7)]
 obtain ⟨q1,e1⟩:∃ q,(if decide (base≤(0:Int))=true then some true else some (decide (base≥(((ofBytes (A7 l us f)).size:Nat):Int))))=some q:=by
  split <;> exact ⟨_,rfl⟩
 rw [e1,Option.bind_some]
 cases q1 with
 | true => exact id 10
 | false =>
   rw [if_neg (by simp),F2 (by rw [BD]; omega) (by rw [BD]; omega),Option.bind_some]
   cases isE (ofBytes (A7 l us f)) base with
   | false => exact id 11
   | true =>
     obtain ⟨r,r1,r2⟩:=ZT (K:=K) (t:=base) hK V.br
     rw [if_neg (by simp),r1,Option.bind_some]
     exact ⟨_,_,_,_,_,_,_,_,_,rfl,V.iv,V.av,V.se,V.st,r2⟩
theorem P1 {K:Nat} {l:List Atm} {us:List (List Int)} {f:Int} {g o gs:List Int} {R:Option (Option Tree)} {sel rg:List Rg} {sp:List Sp} {bk:List Int} {kd base grp rank x y z:Int} {c:List Chg} {t:ByteArray} (hK:100000<K) (V:Vi l us f g o R sel sp bk) (hc:Cok c) (hg:gs.length≤1000) (hr:rg.length≤1000) (ht:t.size≤30000) :
 ∃ (n e:Int) (l':List Atm) (us':List (List Int)) (f':Int) (g' o':List Int) (R':Option (Option Tree)) (sel':List Rg) (sp':List Sp) (bk':List Int),GS K l us f g o R sel sp bk kd base grp rank c gs rg t x y z=some (n,e,l',us',f',g',o',R',sel',sp',bk')∧Vi l' us' f' g' o' R' sel' sp' bk'∧
   (e=0→kd=1∨kd=2→f'=f∧(btR l' us' f (hdR us f) (hdR us' f)).2.2=0∧mvR (btR l' us' f (hdR us f) (hdR us' f)).1 (btR l' us' f (hdR us f) (hdR us' f)).2.1 sel=(sel',0)∧(edG l us f g o sel kd base grp rank c t).2=(0,l',us',g',o')):=by
 unfold GS
 have same:∀ e:Int,e≠0→∃ (n' e':Int) (l':List Atm) (us':List (List Int)) (f':Int) (g' o':List Int) (R':Option (Option Tree)) (sel':List Rg) (sp':List Sp) (bk':List Int),some ((0:Int),e,l,us,f,g,o,R,sel,sp,bk)=some (n',e',l',us',f',g',o',R',sel',sp',bk')∧Vi l' us' f' g' o' R' sel' sp' bk'∧
  (e'=0→kd=1∨kd=2→f'=f∧(btR l' us' f (hdR us f) (hdR us' f)).2.2=0∧mvR (btR l' us' f (hdR us f) (hdR us' f)).1 (btR l' us' f (hdR us f) (hdR us' f)).2.1 sel=(sel',0)∧(edG l us f g o sel kd base grp rank c t).2=(0,l',us',g',o')):=fun e he=>⟨_,_,_,_,_,_,_,_,_,_,_,rfl,V,fun h=>absurd h he⟩
 by_cases hk:kd<1∨8<kd
 ·have:(if decide (kd<(1:Int))=true then some true else some (decide (kd > (8:Int))))=some true:=by
   rcases hk with hk | hk
   ·rw [if_pos (by simpa using hk)]
   ·split
    ·rfl
    ·simpa using hk
  rw [this,Option.bind_some,if_pos rfl]
  exact same 260 (by omega)
 have:(if decide (kd<(1:Int))=true then some true else some (decide (kd > (8:Int))))=some false:=by
  rw [if_neg (by simp; omega),decide_eq_false (by omega)]
 rw [this,Option.bind_some,if_neg (by simp),UG (by omega) V,Option.bind_some,F6,Option.bind_some,if_pos ⟨by omega,by omega⟩]
 have hE:List.getD [false,true,true,false,false,true,true,false,false] (Int.toNat kd) false=decide (kd=1∨kd=2∨kd=5∨kd=6):=by
  have:kd=1∨kd=2∨kd=3∨kd=4∨kd=5∨kd=6∨kd=7∨kd=8:=by omega
  rcases this with rfl | rfl | rfl | rfl | rfl | rfl | rfl | rfl <;> rfl
 simp only
 rw [hE]
 by_cases hed:kd=1∨kd=2∨kd=5∨kd=6
 ·rw [decide_eq_true hed,if_pos rfl,W9 hK V hc ht,Option.bind_some]
  obtain ⟨iv',av'⟩:=WA (sel:=sel) (kd:=kd) (base:=base) (grp:=grp) (rank:=rank) (c:=c) (t:=t) V.iv V.av
  generalize hEg:edG l us f g o sel kd base grp rank c t=E at *
  obtain ⟨n0,e0,l',us',g',o'⟩:=E
  simp only at iv' av' ⊢
  by_cases he:e0=0
  ·subst he
   rw [if_pos (by simp),XO hK iv' V.iv.rok V.se V.st (by have:=V.br; omega),Option.bind_some,Option.bind_some]
   simp only
   have hml:=Z3 (base:=(btR l' us' f (hdR us f) (hdR us' f)).1) (d:=(btR l' us' f (hdR us f) (hdR us' f)).2.1) (l:=sel)
   have hsl:=(P4 (K:=K) (base:=(btR l' us' f (hdR us f) (hdR us' f)).1) (d:=(btR l' us' f (hdR us f) (hdR us' f)).2.1) hK V.st).2
   have hbl:=W8 (base:=(btR l' us' f (hdR us f) (hdR us' f)).1) (d:=(btR l' us' f (hdR us f) (hdR us' f)).2.1) (l:=bk)
   have hse:=V.se
   have hbr:=V.br
   by_cases hf:(flR K (btR l' us' f (hdR us f) (hdR us' f)) sel sp bk).1=0
   ·unfold flR at hf ⊢
    split at hf
    ·rename_i h; exact absurd hf h
    ·rename_i hb
     split at hf
     ·rename_i h; exact absurd hf h
     ·rename_i hm
      split at hf
      ·rename_i h; exact absurd hf h
      ·rename_i hs
       rw [if_neg hb,if_neg hm,if_neg hs]
       simp only at hf ⊢
       obtain ⟨R',r1,r2⟩:=Vi.anew (K:=K) (by omega) R iv' av' (sel:=(mvR (btR l' us' f (hdR us f) (hdR us' f)).1 (btR l' us' f (hdR us f) (hdR us' f)).2.1 sel).1) (sp:=(E6 K (btR l' us' f (hdR us f) (hdR us' f)).1 (btR l' us' f (hdR us f) (hdR us' f)).2.1 sp).1) (bk:=(FB (btR l' us' f (hdR us f) (hdR us' f)).1 (btR l' us' f (hdR us f) (hdR us' f)).2.1 bk).1) (by omega) hsl (by omega)
       rw [hf,if_neg (by simp),r1,Option.bind_some,DK iv'.rok,Option.bind_some]
       refine ⟨_,_,_,_,_,_,_,_,_,_,_,rfl,r2,fun _ _=>⟨rfl,by simpa using hb,?_,rfl⟩⟩
       exact Prod.ext rfl (by simpa using hm)
   ·rw [if_pos (by simpa using hf)]
    exact same _ hf
  ·rw [if_neg (by simpa using he),Option.bind_some]
   simp only
   rw [if_pos (by simpa using he)]
   exact same _ he
 ·rw [decide_eq_false hed,if_neg (by simp)]
  obtain ⟨e,l',us',f',g',o',sel',sp',bk',m1,m2,m3,m4,m5,m6⟩:=YV (K:=K) (kd:=kd) (base:=base) (grp:=grp) (rank:=rank) (x:=x) (y:=y) (z:=z) (c:=c) (t:=t) hK V hg hr
  rw [m1,Option.bind_some,Option.bind_some]
  simp only
  by_cases he:e=0
  ·subst he
   obtain ⟨R',r1,r2⟩:=Vi.anew (K:=K) (by omega) R m2 m3 m4 m5 m6
   rw [if_neg (by simp),r1,Option.bind_some,DK m2.rok,Option.bind_some]
   exact ⟨_,_,_,_,_,_,_,_,_,_,_,rfl,r2,fun _ hk=>absurd (by omega) hed⟩
  ·rw [if_pos (by simpa using he)]
   exact same _ he
abbrev Acv:=Int×(Int×(Int×(Int×(List Chg×(List Int×(List (Int×Int)×(ByteArray×(Int×(Int×Int)))))))))
abbrev zAc:Acv:=((0:Int),((0:Int),((0:Int),((0:Int),(([]:List Chg),(([]:List Int),(([]:List (Int×Int)),(ByteArray.empty,((0:Int),((0:Int),(0:Int)))))))))))
abbrev kAc:Kd:=.pair (.int .i64) (.pair (.int .i64) (.pair (.int .i64) (.pair (.int .i64) (.pair (.slice MA) (.pair (.slice (.int .i64)) (.pair (.slice (.pair (.int .i64) (.int .i64))) (.pair .str (.pair (.int .i64) (.pair (.int .i64) (.int .i64))))))))))
def fwB (s:Acv):Bool:=fwC s.2.2.2.2.1&&(decide (s.2.2.2.2.2.1.length≤20)&&(decide (s.2.2.2.2.2.2.1.length≤12)&&decide (s.2.2.2.2.2.2.2.1.size≤60)))
theorem PG {K:Nat} {l:List Acv} (hl:l.length<4611686018427387904) (hc:∀ s∈l,s.2.2.2.2.1.length<K∧s.2.2.2.2.1.length<4611686018427387904):∀ (r:List Acv) (j k:Nat),l.drop j=r→r.length<k→BB.l0 K l k (j:Int)=some (r.all fwB&&decide (l.length≤30))
 | [],j,k+1,h,_ => by
   have:=A6 h
   rw [BB.l0,if_neg (by simp; omega)]
   simp
   omega
 | x :: r,j,k+1,h,hk => by
   obtain ⟨h1,h2,h3⟩:=A4 h zAc
   have hx:=hc x (mdr h)
   rw [BB.l0,if_pos (by simp; omega),if_pos ⟨by omega,by omega⟩,Int.toNat_natCast,h2,XM hx.1 hx.2,Option.bind_some,up2 (by omega),PG hl hc r (j+1) k h3 (by simpa using hk),List.all_cons]
   have e:(if (!fwC x.2.2.2.2.1)=true then some true else if decide ((((List.length x.2.2.2.2.2.1):Nat):Int) > (20:Int))=true then some true else if decide ((((List.length x.2.2.2.2.2.2.1):Nat):Int) > (12:Int))=true then some true else some (decide ((((ByteArray.size x.2.2.2.2.2.2.2.1):Nat):Int) > (60:Int))))=some (!fwB x):=by
    unfold fwB
    cases fwC x.2.2.2.2.1 with
    | false => rfl
    | true =>
      rw [if_neg (by simp)]
      by_cases c1:x.2.2.2.2.2.1.length≤20
      ·rw [if_neg (by simp; omega)]
       by_cases c2:x.2.2.2.2.2.2.1.length≤12
       ·rw [if_neg (by simp; omega),decide_eq_true c1,decide_eq_true c2]
        by_cases c3:x.2.2.2.2.2.2.2.1.size≤60
        ·rw [decide_eq_true c3,decide_eq_false (by omega)]; rfl
        ·rw [decide_eq_false c3,decide_eq_true (by omega)]; rfl
       ·rw [if_pos (by simp; omega),decide_eq_false c2]; simp
      ·rw [if_pos (by simp; omega),decide_eq_false c1]; simp
   rw [e,Option.bind_some]
   cases fwB x with
   | true => rw [if_neg (by simp)]; simp
   | false => rfl
def wtB (l:List Acv):Nat:=(l.map fun s=>s.2.2.2.2.1.length+1).sum
theorem UO:∀ {l:List Acv} {s:Acv},s∈l→s.2.2.2.2.1.length<wtB l
 | a :: l,s,h => by
   simp only [wtB,List.map_cons,List.sum_cons]
   rcases List.mem_cons.1 h with rfl | h
   ·omega
   ·have:=UO h
    unfold wtB at this
    omega
theorem O7:∀ {l:List Acv},l.length≤wtB l
 | [] => by simp [wtB]
 | a :: l => by
   have:=O7 (l:=l)
   simp only [wtB,List.map_cons,List.sum_cons,List.length_cons] at *
   omega
theorem PF {K:Nat} {l:List Acv} (hK:wtB l+10≤K) (hl:l.length<4611686018427387904) (hc:∀ s∈l,s.2.2.2.2.1.length<4611686018427387904):BB K l=some (l.all fwB&&decide (l.length≤30)):=
 PG hl (fun s hs=>⟨by have:=UO hs; omega,hc s hs⟩) l 0 K rfl (by have:=O7 (l:=l); omega)
theorem PT {s:Acv} (h:fwB s=true):Cok s.2.2.2.2.1∧s.2.2.2.2.2.1.length≤1000∧s.2.2.2.2.2.2.1.length≤1000∧s.2.2.2.2.2.2.2.1.size≤30000:=by
 unfold fwB at h
 simp only [Bool.and_eq_true,decide_eq_true_eq] at h
 exact ⟨XQ h.1,by omega,by omega,by omega⟩
theorem RE {K:Nat} {l:List Acv} (hK:100000<K) (hln:l.length≤30) (hl:∀ s∈l,fwB s=true):∀ (r:List Acv) (j k:Nat) (a:List Atm) (us:List (List Int)) (f:Int) (g o:List Int) (R:Option (Option Tree)) (sel:List Rg) (sp:List Sp) (bk:List Int),l.drop j=r→r.length<k→Vi a us f g o R sel sp bk→
 ∃ (a':List Atm) (us':List (List Int)) (f':Int) (g' o':List Int) (R':Option (Option Tree)) (sel':List Rg) (sp':List Sp) (bk':List Int),AS.l0 K l k a us f g o R sel sp bk (j:Int)=some (a',us',f',g',o',R',sel',sp',bk')∧Vi a' us' f' g' o' R' sel' sp' bk'
 | [],j,k+1,a,us,f,g,o,R,sel,sp,bk,h,_,V => by
   have:=A6 h
   rw [AS.l0,if_neg (by simp; omega)]
   exact ⟨_,_,_,_,_,_,_,_,_,rfl,V⟩
 | s :: r,j,k+1,a,us,f,g,o,R,sel,sp,bk,h,hk,V => by
   obtain ⟨h1,h2,h3⟩:=A4 h zAc
   have hs:=PT (hl s (mdr h))
   obtain ⟨n,e,a',us',f',g',o',R',sel',sp',bk',d1,d2,-⟩:=P1 (K:=K) (kd:=s.1) (base:=s.2.1) (grp:=s.2.2.1) (rank:=s.2.2.2.1) (x:=s.2.2.2.2.2.2.2.2.1) (y:=s.2.2.2.2.2.2.2.2.2.1) (z:=s.2.2.2.2.2.2.2.2.2.2) hK V hs.1 hs.2.1 hs.2.2.1 hs.2.2.2
   rw [AS.l0,if_pos (by simp; omega),Int.toNat_natCast,h2,d1,Option.bind_some,if_pos ⟨by omega,by omega⟩,up1 (by omega)]
   exact RE hK hln hl r (j+1) k a' us' f' g' o' R' sel' sp' bk' h3 (by simpa using hk) d2
theorem Y6 {x:Rg}:jnR (B6 [x] [])=[x]:=YM (l:=[x]) rfl
theorem MK {K:Nat} {a:List Atm} {at_ p r r':Int} {t:ByteArray} {u u' X Y:List Int} {q:Int×Int×List Atm×List (List Int)×Int×List Int×List Int×Option (Option Tree)×List Rg×List Sp×List Int} (hK:100000≤K) (hu:u.length≤50000) (hu':u'.length≤50000) (ha:Aok a) (hp:Int.tmod (IntKind.wrap .i64 at_) (IntKind.wrap .i64 (((t.size:Nat):Int)+1))=p)
 (hh:AN K q.2.2.1 q.2.2.2.1 q.2.2.2.2.1 q.2.2.2.2.2.1 q.2.2.2.2.2.2.1 q.2.2.2.2.2.2.2.1 q.2.2.2.2.2.2.2.2.1 q.2.2.2.2.2.2.2.2.2.1 q.2.2.2.2.2.2.2.2.2.2=some r') (hX:X=plc r u 0 a) (hY:Y=plc r' u' 0 a):∀ (j k:Nat) (w:Int),j≤a.length→j<k→
 AS.l1 K X at_ t a r u q u' Y k w ((j:Int) - 1)=some (((csA p r u r' u' 0 0 a).take j).foldr fC w)
 | 0,k+1,w,_,_ => by
   rw [AS.l1,if_neg (by simp)]
   rfl
 | j+1,k+1,w,hj,hk => by
   have hlen:=ha.1
   have hXl:X.length=a.length+1:=by rw [hX,HY]
   have hYl:Y.length=a.length+1:=by rw [hY,HY]
   have hat:=OQ (p:=p) (r:=r) (r':=r') (u:=u) (u':=u') (l:=a) (q:=0) (y:=0) (j:=j) (by omega)
   rw [← hX,← hY] at hat
   have hm:=ha.2 (a.getD j zA) (G1 (by omega))
   have e1:((j+1:Nat):Int) - 1=(j:Int):=by omega
   have b1:0≤(j:Int)∧(j:Int)<X.length∧(j:Int)<a.length:=⟨by omega,by omega,by omega⟩
   have b2:0≤(j:Int)∧(j:Int)<X.length:=⟨by omega,by omega⟩
   have b3:0≤(j:Int)∧(j:Int)<Y.length:=⟨by omega,by omega⟩
   have ev1:=N6 (K:=K) (a:=a.getD j zA) (u:=u) (rev:=r) hK hu (by omega)
   have ev2:=N6 (K:=K) (a:=a.getD j zA) (u:=u') (rev:=r') hK hu' (by omega)
   rw [e1,AS.l1,if_pos (by simp),Int.toNat_natCast,hp,hh]
   simp only [Option.bind_some,ev1,ev2,if_pos b1,if_pos b2,if_pos b3]
   rw [w64 (n:=(j:Int) - 1) (by omega) (by omega),dJ hat,MK hK hu hu' ha hp hh hX hY j k _ (by omega) (by omega),MK hK hu hu' ha hp hh hX hY j k _ (by omega) (by omega)]
   unfold fC
   by_cases c:X.getD j 0≥p
   ·rw [if_pos (by simpa using c),decide_eq_true c,Bool.true_and]
    cases vis r u (a.getD j zA) with
    | true =>
      rw [if_pos rfl,Option.bind_some,Bool.true_and]
      split <;> rfl
    | false => rfl
   ·rw [if_neg (by simpa using c),decide_eq_false c,Bool.false_and]
    rfl
theorem dL {l:List Atm} {us:List (List Int)} {f:Int} {g o:List Int} {sel:List Rg} {kd base grp rank:Int} {c:List Chg} {t:ByteArray} {l':List Atm} {us':List (List Int)} {g' o':List Int} (hn:0<us.length) (hk:kd=1∨kd=2) (h:(edG l us f g o sel kd base grp rank c t).2=(0,l',us',g',o')):(∃ u,us'=us++[u])∧∀ u,vtx (hdR us f) u l'=vtx (hdR us f) u l:=by
 rcases hk with rfl | rfl
 ·have e:edG l us f g o sel 1 base grp rank c t=C7 l us f g o base grp rank c:=rfl
  rw [e] at h
  unfold C7 at h
  split at h
  ·simp at h
  ·split at h
   ·rename_i h2; simp only [Prod.mk.injEq] at h; exact absurd h.1 h2
   ·rename_i h2
    split at h
    ·rename_i h3; simp only [Prod.mk.injEq] at h; exact absurd h.1 h3
    ·split at h
     ·simp at h
     ·split at h
      ·simp at h
      ·simp only [Prod.mk.injEq] at h
       obtain ⟨-,rfl,rfl,-,-⟩:=h
       have G:=J8 (show CF (ofBytes (vtx base (unR us f base) l)) c=0 by simpa using h2)
       exact ⟨⟨_,rfl⟩,fun u=>gN (by omega) G⟩
 ·have e:edG l us f g o sel 2 base grp rank c t=D7 l us f g o grp:=rfl
  rw [e] at h
  unfold D7 at h
  split at h
  ·rename_i h2; simp only [Prod.mk.injEq] at h; exact absurd h.1 h2
  ·simp only [Prod.mk.injEq] at h
   obtain ⟨-,rfl,rfl,-,-⟩:=h
   exact ⟨⟨_,rfl⟩,fun u=>rfl⟩
theorem WholeMarks_pure (l:List Acv) (at_:Int) (a:Acv) (o0:Kd.ok (.slice kAc) l) (o1:Kd.ok (.int .u8) at_) (o2:Kd.ok kAc a):∃ K,AS K l at_ a.1 a.2.1 a.2.2.1 a.2.2.2.1 a.2.2.2.2.1 a.2.2.2.2.2.1 a.2.2.2.2.2.2.1 a.2.2.2.2.2.2.2.1 a.2.2.2.2.2.2.2.2.1 a.2.2.2.2.2.2.2.2.2.1 a.2.2.2.2.2.2.2.2.2.2=some true:=by
 have hat:=eJ o1
 have hl1:=o0.1
 have:1≤Kd.bytes kAc:=by decide
 have:=Nat.le_mul_of_pos_right l.length this
 have hla:a.2.2.2.2.1.length<4611686018427387904:=okC o2.2.2.2.2.1
 refine ⟨wtB l+wtB [a]+100010,?_⟩
 generalize hKK:wtB l+wtB [a]+100010=K
 have hK:100000<K:=by omega
 unfold AS
 rw [Y8 (by omega),Option.bind_some,if_neg (by simp),PF (by omega) (by omega) (fun s hs=>okC (o0.2 s hs).2.2.2.2.1),Option.bind_some]
 have e1:BB K [a]=some ([a].all fwB&&decide ([a].length≤30)):=PF (by omega) (by simp) (fun s hs=>by simp at hs; subst hs; exact hla)
 have e1:BB K [(a.1,(a.2.1,(a.2.2.1,(a.2.2.2.1,(a.2.2.2.2.1,(a.2.2.2.2.2.1,(a.2.2.2.2.2.2.1,(a.2.2.2.2.2.2.2.1,(a.2.2.2.2.2.2.2.2.1,(a.2.2.2.2.2.2.2.2.2.1,a.2.2.2.2.2.2.2.2.2.2))))))))))]=some (fwB a):=by
  have e:([a].all fwB&&decide ([a].length≤30))=fwB a:=by simp
  rw [e] at e1
  exact e1
 rw [e1]
 cases hf:(l.all fwB&&decide (l.length≤30)) with
 | false => rfl
 | true =>
   rw [if_neg (by simp),Option.bind_some]
   cases hfa:fwB a with
   | false => rfl
   | true =>
     rw [if_neg (by simp)]
     by_cases hk:¬ (a.1=1∨a.1=2)
     ·rw [if_pos (by simp; omega),show (a.1 !=(2:Int))=true by simp; omega,Option.bind_some,if_pos rfl]
     have hk:a.1=1∨a.1=2:=by omega
     have ek:(if (a.1 !=(1:Int))=true then some (a.1 !=(2:Int)) else some false)=some false:=by
      rcases hk with h | h
      ·rw [h]; rfl
      ·rw [h]; rfl
     rw [ek,Option.bind_some,if_neg (by simp)]
     simp only [Bool.and_eq_true,decide_eq_true_eq,List.all_eq_true] at hf
     obtain ⟨hl,hln⟩:=hf
     have hs:=PT hfa
     obtain ⟨R0,v0,V0⟩:=gK (K:=K) (by omega)
     rw [v0,Option.bind_some]
     simp only
     obtain ⟨b,us,f,g,o,R,sel,sp,bk,e2,V⟩:=RE hK hln hl l 0 K [] [[]] 0 [] [] R0 [((0:Int),(0:Int))] [] [] rfl (by have:=O7 (l:=l); omega) V0
     have e2:AS.l0 K l K [] [[]] 0 [] [] R0 (List.replicate 1 ((0:Int),(0:Int))) [] [] 0=some (b,us,f,g,o,R,sel,sp,bk):=e2
     rw [e2,Option.bind_some]
     simp only
     have hln':=V.len
     rw [IX (by omega) V,Option.bind_some]
     have hw1:IntKind.wrap .i64 ((((ofBytes (A7 b us f)).size:Nat):Int)+1)=((A7 b us f).length:Int)+1:=by rw [BD,w64 (by omega) (by omega)]
     have hw2:IntKind.wrap .i64 at_=at_:=w64 (by omega) (by omega)
     have p0:=Int.tmod_nonneg (((A7 b us f).length:Int)+1) hat.1
     have p1:=Int.tmod_lt_of_pos at_ (show (0:Int)<((A7 b us f).length:Int)+1 by omega)
     obtain ⟨p,hp⟩:∃ p,Int.tmod (IntKind.wrap .i64 at_) (IntKind.wrap .i64 ((((ofBytes (A7 b us f)).size:Nat):Int)+1))=p:=⟨_,rfl⟩
     have hp':=hp
     rw [hw1,hw2] at hp'
     rw [hp'] at p0 p1
     rw [if_pos (by rw [hw1]; omega),hp,aL (by rw [BD]; omega) (by rw [BD]; omega),Option.bind_some]
     cases hE:isE (ofBytes (A7 b us f)) p with
     | false => rfl
     | true =>
       have hmk:DW K [(p,p)] (ofBytes (A7 b us f))=some ([(p,p)],0):=YZ (by omega) (by rw [BD]; omega) hE
       obtain ⟨R1,d1,V1⟩:=W3 (K:=K) (rg:=[(p,p)]) (sel':=[(p,p)]) (by omega) V hmk (by simp)
       rw [if_neg (by simp),d1,Option.bind_some]
       simp only
       rw [DK V1.iv.rok,Option.bind_some,FQ,Option.bind_some,LW V1.iv.rok,Option.bind_some]
       obtain ⟨n2,e,b',us',f',g',o',R2,sel2,sp2,bk2,d2,V2,M⟩:=P1 (K:=K) (kd:=a.1) (base:=a.2.1) (grp:=a.2.2.1) (rank:=a.2.2.2.1) (x:=a.2.2.2.2.2.2.2.2.1) (y:=a.2.2.2.2.2.2.2.2.2.1) (z:=a.2.2.2.2.2.2.2.2.2.2) hK V1 hs.1 hs.2.1 hs.2.2.1 hs.2.2.2
       rw [d2,Option.bind_some]
       simp only
       rw [if_neg (by simp),Option.bind_some]
       by_cases he:¬ e=0
       ·rw [if_pos (by simpa using he)]
        rfl
       have he:e=0:=by omega
       obtain ⟨rfl,m1,m2,m3⟩:=M he hk
       rw [if_neg (by simpa using he),FQ,Option.bind_some,W5 (by omega) (e:=(b',us',f',g',o')) V2.iv,Option.bind_some,Option.bind_some,LW V2.iv.rok,Option.bind_some]
       have hul:=JZ V1.iv.rok
       have hul':=JZ V2.iv.rok
       rw [SL (by omega) (by omega) V2.iv.aok,Option.bind_some,DK V2.iv.rok,Option.bind_some,SL (by omega) (by omega) V2.iv.aok,Option.bind_some,IX (by omega) V2,Option.bind_some]
       -- what changed
       obtain ⟨⟨u2,hus⟩,hvt⟩:=dL V1.iv.ne hk m3
       have hne:=V1.iv.ne
       have hlo:=V1.iv.lo
       have hd':hdR us' f'=hdR us f'+1:=by rw [hus]; exact G3
       have un1:unR us' f' (hdR us f')=lsR us:=by
        rw [hus,eL (by unfold hdR; omega) (by omega),if_neg (by omega),IL hne]
       have un2:unR us' f' (hdR us' f')=lsR us':=IL V2.iv.ne
       have lv1:lvR us' f' (hdR us f')=true:=by
        unfold lvR
        rw [hd',decide_eq_true (by unfold hdR; omega),decide_eq_true (by omega)]
        rfl
       have lv2:=K1 (f:=f') V2.iv.ne
       have hold:vtx (hdR us f') (lsR us) b'=A7 b us f':=hvt _
       have hbt:btR b' us' f' (hdR us f') (hdR us' f')=((((A7 b us f').length:Nat):Int),(dfL (hdR us f') (lsR us) (hdR us' f') (lsR us') b').1,0):=by
        unfold btR at m1 ⊢
        rw [lv1,lv2,if_pos ⟨rfl,rfl⟩,un1,un2,hold] at m1 ⊢
        split at m1
        ·simp at m1
        ·rename_i h60; rw [if_neg h60]
       rw [hbt] at m2
       simp only at m2
       have hsz1:∀ x∈b',1≤x.1.size:=fun x hx=>(V2.iv.aa x hx).s1
       obtain ⟨-,-,-,hEc⟩:=G6 hE
       have hbd:bdA p (hdR us f') (lsR us) ((0:Nat):Int) b':=by
        refine L7 (T:=A7 b us f') (fun k y hky hy=>?_) V2.av fun i=>by rw [hold,Nat.zero_add]
        have hkl:=(List.getElem?_eq_some_iff.1 hy).1
        have hbb:bytesL (ofBytes (A7 b us f'))=A7 b us f':=by
         obtain ⟨S,hS⟩:∃ S,A7 b us f'=bytesL S:=by
          have:∀ (l:List Atm),∃ S,vtx (hdR us f') (lsR us) l=bytesL S:=by
           intro l
           induction l with
           | nil => exact ⟨ByteArray.empty,rfl⟩
           | cons x l ih =>
             obtain ⟨S,hS⟩:=ih
             simp only [vtx]
             split
             ·exact ⟨x.1++S,by rw [L9,hS]⟩
             ·exact ⟨S,hS⟩
          exact this b
         rw [hS,HT]
        have hbt':=J3 (s:=ofBytes (A7 b us f')) (i:=k) (by rw [BD]; omega)
        rw [hbb,hy,hky] at hbt'
        rcases hEc with h | h
        ·rw [BD] at h; omega
        ·rw [Option.some.inj hbt']; exact h
       have hnx:=VY (r':=hdR us' f') (u':=lsR us') hsz1 hbd
       have hmv:isD ((A7 b us f').length:Nat) (dfL (hdR us f') (lsR us) (hdR us' f') (lsR us') b').1=true:=by
        unfold mvR at m2
        split at m2
        ·simp at m2
        ·rename_i h
         cases h2:isD ((A7 b us f').length:Nat) (dfL (hdR us f') (lsR us) (hdR us' f') (lsR us') b').1 with
         | true => rfl
         | false => exact absurd (.inl h2) h
       have hsel:sel2=[(nxA p (hdR us f') (lsR us) (hdR us' f') (lsR us') 0 0 b',nxA p (hdR us f') (lsR us) (hdR us' f') (lsR us') 0 0 b')]:=by
        have hgo:mv ((A7 b us f').length:Nat) (dfL (hdR us f') (lsR us) (hdR us' f') (lsR us') b').1 p true=nxA p (hdR us f') (lsR us) (hdR us' f') (lsR us') 0 0 b':=by
         rw [← hnx]
         unfold mv BT
         rw [hmv,if_pos rfl,if_pos rfl,show min (max p 0) (((A7 b us f').length:Nat):Int)=p by omega]
        unfold mvR at m2
        split at m2
        ·simp at m2
        ·split at m2
         ·simp at m2
         ·have m2:=(Prod.mk.inj m2).1
          rw [← m2,List.map_cons,List.map_nil,Y6]
          unfold goR
          simp only [hgo]
       have e3:=MK (K:=K) (at_:=at_) (p:=p) (r:=hdR us f') (r':=hdR us' f') (t:=ofBytes (A7 b us f')) (u:=lsR us) (u':=lsR us') (q:=(n2,e,b',us',f',g',o',R2,sel2,sp2,bk2)) (by omega) (by omega) (by omega) V2.iv.aok hp (DK V2.iv.rok) rfl rfl b'.length K ((((ofBytes (A7 b' us' f')).size:Nat):Int)) (Nat.le_refl _) (by have:=V2.iv.len; omega)
       have hlb:=V2.iv.len
       rw [w64 (n:=((b'.length:Nat):Int) - 1) (by omega) (by omega),e3,Option.bind_some,UK V2.se,Option.bind_some,List.take_of_length_le (by rw [OR]; omega)]
       have hend:((ofBytes (A7 b' us' f')).size:Int)=0+vsz (hdR us' f') (lsR us') b':=by
        rw [BD,Int.zero_add]
        rfl
       rw [hend,OS,hsel]
       simp
end Go.Pal
