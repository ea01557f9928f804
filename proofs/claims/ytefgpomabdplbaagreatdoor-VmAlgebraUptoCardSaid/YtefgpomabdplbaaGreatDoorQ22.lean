import Derived.Test.YtefgpomabdplbaaGreatDoorQ21
set_option linter.unusedVariables false
set_option linter.unusedSimpArgs false
set_option linter.unusedSectionVars false
set_option linter.unnecessarySimpa false
set_option maxHeartbeats 0
namespace Go.Sx
open Go Go.Proofs
set_option maxRecDepth 100000
def eA {α:Type}(full:List α) (z:α) (i:Nat):List α:=full.take i++List.replicate (full.length - i) z
theorem ik {α:Type}{full:List α}{z:α}{i:Nat}(h:i≤full.length):(eA full z i).length=full.length:=by simp[eA];omega
theorem kd {α:Type}(full:List α) (z:α):eA full z 0=List.replicate full.length z:=by simp[eA]
theorem kE {α:Type}(full:List α) (z:α):eA full z full.length=full:=by simp[eA]
theorem lW {α:Type}{full:List α}{z:α}{i:Nat}{b:α}(h:full[i]? =some b):(eA full z i).set i b=eA full z (i+1):=by
 have hi:=(Yk.1 h).1
 obtain⟨d,hd⟩:∃d,full.length - i=d+1:=⟨full.length - i - 1,aa⟩
 have h2:full.length - (i+1)=d:=aa
 rw[eA,eA,hd,h2,cP h,List.replicate_succ,List.set_append_right _ _ (aA),Yg,Nat.min_eq_left (aa),Nat.sub_self]
 simp
abbrev Po:=Nat×List Nat
def dS (nb:Nat) (l:List Po):Nat:=match l.getLast? with|none=> nb|some p=> p.1+1
def gm:Nat→List Po→List Nat
 |_, []=> []
 |nb,p::r=> (p.1 - nb)::gm (p.1+1) r
def hX (l:List Po):List Nat:=l.map fun p=> p.2.length - 1
def ff:Nat→List Nat→List Nat
 |_, []=> []
 |nb,x::r=> uv (x - nb)++ff (x+1) r
def dY (l:List Po):List Nat:=l.flatMap fun p=> ff 0 p.2
def jN (nb:Nat) (l:List Po):List Nat:=dJ (gm nb l)++dJ (hX l)++dY l
def dg (l:List Po):Nat:=(l.map fun p=> p.2.length).sum
def de (l:List Po) (k:Nat):List Po:=(l.take (16*k+16)).drop (16*k)
def cO (l:List Po):Nat→Nat×List Nat×List Nat
 | 0=> (0, [], [])
 |k+1=> (dS (cO l k).1 (de l k),
  (cO l k).2.1++(uv (dS (cO l k).1 (de l k) - 1 - (cO l k).1)++uv (jN (cO l k).1 (de l k)).length),
  (cO l k).2.2++jN (cO l k).1 (de l k))
def dk (l:List Po):Nat:=(l.length+15) / 16
def dx (l:List Po):List Nat:=uv l.length++uv (dg l)++(cO l (dk l)).2.1++(cO l (dk l)).2.2
def pY:Nat→List Nat→Prop
 |_, []=> True
 |nb,x::r=> nb≤x∧pY (x+1) r
def fW:Nat→List Po→Prop
 |_, []=> True
 |nb,p::r=> nb≤p.1∧p.2≠ []∧pY 0 p.2∧fW (p.1+1) r
def e8 (l:List Po):Prop:=l.length≤100000∧∀p∈l,p.1≤1000000∧p.2.length≤100000000∧∀x∈p.2,x<1099511627776
theorem lQ (nb:Nat):dS nb []=nb:=rfl
theorem mF (nb:Nat) (l:List Po) (p:Po):dS nb (l++ [p])=p.1+1:=by simp[dS]
theorem iC (nb:Nat) (p:Po) (l:List Po):dS nb (p::l)=dS (p.1+1) l:=by
 cases l with
 |nil=> rfl
 |cons q l=>
  have h:(q::l).getLast? ≠none:=an
  simp only[dS,List.getLast?_cons_cons]
  cases hc:(q::l).getLast? with
  |none=> exact absurd hc h
  |some r=> rfl
theorem pd {nb:Nat}{l:List Po}{i:Nat}{p:Po}(h:l[i]? =some p):dS nb (l.take (i+1))=p.1+1:=by
 rw[cP h,mF]
theorem fN:∀(l:List Po) (nb:Nat),(gm nb l).length=l.length
 | [],_=> rfl
 |p::r,nb=> by simp[gm,fN r]
theorem qV:∀{l:List Po}{nb i:Nat}{p:Po},l[i]? =some p→(gm nb l)[i]? =some (p.1 - dS nb (l.take i))
 | [],_,_,_,h=> aG
 |q::r,nb,0,p,h=> by simp at h;subst h;simp[gm,lQ]
 |q::r,nb,i+1,p,h=> by
  rw[Xc]at h
  rw[gm,Xc,qV h,List.take_succ_cons,iC]
theorem ij:∀{l:List Po}{nb i:Nat}{p:Po},fW nb l→l[i]? =some p→dS nb (l.take i)≤p.1∧p.2≠ []∧pY 0 p.2
 | [],_,_,_,_,h=> aG
 |q::r,nb,0,p,hk,h=> by simp at h;subst h;exact⟨hk.1,hk.2.1,hk.2.2.1⟩
 |q::r,nb,i+1,p,hk,h=> by
  rw[Xc]at h
  rw[List.take_succ_cons,iC]
  exact ij hk.2.2.2 h
theorem vt:∀{l:List Po}{nb:Nat}(i:Nat),fW nb l→fW (dS nb (l.take i)) (l.drop i)
 |l,nb,0,h=> by simpa [lQ] using h
 | [],_,i+1,_=> by simp[fW]
 |p::r,nb,i+1,h=> by
  rw[List.take_succ_cons,List.drop_succ_cons,iC]
  exact vt i h.2.2.2
theorem qO:∀{l:List Po}{nb:Nat}(i:Nat),fW nb l→fW nb (l.take i)
 |_,_,0,_=> by simp[fW]
 | [],_,i+1,_=> by simp[fW]
 |p::r,nb,i+1,h=> by
  rw[List.take_succ_cons]
  exact⟨h.1,h.2.1,h.2.2.1,qO i h.2.2.2⟩
theorem Dj (nb:Nat) (a b:List Po):dS nb (a++b)=dS (dS nb a) b:=by
 cases b with
 |nil=> simp[lQ]
 |cons p b=>
  obtain⟨c,q,hc⟩:∃c q,p::b=c++ [q]:=by
   rcases List.eq_nil_or_concat (p::b)with h|⟨c,q,h⟩
   ·cases h
   ·exact⟨c,q,aY⟩
  rw[hc,←Yf,mF,mF]
theorem jt (l:List Po) (k:Nat):l.take (16*k)++de l k=l.take (16*(k+1)):=by
 have h:l.take (16*k)=(l.take (16*k+16)).take (16*k):=by rw[List.take_take,Nat.min_eq_left (aa)]
 rw[de,h,List.take_append_drop];all_goals rfl
theorem rE (l:List Po):∀k,(cO l k).1=dS 0 (l.take (16*k))
 | 0=> rfl
 |k+1=> by rw[cO,rE l k,←Dj,jt]
theorem kP {l:List Po}(h:fW 0 l) (k:Nat):fW (cO l k).1 (de l k):=by
 have h2:=vt (16*k) (qO (16*k+16) h)
 rw[rE,de]
 rwa [List.take_take,Nat.min_eq_left (aa)]at h2
theorem m9 (l:List Po) (k:Nat):(de l k).length=min (16*k+16) l.length - 16*k:=by simp[de]
theorem DS {l:List Po}{k:Nat}{p:Po}(h:p∈de l k):p∈l:=Yq (Yp h)
theorem mh:∀{l:List Nat}{nb j x:Nat},l[j]? =some x→ff nb (l.take (j+1))=ff nb (l.take j)++uv (x - (if j=0 then nb else l.getD (j - 1) 0+1))
 | [],_,_,_,h=> aG
 |y::r,nb,0,x,h=> by simp at h;subst h;simp[ff]
 |y::r,nb,1,x,h=> by
  cases r with
  |nil=> simp at h
  |cons z r=> simp at h;subst h;simp[ff]
 |y::r,nb,j+2,x,h=> by
  rw[Xc]at h
  rw[List.take_succ_cons,ff,mh h,List.take_succ_cons,ff,if_neg (aa),if_neg (aa),Yf]
  simp
theorem od:∀{l:List Nat}{nb j x:Nat},pY nb l→l[j]? =some x→(if j=0 then nb else l.getD (j - 1) 0+1)≤x
 | [],_,_,_,_,h=> aG
 |y::r,nb,0,x,hk,h=> by simp at h;subst h;simpa using hk.1
 |y::r,nb,1,x,hk,h=> by
  cases r with
  |nil=> simp at h
  |cons z r=> simp at h;subst h;simpa using hk.2.1
 |y::r,nb,j+2,x,hk,h=> by
  rw[Xc]at h
  have:=od hk.2 h
  rw[if_neg (aa)]at this
  rw[if_neg (aa)]
  simpa using this
theorem rq {l:List Po}{i:Nat}{p:Po}(h:l[i]? =some p):dY (l.take (i+1))=dY (l.take i)++ff 0 p.2:=by
 rw[cP h];simp[dY]
theorem o9 {l:List Po}{i:Nat}{p:Po}(h:l[i]? =some p):dg (l.take (i+1))=dg (l.take i)+p.2.length:=by
 rw[cP h];simp[dg]
theorem ef {n k:Nat}(h:n<1099511627776) (hk:6≤k):(uv n).length≤k:=Xi (Ey 6 n (aa) (ag)) hk
theorem qF:∀{l:List Nat}{nb:Nat},(∀x∈l,x<1099511627776)→(ff nb l).length≤6*l.length
 | [],_,_=> by simp[ff]
 |x::r,nb,h=> by
  have h1:=ef (n:=x - nb) (k:=6) (by have:=h x (an);omega) (aa)
  have h2:=qF (nb:=x+1) (fun y hy=> h y (Xa _ hy))
  simp only[ff,Ya,Yb];omega
theorem oW:∀{l:List Po},(∀p∈l,∀x∈p.2,x<1099511627776)→(dY l).length≤6*dg l
 | [],_=> by simp[dY]
 |p::r,h=> by
  have h1:=qF (nb:=0) (h p (an))
  have h2:=oW (l:=r) (fun q hq=> h q (Xa _ hq))
  simp only[dY,dg,List.flatMap_cons,Ya,List.map_cons,List.sum_cons]at*;omega
theorem iR {ns:List Nat}(hl:∀x∈ns,x<1099511627776) (hn:ns.length<1099511627776):(dJ ns).length≤10+5*ns.length:=by
 have h1:=ef (n:=ns.length) (k:=6) hn (aa)
 rw[dJ,Ya]
 by_cases h:ns= []
 ·rw[if_pos h];simp;omega
 ·rw[if_neg h,Yb,BS,eJ]
  have h2:dX (orL ns)≤40:=(fZ _ _).2 (nQ (k:=40) (ag) hl)
  have h3:ns.length*dX (orL ns)≤ns.length*40:=Nat.mul_le_mul_left _ h2
  have:1≤ns.length:=by cases ns with|nil=> exact absurd rfl h|cons=> simp
  omega
theorem kD:∀{l:List Po}{nb m:Nat},(∀p∈l,p.1≤m)→∀x∈gm nb l,x≤m
 | [],_,_,_,x,hx=> by simp[gm]at hx
 |p::r,nb,m,h,x,hx=> by
  rcases List.mem_cons.1 hx with rfl|hx
  ·have:=h p (an);omega
  ·exact kD (fun q hq=> h q (Xa _ hq)) x hx
theorem qg {l:List Po}{m:Nat}(h:∀p∈l,p.2.length≤m):∀x∈hX l,x≤m:=by
 intro x hx
 obtain⟨p,hp,rfl⟩:=List.mem_map.1 hx
 have:=h p hp;omega
theorem qt {l:List Po}{nb:Nat}(h:e8 l):(jN nb l).length≤20+10*l.length+6*dg l:=by
 obtain⟨h0,h1⟩:=h
 have h2:=iR (ns:=gm nb l) (fun x hx=> by have:=kD (fun p hp=> (h1 p hp).1) x hx;omega) (bZ)
 have h3:=iR (ns:=hX l) (fun x hx=> by have:=qg (fun p hp=> (h1 p hp).2.1) x hx;omega) (bE)
 have h4:=oW (l:=l) (fun p hp=> (h1 p hp).2.2)
 rw[fN]at h2
 rw[hX,Yh]at h3
 simp only[jN,Ya]
 rw[hX]
 omega
theorem m7 {l:List Po}(h:e8 l) (k:Nat):e8 (de l k):=
 ⟨by have:=h.1;rw[m9];omega,fun p hp=> h.2 p (DS hp)⟩
theorem jz (a b:List Po):dg (a++b)=dg a+dg b:=by simp[dg]
theorem wa {l:List Po}(h:e8 l):dg l≤l.length*100000000:=by
 have key:∀m:List Po,(∀p∈m,p.2.length≤100000000)→dg m≤m.length*100000000:=by
  intro m
  induction m with
  |nil=> intro _;simp[dg]
  |cons p m ih=>
   intro hm
   have h1:=ih (fun q hq=> hm q (Xa _ hq))
   have h2:=hm p (an)
   simp only[dg,List.map_cons,List.sum_cons,Yb]at h1⊢
   omega
 exact key l fun p hp=> (h.2 p hp).2.1
theorem iA {l:List Po}(h:e8 l):∀k,(cO l k).2.1.length≤12*k∧(cO l k).2.2.length≤20*k+10*(l.take (16*k)).length+6*dg (l.take (16*k))∧(cO l k).1≤1000001
 | 0=> by simp[cO,dg]
 |k+1=> by
  obtain⟨h1,h2,h3⟩:=iA h k
  have hb:=m7 h k
  have h4:=qt (nb:=(cO l k).1) hb
  have h5:dS (cO l k).1 (de l k)≤1000001:=by
   unfold dS
   split
   ·exact h3
   ·rename_i p hp;have:=(hb.2 p (List.mem_of_getLast? hp)).1;omega
  have h6:dg (de l k)≤16*100000000:=by
   have hbl:(de l k).length≤16:=by rw[m9];omega
   exact Xi (wa hb) (Nat.mul_le_mul_right _ hbl)
  have h7:=ef (n:=dS (cO l k).1 (de l k) - 1 - (cO l k).1) (k:=6) (aa) (aa)
  have hbl:(de l k).length≤16:=by rw[m9];omega
  have h8:=ef (n:=(jN (cO l k).1 (de l k)).length) (k:=6) (aa) (aa)
  have h9:(l.take (16*(k+1))).length=(l.take (16*k)).length+(de l k).length:=by rw[←jt,Ya]
  have h10:dg (l.take (16*(k+1)))=dg (l.take (16*k))+dg (de l k):=by rw[←jt,jz]
  refine⟨?_,?_,by simp only[cO];exact h5⟩
  ·simp only[cO,Ya];omega
  ·rw[h9,h10];simp only[cO,Ya];omega
theorem n5 (l:List Po):l.take (16*dk l)=l:=List.take_of_length_le (cp)
theorem vM {l:List Po}(h:e8 l) (ht:dg l<1099511627776):(dx l).length≤60+20*l.length+6*dg l:=by
 obtain⟨h1,h2,_⟩:=iA h (dk l)
 rw[n5]at h2
 have h3:=ef (n:=l.length) (k:=6) (by have:=h.1;omega) (aa)
 have h4:=ef (n:=dg l) (k:=6) ht (aa)
 have h5:16*dk l≤l.length+15:=cp
 simp only[dx,Ya];omega
theorem xD:∀(l:List Nat) (nb:Nat),∀x∈ff nb l,x<256
 | [],_,x,hx=> by simp[ff]at hx
 |y::r,nb,x,hx=> by
  rcases List.mem_append.1 hx with h|h
  ·exact ic _ x h
  ·exact xD r _ x h
theorem oZ {ns:List Nat}(hl:∀x∈ns,x<1099511627776):∀x∈dJ ns,x<256:=by
 intro x hx
 have h2:dX (orL ns)≤40:=(fZ _ _).2 (nQ (k:=40) (ag) hl)
 rcases List.mem_append.1 hx with h|h
 ·exact ic _ x h
 ·split at h
  ·simp at h
  ·rcases List.mem_cons.1 h with rfl|h
   ·omega
   ·exact MK _ _ x h
theorem CA {l:List Po}{nb:Nat}(h:e8 l):∀x∈jN nb l,x<256:=by
 intro x hx
 rcases List.mem_append.1 hx with hx|hx
 ·rcases List.mem_append.1 hx with hx|hx
  ·exact oZ (fun x hx=> by have:=kD (fun p hp=> (h.2 p hp).1) x hx;omega) x hx
  ·exact oZ (fun x hx=> by have:=qg (fun p hp=> (h.2 p hp).2.1) x hx;omega) x hx
 ·obtain⟨p,_,hp⟩:=List.mem_flatMap.1 hx
  exact xD _ _ x hp
theorem vo {l:List Po}(h:e8 l):∀k,(∀x∈(cO l k).2.1,x<256)∧∀x∈(cO l k).2.2,x<256
 | 0=> by simp[cO]
 |k+1=> by
  obtain⟨h1,h2⟩:=vo h k
  constructor
  ·intro x hx
   rcases List.mem_append.1 hx with hx|hx
   ·exact h1 x hx
   ·rcases List.mem_append.1 hx with hx|hx <;> exact ic _ x hx
  ·intro x hx
   rcases List.mem_append.1 hx with hx|hx
   ·exact h2 x hx
   ·exact CA (m7 h k) x hx
theorem z8 {l:List Po}(h:e8 l):∀x∈dx l,x<256:=by
 intro x hx
 obtain⟨h1,h2⟩:=vo h (dk l)
 rcases List.mem_append.1 hx with hx|hx
 ·rcases List.mem_append.1 hx with hx|hx
  ·rcases List.mem_append.1 hx with hx|hx <;> exact ic _ x hx
  ·exact h1 x hx
 ·exact h2 x hx
theorem FB {m N T y:Nat}(hm:T / 8<m) (hN:N<2 ^ T):(leB m N).set (T / 8) (N / 256 ^ (T / 8)+y % 2 ^ (8 - T % 8)*2 ^ (T % 8))=leB m (N+2 ^ T*(y % 2 ^ (8 - T % 8)))∧N / 256 ^ (T / 8)+y % 2 ^ (8 - T % 8)*2 ^ (T % 8)<256∧(leB m N)[T / 8]? =some (N / 256 ^ (T / 8))∧N+2 ^ T*(y % 2 ^ (8 - T % 8))<2 ^ (T+(8 - T % 8)):=by
 have hp:0<256 ^ (T / 8):=Nat.pow_pos (ag)
 have h1:=EB hN
 have hr:T % 8<8:=Nat.mod_lt _ (ag)
 have h2:y % 2 ^ (8 - T % 8)<2 ^ (8 - T % 8):=Nat.mod_lt _ (Nat.two_pow_pos _)
 have h3:2 ^ (8 - T % 8)*2 ^ (T % 8)=256:=by rw[←Nat.pow_add,show 8 - T % 8+T % 8=8 from aa]
 have h4:N / 256 ^ (T / 8)+y % 2 ^ (8 - T % 8)*2 ^ (T % 8)<256:=by
  have h5:(y % 2 ^ (8 - T % 8)+1)*2 ^ (T % 8)≤2 ^ (8 - T % 8)*2 ^ (T % 8):=Nat.mul_le_mul_right _ h2
  rw[Nat.add_mul,h3]at h5
  omega
 have h256:2 ^ (T % 8)≤2 ^ 7:=Nat.pow_le_pow_right (ag) (aa)
 have hq:(N+2 ^ T*(y % 2 ^ (8 - T % 8))) / 256 ^ (T / 8)=N / 256 ^ (T / 8)+y % 2 ^ (8 - T % 8)*2 ^ (T % 8):=by
  rw[oc T,Nat.mul_assoc,Nat.add_mul_div_left _ _ hp,Nat.mul_comm (2 ^ (T % 8))]
 refine⟨?_,h4,?_,?_⟩
 ·apply List.ext_getElem?
  intro j
  rw[List.getElem?_set,eJ]
  by_cases hj:T / 8=j
  ·subst hj
   rw[if_pos rfl,if_pos hm,oe hm,hq,Nat.mod_eq_of_lt h4]
  ·rw[if_neg hj]
   by_cases hjm:j<m
   ·rw[oe hjm,oe hjm]
    rcases Nat.lt_or_ge j (T / 8)with hlt|hge
    ·rw[oc T,Nat.mul_assoc,Gc hlt]
    ·obtain⟨d,rfl⟩:∃d,j=T / 8+1+d:=⟨j - (T / 8+1),aa⟩
     rw[Nat.add_assoc,Nat.pow_add,←Nat.div_div_eq_div_mul,←Nat.div_div_eq_div_mul,hq]
     have h6:256≤256 ^ (1+d):=by rw[Nat.pow_add,Nat.pow_one];exact Nat.le_mul_of_pos_right _ (Nat.pow_pos (ag))
     rw[Nat.div_eq_of_lt (show N / 256 ^ (T / 8)<256 ^ (1+d)from aa),Nat.div_eq_of_lt (show N / 256 ^ (T / 8)+y % 2 ^ (8 - T % 8)*2 ^ (T % 8)<256 ^ (1+d)from aa)]
   ·rw[List.getElem?_eq_none (by rw[eJ];omega),List.getElem?_eq_none (by rw[eJ];omega)]
 ·rw[oe hm,Nat.mod_eq_of_lt (show N / 256 ^ (T / 8)<256 from aa)]
 ·rw[Nat.pow_add]
  have h7:2 ^ T*(y % 2 ^ (8 - T % 8)+1)≤2 ^ T*2 ^ (8 - T % 8):=Nat.mul_le_mul_left _ h2
  rw[Nat.mul_add]at h7
  omega
theorem FD {a y k:Nat}(ha:a<2 ^ k) (hk:k<8):a |||(y*2 ^ k % 256)=a+y % 2 ^ (8 - k)*2 ^ k:=by
 have h3:(256:Nat)=2 ^ (8 - k)*2 ^ k:=by rw[←Nat.pow_add,show 8 - k+k=8 from aa]
 have h4:y*2 ^ k % 256=y % 2 ^ (8 - k)*2 ^ k:=by
  conv=> lhs;rw[h3]
  rw[Nat.mul_mod_mul_right]
 rw[h4,Nat.or_comm,Nat.mul_comm,←Nat.two_pow_add_eq_or_of_lt ha,Nat.add_comm]
theorem yg (x d e:Nat):x % 2 ^ d+2 ^ d*(x / 2 ^ d % 2 ^ e)=x % 2 ^ (d+e):=by
 rw[Nat.pow_add,Nat.mod_mul]
theorem DU {m N T t:Nat}(hm:T / 8<m) (h:T % 8+t≤8):∃x,(leB m N)[T / 8]? =some x∧x<256∧x / 2 ^ (T % 8) % 2 ^ t=N / 2 ^ T % 2 ^ t:=by
 refine⟨_,oe hm,Nat.mod_lt _ (ag),?_⟩
 have hT:2 ^ T=256 ^ (T / 8)*2 ^ (T % 8):=oc T
 rw[hT,←Nat.div_div_eq_div_mul]
 generalize N / 256 ^ (T / 8)=y
 have h8:256=2 ^ (T % 8)*(2 ^ t*2 ^ (8 - (T % 8+t))):=by
  rw[←Nat.pow_add,←Nat.pow_add,show T % 8+(t+(8 - (T % 8+t)))=8 from aa]
 rw[h8,Nat.mod_mul_right_div_self,Nat.mod_mul_right_mod]
theorem nP {w:Nat}:∀(l:List Nat) (i:Nat),(∀x∈l,x<2 ^ w)→gj w l / 2 ^ (w*i)=gj w (l.drop i)
 |l,0,_=> an
 | [],i+1,_=> by simp[gj]
 |y::l,i+1,h=> by
  have h2:=h y List.mem_cons_self
  rw[Nat.mul_add,Nat.mul_one,Nat.add_comm (w*i),Nat.pow_add,←Nat.div_div_eq_div_mul,gj,Nat.add_mul_div_left _ _ (Nat.two_pow_pos w),Nat.div_eq_of_lt h2,Nat.zero_add,List.drop_succ_cons]
  exact nP l i fun x hx=> h x (Xa _ hx)
theorem Da {w:Nat}{l:List Nat}{i x:Nat}(h:l[i]? =some x) (hl:∀x∈l,x<2 ^ w):gj w l / 2 ^ (w*i) % 2 ^ w=x:=by
 rw[nP l i hl,dF h,gj,Nat.add_mul_mod_self_left,Nat.mod_eq_of_lt (hl x (Yj h))]
theorem Db {w:Nat}{l:List Nat}(hl:∀x∈l,x<2 ^ w) (t:Nat):gj w l / 2 ^ (w*l.length) % 2 ^ t=0:=by
 rw[nP l l.length hl,List.drop_length,gj,Nat.zero_mod]
theorem DT {N at_ got t:Nat}:N / 2 ^ at_ % 2 ^ got |||(N / 2 ^ (at_+got) % 2 ^ t)*2 ^ got=N / 2 ^ at_ % 2 ^ (got+t):=by
 rw[Nat.pow_add 2 at_,←Nat.div_div_eq_div_mul,Nat.or_comm,Nat.mul_comm (_ % _),←Nat.two_pow_add_eq_or_of_lt (Nat.mod_lt _ (Nat.two_pow_pos got)),Nat.add_comm]
 exact yg _ _ _
theorem my (l:List Po):∀(K k:Nat),k<K→∃r r',(cO l K).2.1=(cO l k).2.1++(uv (dS (cO l k).1 (de l k) - 1 - (cO l k).1)++uv (jN (cO l k).1 (de l k)).length)++r∧(cO l K).2.2=(cO l k).2.2++jN (cO l k).1 (de l k)++r'
 | 0,k,h=> aa
 |K+1,k,h=> by
  rcases Nat.lt_or_eq_of_le (Nat.le_of_lt_succ h)with h1|rfl
  ·obtain⟨r,r',h2,h3⟩:=my l K k h1
   exact⟨r++(uv (dS (cO l K).1 (de l K) - 1 - (cO l K).1)++uv (jN (cO l K).1 (de l K)).length),r'++jN (cO l K).1 (de l K),by simp only[cO,h2,Yf],by simp only[cO,h3,Yf]⟩
  ·exact⟨[], [],by simp[cO],by simp[cO]⟩
def Ca (l:List Po):Nat:=(uv l.length).length+(uv (dg l)).length+(cO l (dk l)).2.1.length
def kz (l:List Po) (k:Nat):Nat:=Ca l+(cO l k).2.2.length
def fY (l:List Po) (k:Nat):Nat:=(jN (cO l k).1 (de l k)).length
abbrev Sk:=Nat×Nat×Nat×Nat
def iZ (l:List Po) (k:Nat):Sk:=((cO l (k+1)).1 - 1,(de l k).length,kz l k,fY l k)
def sk0 (l:List Po) (k:Nat):Sk:=((cO l (k+1)).1 - 1,(de l k).length,0,fY l k)
def fj (l:List Po):List Sk:=(List.range (dk l)).map (iZ l)
def nt (l:List Po) (k:Nat):List Sk:=(List.range k).map (sk0 l)
theorem jl (l:List Po):(fj l).length=dk l:=by simp[fj]
theorem ka {l:List Po}{k:Nat}(h:k<dk l):(fj l)[k]? =some (iZ l k):=by
 rw[fj,Xd,List.getElem?_range h];all_goals rfl
theorem pP (l:List Po) (k:Nat):(nt l k).length=k:=by simp[nt]
theorem tm {l:List Po}{k j:Nat}(h:j<k):(nt l k)[j]? =some (sk0 l j):=by
 rw[nt,Xd,List.getElem?_range h];all_goals rfl
theorem D2 (l:List Po) (k:Nat):nt l (k+1)=nt l k++ [sk0 l k]:=by simp[nt,List.range_succ]
theorem ox (l:List Po) {k:Nat}(h:k<dk l):(((dx l).take (kz l k+fY l k)).drop (kz l k))=jN (cO l k).1 (de l k)∧kz l k+fY l k≤(dx l).length:=by
 obtain⟨r,r',_,h2⟩:=my l (dk l) k h
 have e:dx l=(uv l.length++uv (dg l)++(cO l (dk l)).2.1++(cO l k).2.2)++(jN (cO l k).1 (de l k)++r'):=by
  rw[dx,h2];simp only[Yf]
 have hA:(uv l.length++uv (dg l)++(cO l (dk l)).2.1++(cO l k).2.2).length=kz l k:=by
  simp only[Ya,kz,Ca]
 have hB:(jN (cO l k).1 (de l k)).length=fY l k:=rfl
 constructor
 ·rw[e,List.drop_take,show kz l k+fY l k - kz l k=fY l k from aa,←hA,List.drop_left,←hB,List.take_left]
 ·rw[e,Ya,hA,Ya,hB];omega
theorem FQ (l:List Po) (k:Nat):kz l (k+1)=kz l k+fY l k:=by
 simp only[kz,cO,Ya,fY];omega
theorem Ju (l:List Po):kz l (dk l)=(dx l).length:=by
 simp only[kz,Ca,dx,Ya]
theorem uk (l:List Po):(dx l)=uv l.length++(uv (dg l)++((cO l (dk l)).2.1++(cO l (dk l)).2.2)):=by
 simp only[dx,Yf]
theorem DI (l:List Po) {k:Nat}(h:k<dk l):∃r,(dx l).drop ((uv l.length).length+(uv (dg l)).length+(cO l k).2.1.length)=uv (dS (cO l k).1 (de l k) - 1 - (cO l k).1)++(uv (fY l k)++r):=by
 obtain⟨r,r',h1,_⟩:=my l (dk l) k h
 refine⟨r++(cO l (dk l)).2.2,?_⟩
 have e:dx l=(uv l.length++uv (dg l)++(cO l k).2.1)++(uv (dS (cO l k).1 (de l k) - 1 - (cO l k).1)++(uv (fY l k)++(r++(cO l (dk l)).2.2))):=by
  rw[dx,h1];simp only[Yf,fY]
 have hA:(uv l.length++uv (dg l)++(cO l k).2.1).length=(uv l.length).length+(uv (dg l)).length+(cO l k).2.1.length:=by
  simp only[Ya]
 rw[e,←hA,List.drop_left]
theorem kQ {l:List Po}{k:Nat}(h:k<dk l):1≤(de l k).length∧(de l k).length=min 16 (l.length - 16*k):=by
 rw[m9];unfold dk at h;omega
theorem w2 {l:List Po}{k i:Nat}(h:i<16):(de l k)[i]? =l[16*k+i]? :=by
 rw[de,Xh,List.getElem?_take]
 rw[if_pos (aa)]
structure CuS where
 ps:List Po
 u:Nat
 mv:Nat
 told:Bool
def gJ (ps:List Po):Nat→Int
 | 0=> -1
 |k+1=> match ps[k]? with
  |some p=> (p.1:Int)
  |none=> 2147483647
def mvG (n u q:Nat):Nat:=if q<n∧u / 16=q / 16 then q+1 - u else if q<n then q / 16 - u / 16+q % 16+1 else if u=n then 1 else(n+15) / 16 - u / 16+1
def goC (c:CuS) (q:Nat):CuS:=⟨c.ps,q+1,c.mv+mvG c.ps.length c.u q,false⟩
def qf (ps:List Po) (u:Nat) (t:Int):Nat:=u+(ps.drop u).findIdx fun p=> decide (t≤(p.1:Int))
def jE (c:CuS) (t:Int):CuS:=if t≤gJ c.ps c.u∨c.u=c.ps.length+1 then c else goC c (qf c.ps c.u t)
def eV (c:CuS):List Nat:=match c.u with
 | 0=> []
 |k+1=> match c.ps[k]? with
  |some p=> p.2
  |none=> []
def ln (c:CuS):CuS:=if c.told=true∨eV c= []then c else⟨c.ps,c.u,c.mv+(eV c).length,true⟩
structure iK (c:CuS):Prop where
 ok:fW 0 c.ps
 small:e8 c.ps
 tot:dg c.ps≤100000000
 at_:c.u≤c.ps.length+1
 mvs:c.mv≤c.u+dg (c.ps.take (if c.told=true then c.u else c.u - 1))
theorem Km {ps:List Po}{k:Nat}{p:Po}(h:ps[k]? =some p):gJ ps (k+1)=(p.1:Int):=by rw[gJ,h]
theorem zg (ps:List Po):gJ ps (ps.length+1)=2147483647:=by rw[gJ,List.getElem?_eq_none (Nat.le_refl _)]
theorem GZ {ps:List Po}{u q:Nat}{t:Int}(h1:u≤q) (h2:q≤ps.length) (h3:∀j p,u≤j→j<q→ps[j]? =some p→(p.1:Int)<t) (h4:∀p,ps[q]? =some p→t≤(p.1:Int)):qf ps u t=q:=by
 have key:(ps.drop u).findIdx (fun p=> decide (t≤(p.1:Int)))=q - u:=by
  rcases Nat.lt_or_ge q ps.length with hq|hq
  ·have hlt:q - u<(ps.drop u).length:=by rw[Yo];omega
   rw[List.findIdx_eq hlt]
   constructor
   ·have hp:(ps.drop u)[q - u]=ps[q]:=by rw[List.getElem_drop];congr 1;omega
    rw[hp,decide_eq_true_eq]
    exact h4 _ (Yi hq)
   ·intro j hj
    have hj2:u+j<ps.length:=aa
    have hp:(ps.drop u)[j]'(aK)=ps[u+j]:=by rw[List.getElem_drop]
    rw[hp,decide_eq_false_iff_not]
    have:=h3 (u+j) _ (aa) (aa) (Yi hj2)
    omega
  ·have e:q - u=(ps.drop u).length:=by rw[Yo];omega
   rw[e,List.findIdx_eq_length]
   intro p hp
   obtain⟨j,hj⟩:=List.getElem?_of_mem hp
   rw[Xh]at hj
   have hlt:=(Yk.1 hj).1
   have:=h3 (u+j) p (aa) (aa) hj
   rw[decide_eq_false_iff_not];omega
 rw[qf,key];omega
theorem AU {ps:List Po}{u:Nat}{t:Int}(h:u≤ps.length):u≤qf ps u t∧qf ps u t≤ps.length∧(∀j p,u≤j→j<qf ps u t→ps[j]? =some p→(p.1:Int)<t)∧∀p,ps[qf ps u t]? =some p→t≤(p.1:Int):=by
 have hle:=List.findIdx_le_length (xs:=ps.drop u) (p:=fun p=> decide (t≤(p.1:Int)))
 rw[Yo]at hle
 refine⟨Nat.le_add_right _ _,by unfold qf;omega,fun j p h1 h2 h3=> ?_,fun p hp=> ?_⟩
 ·have h4:j - u<(ps.drop u).findIdx fun p=> decide (t≤(p.1:Int)):=by unfold qf at h2;omega
  have h5:=List.not_of_lt_findIdx h4
  have hj:=(Yk.1 h3)
  obtain⟨hj1,hj2⟩:=hj
  rw[List.getElem_drop]at h5
  have e:ps[u+(j - u)]'(aa)=p:=by rw[←hj2];congr 1;omega
  rw[e]at h5
  have:=of_decide_eq_false h5
  omega
 ·unfold qf at hp
  have hlt:=(Yk.1 hp).1
  have hlt2:(ps.drop u).findIdx (fun p=> decide (t≤(p.1:Int)))<(ps.drop u).length:=aK
  have h5:=List.findIdx_getElem (w:=hlt2)
  rw[List.getElem_drop]at h5
  have e:=(Yk.1 hp).2
  rw[e]at h5
  exact Yt h5
theorem CL (ps:List Po) {a b:Nat}(h:a≤b):dg (ps.take a)≤dg (ps.take b):=by
 have e:ps.take b=ps.take a++(ps.take b).drop a:=by
  conv=> lhs;rw[←List.take_append_drop a (ps.take b)]
  rw[List.take_take,Nat.min_eq_left h]
 rw[e,jz];omega
theorem jU (ps:List Po) (a:Nat):dg (ps.take a)≤dg ps:=by
 conv=> rhs;rw[←List.take_append_drop a ps,jz]
 omega
theorem G5 {n u q:Nat}(h1:u≤q) (h2:q≤n):mvG n u q≤q+1 - u:=by
 unfold mvG
 split
 ·omega
 ·split
  ·omega
  ·split <;> omega
theorem iK.go {c:CuS}(h:iK c) {q:Nat}(h1:c.u≤q) (h2:q≤c.ps.length):iK (goC c q):=by
 refine⟨h.ok,h.small,h.tot,by show q+1≤c.ps.length+1;omega,?_⟩
 have h3:=G5 h1 h2
 have h4:=h.mvs
 have h5:dg (c.ps.take (if c.told=true then c.u else c.u - 1))≤dg (c.ps.take q):=CL _ (by split <;> omega)
 show c.mv+mvG c.ps.length c.u q≤q+1+dg (c.ps.take (if false=true then q+1 else q+1 - 1))
 rw[if_neg (ag),Nat.add_sub_cancel]
 omega
theorem iK.adv {c:CuS}(h:iK c) (t:Int):iK (jE c t):=by
 unfold jE
 split
 ·exact h
 ·rename_i hn
  have hu:c.u≤c.ps.length:=by have:=h.at_;omega
  obtain⟨h1,h2,_⟩:=AU (t:=t) hu
  exact h.go h1 h2
theorem tW {c:CuS}{k:Nat}{p:Po}(hu:c.u=k+1) (h:c.ps[k]? =some p):eV c=p.2:=by rw[eV,hu];simp only[];rw[h]
theorem oh {c:CuS}(h:c.u=0∨c.ps.length<c.u):eV c= []:=by
 unfold eV
 split
 ·rfl
 ·rename_i k hk
  rw[List.getElem?_eq_none (aa)]
theorem iK.pos {c:CuS}(h:iK c):iK (ln c):=by
 unfold ln
 split
 ·exact h
 ·rename_i hn
  refine⟨h.ok,h.small,h.tot,h.at_,?_⟩
  have ht:c.told=false:=by cases hc:c.told with|false=> rfl|true=> exact absurd (.inl hc) hn
  have h4:=h.mvs
  rw[if_neg (by rw[ht];decide)]at h4
  show c.mv+(eV c).length≤c.u+dg (c.ps.take (if true=true then c.u else c.u - 1))
  rw[if_pos rfl]
  rcases hu:c.u with _|k
  ·exact absurd (.inr (oh (.inl hu))) hn
  ·cases hp:c.ps[k]? with
   |none=> exact absurd (.inr (oh (.inr (by rw[List.getElem?_eq_none_iff]at hp;omega)))) hn
   |some p=>
    rw[tW hu hp,o9 hp]
    rw[hu,Nat.add_sub_cancel]at h4
    omega
theorem iK.mvle {c:CuS}(h:iK c):c.mv≤100100001:=by
 have h1:=h.mvs
 have h2:=jU c.ps (if c.told=true then c.u else c.u - 1)
 have h3:=h.tot
 have h4:=h.at_
 have h5:=h.small.1
 omega
theorem HJ (c:CuS) (t:Int):(jE c t).ps=c.ps:=by unfold jE;split <;> rfl
theorem FI (c:CuS):(ln c).ps=c.ps:=by unfold ln;split <;> rfl
theorem pos_u (c:CuS):(ln c).u=c.u:=by unfold ln;split <;> rfl
theorem NH {c:CuS}(h:iK c) {t:Int}(ht:t≤2147483647):t≤gJ (jE c t).ps (jE c t).u:=by
 unfold jE
 split
 ·rename_i hc
  rcases hc with hc|hc
  ·exact hc
  ·rw[hc,zg];exact ht
 ·rename_i hn
  have hu:c.u≤c.ps.length:=by have:=h.at_;omega
  obtain⟨h1,h2,h3,h4⟩:=AU (t:=t) hu
  show t≤gJ c.ps (qf c.ps c.u t+1)
  rw[gJ]
  split
  ·rename_i p hp;exact h4 p hp
  ·exact ht
abbrev Ins:=Nat×Nat×Nat
abbrev VV:=Bool×Nat
structure jT where
 cs:List Int
 offs:List Int
 slop:Int
structure PrG where
 avgs:List Int
 curs:List (Int×ByteArray)
 nears:List jT
 all:Bool
 drive:List Int
 code:List Nat
structure Cfg where
 ins:List Ins
 p:PrG
 lens:List (List Nat)
 ids:List Int
 dead:Nat→Bool
structure MS where
 cs:List CuS
 pl:Int
 steps:Nat
 visits:Nat
def w64 (n:Nat):Nat:=n % 18446744073709551616
def eu (n:Nat):Nat:=min n 1048576
def Jc (f l a:Nat):Nat:=10240*eu f*max (eu a) 1 / (10*eu f*max (eu a) 1+3*max (eu a) 1+9*eu l)
def tN (ls:List (List Nat)) (f d:Nat):Nat:=(ls.getD f []).getD d 0
def m5:CuS:=⟨[],0,0,false⟩
def ei (d:Int) (c:CuS):CuS:=if gJ c.ps c.u<d then jE c d else c
def AD (d:Int) (c:CuS):Bool:=decide (gJ c.ps c.u=d)
def tr (c:Cfg) (d w f:Nat) (fd:Int):VV:=(true,w64 (w*Jc f (tN c.lens fd.toNat d) (c.p.avgs.getD fd.toNat 0).toNat))
def ou (c:Cfg) (k:Nat):Int:=match c.p.curs[k]? with
 |some x=> x.1
 |none=> 0
def uW (c:Cfg) (d a w:Nat) (cs:List CuS):VV×List CuS:=
 (if AD d (ei d (cs.getD a m5))=true then tr c d w (eV (ei d (cs.getD a m5))).length (ou c a)else(false,0),cs.set a (ei d (cs.getD a m5)))
def rQ (d:Int):List Int→List CuS→Bool×List CuS
 | [],cs=> (true,cs)
 |k::r,cs=> if AD d (ei d (cs.getD k.toNat m5))=true then rQ d r (cs.set k.toNat (ei d (cs.getD k.toNat m5)))else(false,cs.set k.toNat (ei d (cs.getD k.toNat m5)))
def jV:List Int→List CuS→List (List Nat)×List CuS
 | [],cs=> ([],cs)
 |k::r,cs=> (eV (cs.getD k.toNat m5)::(jV r (cs.set k.toNat (ln (cs.getD k.toNat m5)))).1,(jV r (cs.set k.toNat (ln (cs.getD k.toNat m5)))).2)
def AF (x:Int):List Int→List Int
 | []=> [x]
 |y::l=> if x≤y then x::y::l else y::AF x l
def gK (l:List Int):List Int:=l.foldr AF []
def j8:List Int→List Int
 | []=> []
 | [x]=> [x]
 |x::y::l=> if x=y then j8 (y::l)else x::j8 (y::l)
def gu (l:List Int) (at_:Nat) (b:Int):Nat:=at_+(l.drop at_).findIdx fun x=> decide (b≤x)
def wK (l:List Int) (at_:Nat) (b:Int) (slop:Int):Bool:=match l[at_]? with
 |some x=> decide (x≤b+slop)
 |none=> false
def gw (b slop:Int):List (List Int)→List Nat→Bool×List Nat
 |l::ls,a::as_=> (wK l (gu l a b) b slop && (gw b slop ls as_).1,gu l a b::(gw b slop ls as_).2)
 |_,_=> (true, [])
def k9 (slop:Int) (lists:List (List Int)):List Int→List Nat→Nat
 | [],_=> 0
 |b::r,at_=> (if(gw b slop lists at_).1=true then 1 else 0)+k9 slop lists r (gw b slop lists at_).2
def Ad (ps:List Nat) (o:Int):List Int:=gK (ps.map fun p:Nat=> (p:Int) - o)
def lj:List (List Nat)→List Int→List (List Int)
 |l::ls,o::os=> Ad l o::lj ls os
 |_,_=> []
def jW (lists:List (List Nat)) (offs:List Int) (slop:Int):Nat:=
 if lists.any (fun l=> l.any fun p=> decide (2147483646<p))=true then 0 else
 k9 slop (lj lists offs) (j8 (gK (lj lists offs).flatten)) (List.replicate lists.length 0)
def G4:jT:=⟨[], [],0⟩
def mz (c:Cfg) (d a w:Nat) (cs:List CuS):VV×List CuS:=
 let n:=c.p.nears.getD a G4
 let r:=rQ d n.cs cs
 if r.1=false then((false,0),r.2)else
 let t:=jV n.cs r.2
 let f:=jW t.1 n.offs n.slop
 (if f=0 then(false,0)else tr c d w f (ou c (n.cs.headD 0).toNat),t.2)
def fR (st:List VV):VV:=st.getLast?.getD (false,0)
def kh (st:List VV) (f:VV→VV→VV):List VV:=
 let r:=f (fR st.dropLast) (fR st)
 st.dropLast.dropLast++ [(r.1,if r.1=true then r.2 else 0)]
def nu (st:List VV) (f:VV→VV):List VV:=st.dropLast++ [f (fR st)]
def qc (st:List VV):Nat:=(st.filter fun v=> v.1).length
def A6 (st:List VV):Nat:=st.foldl (fun s v=> if v.1=true then w64 (s+v.2)else s) 0
def opV (c:Cfg) (d:Nat) (x:Ins) (pc:Nat) (st:List VV) (cs:List CuS):Nat×List VV×List CuS:=
 match x.1 with
 | 1=> (pc,st++ [(false,0)],cs)
 | 2=> (pc,st++ [(true,262144)],cs)
 | 3=> (pc,st++ [if 0<tN c.lens x.2.1 d then(true,262144)else(false,0)],cs)
 | 4=> (pc,st++ [(uW c d x.2.1 x.2.2 cs).1],(uW c d x.2.1 x.2.2 cs).2)
 | 5=> (pc,st++ [(mz c d x.2.1 x.2.2 cs).1],(mz c d x.2.1 x.2.2 cs).2)
 | 6=> (pc,kh st fun a b=> (a.1 && b.1,w64 (a.2+b.2)),cs)
 | 7=> (pc,kh st fun a b=> (a.1 ||b.1,w64 (a.2+b.2)),cs)
 | 8=> (pc,kh st fun a b=> (a.1 ||b.1,max a.2 b.2),cs)
 | 9=> (pc,kh st fun a b=> (a.1,w64 (a.2+b.2)),cs)
 | 10=> (pc,kh st fun a b=> (a.1 && !b.1,a.2),cs)
 | 11=> (pc,nu st fun a=> (!a.1,0),cs)
 | 12=> (pc,nu st fun a=> (a.1,w64 (a.2*x.2.1)),cs)
 | 13=> (pc,nu st fun a=> if a.1=true then(true,w64 (x.2.1*262144))else(false,0),cs)
 | 14=> (pc,st.take (st.length - x.2.1)++ [if x.2.2≤qc (st.drop (st.length - x.2.1))then(true,A6 (st.drop (st.length - x.2.1)))else(false,0)],cs)
 | 15=> (if(fR st).1=true then pc else pc+x.2.1,st,cs)
 | 16=> (if(fR st).1=true then pc+x.2.1 else pc,st,cs)
 |_=> (pc,st,cs)
def jR (c:Cfg) (pc:Nat):Ins:=c.ins.getD pc (0,0,0)
def qL (c:Cfg) (d:Nat):Nat→Nat→List VV→List CuS→Nat→VV×List CuS×Nat
 | 0,_,st,cs,k=> (fR st,cs,k)
 |n+1,pc,st,cs,k=>
  if(jR c pc).1=0 then(fR st,cs,k+1)else
  qL c d n (opV c d (jR c pc) (pc+1) st cs).1 (opV c d (jR c pc) (pc+1) st cs).2.1 (opV c d (jR c pc) (pc+1) st cs).2.2 (k+1)
def hU (c:Cfg) (s:MS):VV×MS:=
 let r:=qL c s.pl.toNat c.ins.length 0 [] s.cs s.steps
 (r.1,⟨r.2.1,s.pl,r.2.2,s.visits+1⟩)
def iH (pl:Int) (c:CuS):CuS:=if gJ c.ps c.u≤pl then jE c (pl+1)else c
def mU (pl:Int):List Int→List CuS→Int→List CuS×Int
 | [],cs,le=> (cs,le)
 |k::r,cs,le=> mU pl r (cs.set k.toNat (iH pl (cs.getD k.toNat m5))) (min le (gJ (iH pl (cs.getD k.toNat m5)).ps (iH pl (cs.getD k.toNat m5)).u))
def ly (c:Cfg) (d:Int):Bool:=decide (0≤d) && decide (d.toNat<c.ids.length) && !c.dead d.toNat
def gf (c:Cfg):Nat→Int→List CuS→Bool×Int×List CuS
 | 0,pl,cs=> (false,pl,cs)
 |n+1,pl,cs=>
  if(mU pl c.p.drive cs 2147483647).2=2147483647 then(false,pl,(mU pl c.p.drive cs 2147483647).1)else
  if ly c (mU pl c.p.drive cs 2147483647).2=true then(true,(mU pl c.p.drive cs 2147483647).2,(mU pl c.p.drive cs 2147483647).1)else
  gf c n (mU pl c.p.drive cs 2147483647).2 (mU pl c.p.drive cs 2147483647).1
def tK (c:Cfg) (i:Nat):Option Nat:=((List.range c.ids.length).drop i).find? fun d=> !c.dead d
def er (c:Cfg) (s:MS):Bool×MS:=
 if c.p.all=true then
  match tK c (s.pl+1).toNat with
  |some d=> (true,⟨s.cs,(d:Int),s.steps,s.visits⟩)
  |none=> (false,s)
 else((gf c 2147483648 s.pl s.cs).1,⟨(gf c 2147483648 s.pl s.cs).2.2,(gf c 2147483648 s.pl s.cs).2.1,s.steps,s.visits⟩)
abbrev Hit:=Int×Nat
def qU (c:Cfg):Nat→MS→Option Hit×MS
 | 0,s=> (none,s)
 |n+1,s=>
  if(er c s).1=false then(none,(er c s).2)else
  if(hU c (er c s).2).1.1=true then(some (c.ids.getD (er c s).2.pl.toNat 0,(hU c (er c s).2).1.2),(hU c (er c s).2).2)else
  qU c n (hU c (er c s).2).2
def dV (c:Cfg) (s:MS):Option Hit×MS:=qU c (c.ids.length+1) s
def kS (c:Cfg):Nat→MS→List Hit×MS
 | 0,s=> ([],s)
 |n+1,s=> match (dV c s).1 with
  |none=> ([],(dV c s).2)
  |some h=> (h::(kS c n (dV c s).2).1,(kS c n (dV c s).2).2)
def Fx (c:Cfg) (s:MS):List Hit×MS:=kS c (c.ids.length+1) s
def kX (s:MS):Nat:=(s.cs.map (·.mv)).sum
def lh (pss:List (List Po)):MS:=⟨pss.map fun ps=> ⟨ps,0,0,false⟩, -1,0,0⟩
end Go.Sx
