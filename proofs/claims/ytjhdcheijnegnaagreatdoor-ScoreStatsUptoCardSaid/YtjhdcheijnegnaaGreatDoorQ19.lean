import Derived.Test.YtjhdcheijnegnaaGreatDoorQ17
import Derived.Test.YtjhdcheijnegnaaGreatDoorQ16
set_option linter.all false
set_option maxHeartbeats 0
namespace Go.Sx
open Go Go.Proofs
set_option maxRecDepth 100000
section
variable {α:Type}{full:List α}{i nb:Nat}{ns:List Nat}{z:α}
def eV {α:Type}(full:List α) (z:α) (i:Nat):List α:=full.take i++List.replicate (full.length-i) z
theorem iT (h:i≤full.length):(eV full z i).length=full.length:=by simp[eV];omega
theorem kx (full:List α) (z:α):eV full z 0=List.replicate full.length z:=by simp[eV]
theorem kN (full:List α) (z:α):eV full z full.length=full:=by simp[eV]
theorem lV {b:α}(h:full[i]? =some b):(eV full z i).set i b=eV full z (i+1):=by
 have hi:=(Yk.1 h).1;obtain⟨d,hd⟩:∃d,full.length-i=d+1:=⟨full.length-i-1,a8⟩;have h2:full.length-(i+1)=d:=a8;rw[eV,eV,hd,h2,cL h,Uy,U8 _ _ ar,Yg,Vk a8,Vw];simp
abbrev Po:=Nat×List Nat
def dZ (nb:Nat) (l:List Po):Nat:=match l.getLast? with|none=>nb|some p=>p.1+1
def gL:Nat→List Po→List Nat
 |_, []=>[]
 |nb,p::r=>(p.1-nb)::gL (p.1+1) r
def iM (l:List Po):List Nat:=l.map λp=>p.2.length-1
def fD:Nat→List Nat→List Nat
 |_, []=>[]
 |nb,x::r=>uv (x-nb)++fD (x+1) r
def ep (l:List Po):List Nat:=l.flatMap λp=>fD 0 p.2
def kc (nb:Nat) (l:List Po):List Nat:=dN (gL nb l)++dN (iM l)++ep l
def dn (l:List Po):Nat:=(l.map λp=>p.2.length).sum
def dg (l:List Po) (k:Nat):List Po:=(l.take (16*k+16)).drop (16*k)
def cM (l:List Po):Nat→Nat×List Nat×List Nat
 | 0=>(0, [], [])
 |k+1=>(dZ (cM l k).1 (dg l k),
  (cM l k).2.1++(uv (dZ (cM l k).1 (dg l k)-1-(cM l k).1)++uv (kc (cM l k).1 (dg l k)).length),
  (cM l k).2.2++kc (cM l k).1 (dg l k))
def dC (l:List Po):Nat:=(l.length+15)/16
def dD (l:List Po):List Nat:=uv l.length++uv (dn l)++(cM l (dC l)).2.1++(cM l (dC l)).2.2
def pG:Nat→List Nat→Prop
 |_, []=>True
 |nb,x::r=>nb≤x∧pG (x+1) r
def gJ:Nat→List Po→Prop
 |_, []=>True
 |nb,p::r=>nb≤p.1∧p.2≠ []∧pG 0 p.2∧gJ (p.1+1) r
def eG (l:List Po):Prop:=l.length≤100000∧∀p∈l,p.1≤1000000∧p.2.length≤100000000∧∀x∈p.2,x<1099511627776
theorem lM (nb:Nat):dZ nb []=nb:=rfl
theorem mF (nb:Nat) (l:List Po) (p:Po):dZ nb (l++ [p])=p.1+1:=by simp[dZ]
theorem j6 (nb:Nat) (p:Po) (l:List Po):dZ nb (p::l)=dZ (p.1+1) l:=by
 cases l with
 |nil=>rfl
 |cons q l=>
  have h:(q::l).getLast? ≠none:=ak;simp only[dZ,List.getLast?_cons_cons];cases hc:(q::l).getLast? with
  |none=>exact absurd hc h
  |some r=>rfl
theorem oM {l:List Po}{p:Po}(h:l[i]? =some p):dZ nb (l.take (i+1))=p.1+1:=by
 rw[cL h,mF]
theorem gb:∀(l:List Po) (nb:Nat),(gL nb l).length=l.length
 | [],_=>rfl
 |p::r,nb=>by simp[gL,gb r]
theorem qE:∀{l:List Po}{nb i:Nat}{p:Po},l[i]? =some p→(gL nb l)[i]? =some (p.1-dZ nb (l.take i))
 | [],_,_,_,h=>aI
 |q::r,nb,0,p,h=>by simp at h;subst h;simp[gL,lM]
 |q::r,nb,i+1,p,h=>by
  rw[Xc]at h;rw[gL,Xc,qE h,Vj,j6]
theorem iQ:∀{l:List Po}{nb i:Nat}{p:Po},gJ nb l→l[i]? =some p→dZ nb (l.take i)≤p.1∧p.2≠ []∧pG 0 p.2
 | [],_,_,_,_,h=>aI
 |q::r,nb,0,p,hk,h=>by simp at h;subst h;exact⟨hk.1,hk.2.1,hk.2.2.1⟩
 |q::r,nb,i+1,p,hk,h=>by
  rw[Xc]at h;rw[Vj,j6];exact iQ hk.2.2.2 h
theorem uO:∀{l:List Po}{nb:Nat}(i:Nat),gJ nb l→gJ (dZ nb (l.take i)) (l.drop i)
 |l,nb,0,h=>by simpa [lM] using h
 | [],_,i+1,_=>by simp[gJ]
 |p::r,nb,i+1,h=>by
  rw[Vj,V7,j6];exact uO i h.2.2.2
theorem qz:∀{l:List Po}{nb:Nat}(i:Nat),gJ nb l→gJ nb (l.take i)
 |_,_,0,_=>by simp[gJ]
 | [],_,i+1,_=>by simp[gJ]
 |p::r,nb,i+1,h=>by
  rw[Vj];exact⟨h.1,h.2.1,h.2.2.1,qz i h.2.2.2⟩
theorem CJ (nb:Nat) (a b:List Po):dZ nb (a++b)=dZ (dZ nb a) b:=by
 cases b with
 |nil=>simp[lM]
 |cons p b=>
  obtain⟨c,q,d⟩:∃c q,p::b=c++ [q]:=by
   rcases R0 (p::b)with h|⟨c,q,h⟩
   ·cases h
   ·exact⟨c,q,bM⟩
  rw[d,←Yf,mF,mF]
theorem jH (l:List Po) (k:Nat):l.take (16*k)++dg l k=l.take (16*(k+1)):=by
 have h:l.take (16*k)=(l.take (16*k+16)).take (16*k):=by rw[R9,Vk a8]
 rw[dg,h,Xv];all_goals rfl
theorem rb (l:List Po):∀k,(cM l k).1=dZ 0 (l.take (16*k))
 | 0=>rfl
 |k+1=>by rw[cM,rb l k,←CJ,jH]
theorem kV {l:List Po}(h:gJ 0 l) (k:Nat):gJ (cM l k).1 (dg l k):=by
 have h2:=uO (16*k) (qz (16*k+16) h);rw[rb,dg]
 rwa [R9,Vk a8]at h2
theorem ma (l:List Po) (k:Nat):(dg l k).length=min (16*k+16) l.length-16*k:=by simp[dg]
theorem Dh {l:List Po}{k:Nat}{p:Po}(h:p∈dg l k):p∈l:=Yq (Yp h)
theorem mh:∀{l:List Nat}{nb j x:Nat},l[j]? =some x→fD nb (l.take (j+1))=fD nb (l.take j)++uv (x-(if j=0 then nb else l.getD (j-1) 0+1))
 | [],_,_,_,h=>aI
 |y::r,nb,0,x,h=>by simp at h;subst h;simp[fD]
 |y::r,nb,1,x,h=>by
  cases r with
  |nil=>simp at h
  |cons z r=>simp at h;subst h;simp[fD]
 |y::r,nb,j+2,x,h=>by
  rw[Xc]at h;rw[Vj,fD,mh h,Vj,fD,if_neg a8,if_neg a8,Yf];simp
theorem nU:∀{l:List Nat}{nb j x:Nat},pG nb l→l[j]? =some x→(if j=0 then nb else l.getD (j-1) 0+1)≤x
 | [],_,_,_,_,h=>aI
 |y::r,nb,0,x,hk,h=>by simp at h;subst h;simpa using hk.1
 |y::r,nb,1,x,hk,h=>by
  cases r with
  |nil=>simp at h
  |cons z r=>simp at h;subst h;simpa using hk.2.1
 |y::r,nb,j+2,x,hk,h=>by
  rw[Xc]at h;have:=nU hk.2 h;rw[if_neg a8]at this;rw[if_neg a8]
  simpa using this
theorem qW {l:List Po}{p:Po}(h:l[i]? =some p):ep (l.take (i+1))=ep (l.take i)++fD 0 p.2:=by
 rw[cL h];simp[ep]
theorem nQ {l:List Po}{p:Po}(h:l[i]? =some p):dn (l.take (i+1))=dn (l.take i)+p.2.length:=by
 rw[cL h];simp[dn]
theorem eA {n k:Nat}(h:n<1099511627776) (hk:6≤k):(uv n).length≤k:=Xi (DL 6 n a8 ae) hk
theorem qm:∀{l:List Nat}{nb:Nat},(∀x∈l,x<1099511627776)→(fD nb l).length≤6*l.length
 | [],_,_=>by simp[fD]
 |x::r,nb,h=>by
  have h1:=eA (n:=x-nb) (k:=6) (by have:=h x ak;omega) a8;have h2:=qm (nb:=x+1) (λy hy=>h y (Xa _ hy));simp only[fD,Ya,Yb];omega
theorem oD:∀{l:List Po},(∀p∈l,∀x∈p.2,x<1099511627776)→(ep l).length≤6*dn l
 | [],_=>by simp[ep]
 |p::r,h=>by
  have h1:=qm (nb:=0) (h p ak);have h2:=oD (l:=r) (λq a=>h q (Xa _ a));simp only[ep,dn,Vp,Ya,Xn,Vn]at*;omega
theorem je (hl:∀x∈ns,x<1099511627776) (a:ns.length<1099511627776):(dN ns).length≤10+5*ns.length:=by
 have h1:=eA (n:=ns.length) (k:=6) a a8;rw[dN,Ya]
 by_cases h:ns= []
 ·rw[if_pos h];simp;omega
 ·rw[if_neg h,Yb,B9,fj];have h2:cX (orL ns)≤40:=(gC _ _).2 (nw (k:=40) ae hl);have h3:ns.length*cX (orL ns)≤ns.length*40:=V8 _ h2;have:1≤ns.length:=by cases ns with|nil=>exact absurd rfl h|cons=>simp
  omega
theorem kL:∀{l:List Po}{nb m:Nat},(∀p∈l,p.1≤m)→∀x∈gL nb l,x≤m
 | [],_,_,_,x,hx=>by simp[gL]at hx
 |p::r,nb,m,h,x,hx=>by
  rcases Xr.1 hx with rfl|hx
  ·have:=h p ak;omega
  ·exact kL (λq a=>h q (Xa _ a)) x hx
theorem pN {l:List Po}{m:Nat}(h:∀p∈l,p.2.length≤m):∀x∈iM l,x≤m:=by
 intro x hx;obtain⟨p,hp,rfl⟩:=Xw.1 hx;have:=h p hp;omega
theorem pZ {l:List Po}(h:eG l):(kc nb l).length≤20+10*l.length+6*dn l:=by
 obtain⟨h0,h1⟩:=h;have h2:=je (ns:=gL nb l) (λx hx=>by have:=kL (λp hp=>(h1 p hp).1) x hx;omega) bX;have h3:=je (ns:=iM l) (λx hx=>by have:=pN (λp hp=>(h1 p hp).2.1) x hx;omega) bK;have h4:=oD (l:=l) (λp hp=>(h1 p hp).2.2);rw[gb]at h2;rw[iM,Yh]at h3;simp only[kc,Ya];rw[iM];omega
theorem m8 {l:List Po}(h:eG l) (k:Nat):eG (dg l k):=
 ⟨by have:=h.1;rw[ma];omega,λp hp=>h.2 p (Dh hp)⟩
theorem jT (a b:List Po):dn (a++b)=dn a+dn b:=by simp[dn]
theorem vL {l:List Po}(h:eG l):dn l≤l.length*100000000:=by
 have a:∀m:List Po,(∀p∈m,p.2.length≤100000000)→dn m≤m.length*100000000:=by
  intro m
  induction m with
  |nil=>intro _;simp[dn]
  |cons p m ih=>
   intro hm;have h1:=ih (λq b=>hm q (Xa _ b));have h2:=hm p ak;simp only[dn,Xn,Vn,Yb]at h1⊢;omega
 exact a l λp hp=>(h.2 p hp).2.1
theorem j5 {l:List Po}(h:eG l):∀k,(cM l k).2.1.length≤12*k∧(cM l k).2.2.length≤20*k+10*(l.take (16*k)).length+6*dn (l.take (16*k))∧(cM l k).1≤1000001
 | 0=>by simp[cM,dn]
 |k+1=>by
  obtain⟨h1,h2,h3⟩:=j5 h k;have b:=m8 h k;have h4:=pZ (nb:=(cM l k).1) b;have d:dZ (cM l k).1 (dg l k)≤1000001:=by
   unfold dZ
   split
   ·exact h3
   ·rename_i p hp;have:=(b.2 p (List.mem_of_getLast? hp)).1;omega
  have h6:dn (dg l k)≤16*100000000:=by
   have a:(dg l k).length≤16:=by rw[ma];omega
   exact Xi (vL b) (Vc _ a)
  have h7:=eA (n:=dZ (cM l k).1 (dg l k)-1-(cM l k).1) (k:=6) a8 a8;have a:(dg l k).length≤16:=by rw[ma];omega
  have h8:=eA (n:=(kc (cM l k).1 (dg l k)).length) (k:=6) a8 a8;have h9:(l.take (16*(k+1))).length=(l.take (16*k)).length+(dg l k).length:=by rw[←jH,Ya]
  have c:dn (l.take (16*(k+1)))=dn (l.take (16*k))+dn (dg l k):=by rw[←jH,jT]
  refine⟨?_,?_,by simp only[cM];exact d⟩
  ·simp only[cM,Ya];omega
  ·rw[h9,c];simp only[cM,Ya];omega
theorem mU (l:List Po):l.take (16*dC l)=l:=Xq cn
theorem vk {l:List Po}(h:eG l) (a:dn l<1099511627776):(dD l).length≤60+20*l.length+6*dn l:=by
 obtain⟨h1,h2,_⟩:=j5 h (dC l);rw[mU]at h2;have h3:=eA (n:=l.length) (k:=6) (by have:=h.1;omega) a8;have h4:=eA (n:=dn l) (k:=6) a a8;have h5:16*dC l≤l.length+15:=cn;simp only[dD,Ya];omega
theorem xb:∀(l:List Nat) (nb:Nat),∀x∈fD nb l,x<256
 | [],_,x,hx=>by simp[fD]at hx
 |y::r,nb,x,hx=>by
  rcases Xl.1 hx with h|h
  ·exact iP _ x h
  ·exact xb r _ x h
theorem oI (hl:∀x∈ns,x<1099511627776):∀x∈dN ns,x<256:=by
 intro x hx;have h2:cX (orL ns)≤40:=(gC _ _).2 (nw (k:=40) ae hl);rcases Xl.1 hx with h|h
 ·exact iP _ x h
 ·split at h
  ·simp at h
  ·rcases Xr.1 h with rfl|h
   ·omega
   ·exact LI _ _ x h
theorem BK {l:List Po}(h:eG l):∀x∈kc nb l,x<256:=by
 intro x hx;rcases Xl.1 hx with hx|hx
 ·rcases Xl.1 hx with hx|hx
  ·exact oI (λx hx=>by have:=kL (λp hp=>(h.2 p hp).1) x hx;omega) x hx
  ·exact oI (λx hx=>by have:=pN (λp hp=>(h.2 p hp).2.1) x hx;omega) x hx
 ·obtain⟨p,_,hp⟩:=X7.1 hx;exact xb _ _ x hp
theorem uI {l:List Po}(h:eG l):∀k,(∀x∈(cM l k).2.1,x<256)∧∀x∈(cM l k).2.2,x<256
 | 0=>by simp[cM]
 |k+1=>by
  obtain⟨h1,h2⟩:=uI h k
  constructor
  ·intro x hx;rcases Xl.1 hx with hx|hx
   ·exact h1 x hx
   ·rcases Xl.1 hx with hx|hx <;> exact iP _ x hx
  ·intro x hx;rcases Xl.1 hx with hx|hx
   ·exact h2 x hx
   ·exact BK (m8 h k) x hx
theorem yw {l:List Po}(h:eG l):∀x∈dD l,x<256:=by
 intro x hx;obtain⟨h1,h2⟩:=uI h (dC l);rcases Xl.1 hx with hx|hx
 ·rcases Xl.1 hx with hx|hx
  ·rcases Xl.1 hx with hx|hx <;> exact iP _ x hx
  ·exact h1 x hx
 ·exact h2 x hx
end
section
variable {k w:Nat}{l:List Po}
theorem Dk {m N T t:Nat}(hm:T/8<m) (h:T%8+t≤8):∃x,(leB m N)[T/8]? =some x∧x<256∧x/2^(T%8)%2^t=N/2^T%2^t:=by
 refine⟨_,nX hm,Um _ ae,?_⟩;have hT:2^T=256^(T/8)*2^(T%8):=nT T;rw[hT,←S2];generalize N/256^(T/8)=y;have a:256=2^(T%8)*(2^t*2^(8-(T%8+t))):=by
  rw[←Ud,←Ud,show T%8+(t+(8-(T%8+t)))=8 from a8]
 rw[a,Nat.mod_mul_right_div_self,Nat.mod_mul_right_mod]
theorem nv:∀(l:List Nat) (i:Nat),(∀x∈l,x<2^w)→gI w l/2^(w*i)=gI w (l.drop i)
 |l,0,_=>ak
 | [],i+1,_=>by simp[gI]
 |y::l,i+1,h=>by
  have h2:=h y Yz;rw[X0,R6,Q5 (w*i),Ud,←S2,gI,Nat.add_mul_div_left _ _ (U5 w),Nat.div_eq_of_lt h2,Vf,V7];exact nv l i λx hx=>h x (Xa _ hx)
theorem CA {l:List Nat}{i x:Nat}(h:l[i]? =some x) (hl:∀x∈l,x<2^w):gI w l/2^(w*i)%2^w=x:=by
 rw[nv l i hl,fE h,gI,Nat.add_mul_mod_self_left,Xt (hl x (Yj h))]
theorem CB {l:List Nat}(hl:∀x∈l,x<2^w) (t:Nat):gI w l/2^(w*l.length)%2^t=0:=by
 rw[nv l l.length hl,X4,gI,Nat.zero_mod]
theorem Dj {N at_ got t:Nat}:N/2^at_%2^got |||(N/2^(at_+got)%2^t)*2^got=N/2^at_%2^(got+t):=by
 rw[Ud 2 at_,←S2,Nat.or_comm,Ug (_%_),←S1 (Um _ (U5 got)),Q5];exact xK _ _ _
theorem my (l:List Po):∀(K k:Nat),k<K→∃r a,(cM l K).2.1=(cM l k).2.1++(uv (dZ (cM l k).1 (dg l k)-1-(cM l k).1)++uv (kc (cM l k).1 (dg l k)).length)++r∧(cM l K).2.2=(cM l k).2.2++kc (cM l k).1 (dg l k)++a
 | 0,k,h=>a8
 |K+1,k,h=>by
  rcases Uq (X9 h)with h1|rfl
  ·obtain⟨r,a,h2,h3⟩:=my l K k h1;exact⟨r++(uv (dZ (cM l K).1 (dg l K)-1-(cM l K).1)++uv (kc (cM l K).1 (dg l K)).length),a++kc (cM l K).1 (dg l K),by simp only[cM,h2,Yf],by simp only[cM,h3,Yf]⟩
  ·exact⟨[], [],by simp[cM],by simp[cM]⟩
def Bp (l:List Po):Nat:=(uv l.length).length+(uv (dn l)).length+(cM l (dC l)).2.1.length
def kH (l:List Po) (k:Nat):Nat:=Bp l+(cM l k).2.2.length
def gB (l:List Po) (k:Nat):Nat:=(kc (cM l k).1 (dg l k)).length
abbrev Sk:=Nat×Nat×Nat×Nat
def kh (l:List Po) (k:Nat):Sk:=((cM l (k+1)).1-1,(dg l k).length,kH l k,gB l k)
def sk0 (l:List Po) (k:Nat):Sk:=((cM l (k+1)).1-1,(dg l k).length,0,gB l k)
def fS (l:List Po):List Sk:=(List.range (dC l)).map (kh l)
def n6 (l:List Po) (k:Nat):List Sk:=(List.range k).map (sk0 l)
theorem jz (l:List Po):(fS l).length=dC l:=by simp[fS]
theorem lD (h:k<dC l):(fS l)[k]? =some (kh l k):=by
 rw[fS,Xd,X3 h];all_goals rfl
theorem pq (l:List Po) (k:Nat):(n6 l k).length=k:=by simp[n6]
theorem sO {j:Nat}(h:j<k):(n6 l k)[j]? =some (sk0 l j):=by
 rw[n6,Xd,X3 h];all_goals rfl
theorem Ck (l:List Po) (k:Nat):n6 l (k+1)=n6 l k++ [sk0 l k]:=by simp[n6,U6]
theorem o7 (l:List Po) (h:k<dC l):(((dD l).take (kH l k+gB l k)).drop (kH l k))=kc (cM l k).1 (dg l k)∧kH l k+gB l k≤(dD l).length:=by
 obtain⟨r,b,_,h2⟩:=my l (dC l) k h;have e:dD l=(uv l.length++uv (dn l)++(cM l (dC l)).2.1++(cM l k).2.2)++(kc (cM l k).1 (dg l k)++b):=by
  rw[dD,h2];simp only[Yf]
 have hA:(uv l.length++uv (dn l)++(cM l (dC l)).2.1++(cM l k).2.2).length=kH l k:=by
  simp only[Ya,kH,Bp]
 have a:(kc (cM l k).1 (dg l k)).length=gB l k:=rfl
 constructor
 ·rw[e,R8,show kH l k+gB l k-kH l k=gB l k from a8,←hA,Xy,←a,V3]
 ·rw[e,Ya,hA,Ya,a];omega
theorem F8 (l:List Po) (k:Nat):kH l (k+1)=kH l k+gB l k:=by
 simp only[kH,cM,Ya,gB];omega
theorem IB (l:List Po):kH l (dC l)=(dD l).length:=by
 simp only[kH,Bp,dD,Ya]
theorem tM (l:List Po):(dD l)=uv l.length++(uv (dn l)++((cM l (dC l)).2.1++(cM l (dC l)).2.2)):=by
 simp only[dD,Yf]
theorem D6 (l:List Po) (h:k<dC l):∃r,(dD l).drop ((uv l.length).length+(uv (dn l)).length+(cM l k).2.1.length)=uv (dZ (cM l k).1 (dg l k)-1-(cM l k).1)++(uv (gB l k)++r):=by
 obtain⟨r,r',h1,_⟩:=my l (dC l) k h;refine⟨r++(cM l (dC l)).2.2,?_⟩;have e:dD l=(uv l.length++uv (dn l)++(cM l k).2.1)++(uv (dZ (cM l k).1 (dg l k)-1-(cM l k).1)++(uv (gB l k)++(r++(cM l (dC l)).2.2))):=by
  rw[dD,h1];simp only[Yf,gB]
 have hA:(uv l.length++uv (dn l)++(cM l k).2.1).length=(uv l.length).length+(uv (dn l)).length+(cM l k).2.1.length:=by
  simp only[Ya]
 rw[e,←hA,Xy]
theorem m9 (h:k<dC l):1≤(dg l k).length∧(dg l k).length=min 16 (l.length-16*k):=by
 rw[ma];unfold dC at h;omega
theorem Di {i:Nat}(h:i<16):(dg l k)[i]? =l[16*k+i]? :=by
 rw[dg,Xh,Q7];rw[if_pos a8]
end
section
variable {k:Nat}{p:Po}
structure CuS where
 ps:List Po
 u:Nat
 mv:Nat
 told:Bool
def m5 (ps:List Po):Nat→Int
 | 0=>-1
 |k+1=>match ps[k]? with
  |some p=>(p.1:Int)
  |none=>2147483647
def mvG (n u q:Nat):Nat:=if q<n∧u/16=q/16 then q+1-u else if q<n then q/16-u/16+q%16+1 else if u=n then 1 else(n+15)/16-u/16+1
def goC (c:CuS) (q:Nat):CuS:=⟨c.ps,q+1,c.mv+mvG c.ps.length c.u q,false⟩
def tq (c:CuS):List Nat:=match c.u with
 | 0=>[]
 |k+1=>match c.ps[k]? with
  |some p=>p.2
  |none=>[]
def O3 (c:CuS):CuS:=if c.told=true∨tq c= []then c else⟨c.ps,c.u,c.mv+(tq c).length,true⟩
structure om (c:CuS):Prop where
 ok:gJ 0 c.ps
 small:eG c.ps
 tot:dn c.ps≤100000000
 at_:c.u≤c.ps.length+1
 mvs:c.mv≤c.u+dn (c.ps.take (if c.told=true then c.u else c.u-1))
theorem wK {ps:List Po}(h:ps[k]? =some p):m5 ps (k+1)=(p.1:Int):=by rw[m5,h]
theorem yE (ps:List Po):m5 ps (ps.length+1)=2147483647:=by rw[m5,Ve (Xj _)]
theorem BX (ps:List Po) {a b:Nat}(h:a≤b):dn (ps.take a)≤dn (ps.take b):=by
 have e:ps.take b=ps.take a++(ps.take b).drop a:=by
  conv=>lhs;rw[←Xv a (ps.take b)]
  rw[R9,Vk h]
 rw[e,jT];omega
theorem kg (ps:List Po) (a:Nat):dn (ps.take a)≤dn ps:=by
 conv=>rhs;rw[←Xv a ps,jT]
 omega
theorem Fo {n u q:Nat}(h1:u≤q) (h2:q≤n):mvG n u q≤q+1-u:=by
 unfold mvG
 split
 ·omega
 ·split
  ·omega
  ·split <;> omega
theorem om.go {c:CuS}(h:om c) {q:Nat}(h1:c.u≤q) (h2:q≤c.ps.length):om (goC c q):=by
 refine⟨h.ok,h.small,h.tot,by show q+1≤c.ps.length+1;omega,?_⟩;have h3:=Fo h1 h2;have h4:=h.mvs;have h5:dn (c.ps.take (if c.told=true then c.u else c.u-1))≤dn (c.ps.take q):=BX _ (by split <;> omega);show c.mv+mvG c.ps.length c.u q≤q+1+dn (c.ps.take (if false=true then q+1 else q+1-1));rw[if_neg ae,Uj];omega
theorem FY {c:CuS}(a:c.u=k+1) (h:c.ps[k]? =some p):tq c=p.2:=by rw[tq,a];simp only[];rw[h]
theorem Bo {c:CuS}(h:c.u=0∨c.ps.length<c.u):tq c= []:=by
 unfold tq
 split
 ·rfl
 ·rename_i k hk;rw[Ve a8]
theorem om.pos {c:CuS}(h:om c):om (O3 c):=by
 unfold O3
 split
 ·exact h
 ·rename_i a;refine⟨h.ok,h.small,h.tot,h.at_,?_⟩;have b:c.told=false:=by cases hc:c.told with|false=>rfl|true=>exact absurd (.inl hc) a
  have h4:=h.mvs;rw[if_neg (by rw[b];decide)]at h4;show c.mv+(tq c).length≤c.u+dn (c.ps.take (if true=true then c.u else c.u-1));rw[if_pos rfl];rcases hu:c.u with _|k
  ·exact absurd (.inr (Bo (.inl hu))) a
  ·cases hp:c.ps[k]? with
   |none=>exact absurd (.inr (Bo (.inr (by rw[List.getElem?_eq_none_iff]at hp;omega)))) a
   |some p=>
    rw[FY hu hp,nQ hp];rw[hu,Uj]at h4;omega
theorem om.mvle {c:CuS}(h:om c):c.mv≤100100001:=by
 have h1:=h.mvs;have h2:=kg c.ps (if c.told=true then c.u else c.u-1);have h3:=h.tot;have h4:=h.at_;have h5:=h.small.1;omega
end
structure z7 where
 cs:List Int
 offs:List Int
 slop:Int
structure PrG where
 avgs:List Int
 curs:List (Int×ByteArray)
 nears:List z7
 all:Bool
 drive:List Int
 code:List Nat
def OC:CuS:=⟨[],0,0,false⟩
abbrev Hs:=List (Option Nat)
def hs0 (n:Nat):Hs:=(List.replicate n none).set 0 (some 0)
section
variable {cs:List CuS}{pss:List (List Po)}
structure Ax (pss:List (List Po)) (cs:List CuS):Prop where
 same:cs.map (·.ps)=pss
 ok:∀c∈cs,om c
theorem Ax.len (h:Ax pss cs):cs.length=pss.length:=by rw[←h.same,Yh]
theorem Ax.get (h:Ax pss cs){k:Nat}{c:CuS}(hk:cs[k]? =some c):om c:=h.ok c (Yj hk)
theorem Ax.set (h:Ax pss cs){f:CuS→CuS}(k:Nat) (hf:∀c,om c→om (f c)) (hp:∀c,(f c).ps=c.ps):Ax pss (cs.set k (f (cs.getD k OC))):=by
 rcases U9 k cs.length with hk|hk
 ·have a:cs[k]? =some cs[k]:=Yi hk;have hd:cs.getD k OC=cs[k]:=by rw[Xm,a];all_goals rfl
  rw[hd];refine⟨?_,λc b=>?_⟩
  ·rw[←h.same];apply Vu;intro j;rw[Xd,Xd,U2]
   by_cases hj:k=j
   ·subst hj;rw[if_pos rfl,if_pos hk,a];simp[hp]
   ·rw[if_neg hj]
  ·rcases List.mem_or_eq_of_mem_set b with b|rfl
   ·exact h.ok c b
   ·exact hf _ (h.get a)
 ·rw[List.set_eq_of_length_le hk];exact h
end
section
variable {i:Nat}
structure En where
 key:ByteArray
 docs:Nat
 tot:Nat
 at_:Nat
 size:Nat
def dK:List Nat→List Nat→Nat
 |a::x,b::y=>if a=b then dK x y+1 else 0
 |_,_=>0
def lY (prev:List Nat) (e:En):List Nat:=uv (dK prev (cF e.key))++(uv ((cF e.key).length-dK prev (cF e.key))++(cF e.key).drop (dK prev (cF e.key)))++(uv e.docs++uv e.tot++uv e.at_++uv e.size)
def dM:List Nat→List En→List Nat
 |_, []=>[]
 |prev,e::r=>lY prev e++dM (cF e.key) r
def kJ (prev:List Nat) (l:List En):List Nat:=match l.getLast? with|none=>prev|some e=>cF e.key
def eY (l:List En) (k:Nat):List En:=(l.take (16*k+16)).drop (16*k)
def dx (l:List En):Nat→List Nat×List Nat
 | 0=>([], [])
 |k+1=>((dx l k).1++uv (dM [] (eY l k)).length,(dx l k).2++dM [] (eY l k))
def fm (l:List En):Nat:=(l.length+15)/16
def fT (l:List En):List Nat:=uv l.length++(dx l (fm l)).1++(dx l (fm l)).2
def ru (l:List En):Prop:=(∀e∈l,1≤e.key.size∧e.key.size≤65∧e.docs≤2147483647∧e.tot≤2147483647∧e.at_≤2147483647∧e.size≤2147483647)∧∀i a b,l[i]? =some a→l[i+1]? =some b→cF a.key<cF b.key
theorem nn (b:List Nat):dK [] b=0:=by cases b <;> rfl
theorem kD:∀a b:List Nat,dK a b≤a.length∧dK a b≤b.length
 | [],b=>by simp[nn]
 |a::x, []=>by simp[dK]
 |a::x,b::y=>by
  have:=kD x y;simp only[dK,Yb]
  split <;> omega
theorem pr:∀a b:List Nat,a.take (dK a b)=b.take (dK a b)
 | [],b=>by simp[nn]
 |a::x, []=>by simp[dK]
 |a::x,b::y=>by
  simp only[dK]
  split
  ·rename_i h;rw[Vj,Vj,pr x y,h]
  ·simp
theorem mq:∀{a b:List Nat}{k:Nat},k≤a.length→k≤b.length→(∀j,j<k→at0 a j=at0 b j)→(k=a.length∨k=b.length∨at0 a k≠at0 b k)→dK a b=k
 | [],b,k,h1,_,_,_=>by simp at h1;subst h1;exact nn b
 |a::x, [],k,_,h2,_,_=>by simp at h2;subst h2;rfl
 |a::x,b::y,0,_,_,_,h=>by
  rcases h with h|h|h
  ·simp at h
  ·simp at h
  ·simp only[dK];rw[if_neg (by simpa [at0] using h)]
 |a::x,b::y,k+1,h1,h2,hj,h=>by
  have h0:a=b:=by simpa [at0] using hj 0 a8
  simp only[dK];rw[if_pos h0];rw[mq (a:=x) (b:=y) (k:=k) cC (by simpa using h2) (λj hlt=>by simpa [at0] using hj (j+1) a8) (by simpa [at0] using h)]
theorem CK (p:List Nat):kJ p []=p:=rfl
theorem zP (p:List Nat) (l:List En) (e:En):kJ p (l++ [e])=cF e.key:=by simp[kJ]
theorem zQ (p:List Nat) (e:En) (l:List En):kJ p (e::l)=kJ (cF e.key) l:=by
 cases l with
 |nil=>rfl
 |cons q l=>
  have h:(q::l).getLast? ≠none:=ak;simp only[kJ,List.getLast?_cons_cons];cases hc:(q::l).getLast? with
  |none=>exact absurd hc h
  |some r=>rfl
theorem o6:∀(a b:List En) (p:List Nat),dM p (a++b)=dM p a++dM (kJ p a) b
 | [],b,p=>by simp[dM,CK]
 |e::a,b,p=>by rw[Yd,dM,o6 a b,zQ,dM,Yf]
theorem mR {l:List En}{e:En}(h:l[i]? =some e) (p:List Nat):dM p (l.take (i+1))=dM p (l.take i)++lY (kJ p (l.take i)) e:=by
 rw[cL h,o6];simp[dM]
theorem oN {l:List En}{e:En}(h:l[i]? =some e) (p:List Nat):kJ p (l.take (i+1))=cF e.key:=by
 rw[cL h,zP]
theorem nH (l:List En) (k:Nat):(eY l k).length=min (16*k+16) l.length-16*k:=by simp[eY]
theorem yR (l:List En) (k i:Nat) (h:i<16):(eY l k)[i]? =l[16*k+i]? :=by
 rw[eY,Xh,Q7,if_pos a8]
theorem yQ {l:List En}{k:Nat}{e:En}(h:e∈eY l k):e∈l:=Yq (Yp h)
def jO (l:List En):Prop:=∀e∈l,e.key.size≤1000∧e.docs<1099511627776∧e.tot<1099511627776∧e.at_<1099511627776∧e.size<1099511627776
theorem yu {prev:List Nat}{e:En}(h:e.key.size≤1000∧e.docs<1099511627776∧e.tot<1099511627776∧e.at_<1099511627776∧e.size<1099511627776):(lY prev e).length≤1040:=by
 have h0:=kD prev (cF e.key);have hb:=cI e.key;have h1:=eA (n:=dK prev (cF e.key)) (k:=6) a8 a8;have h2:=eA (n:=(cF e.key).length-dK prev (cF e.key)) (k:=6) a8 a8;have h3:=eA (n:=e.docs) (k:=6) h.2.1 a8;have h4:=eA (n:=e.tot) (k:=6) h.2.2.1 a8;have h5:=eA (n:=e.at_) (k:=6) h.2.2.2.1 a8;have h6:=eA (n:=e.size) (k:=6) h.2.2.2.2 a8;simp only[lY,Ya,Yo];omega
theorem lX:∀{l:List En}{p:List Nat},jO l→(dM p l).length≤1040*l.length
 | [],_,_=>by simp[dM]
 |e::r,p,h=>by
  have h1:=yu (prev:=p) (h e ak);have h2:=lX (p:=cF e.key) (λx hx=>h x (Xa _ hx));simp only[dM,Ya,Yb];omega
theorem nk {l:List En}(h:jO l) (k:Nat):jO (eY l k):=λe he=>h e (yQ he)
theorem vU {l:List En}(h:jO l) (i:Nat):jO (l.take i):=λe he=>h e (Yq he)
theorem mS {l:List En}(h:jO l):∀k,(dx l k).1.length≤6*k∧(dx l k).2.length≤16640*k
 | 0=>by simp[dx]
 |k+1=>by
  obtain⟨h1,h2⟩:=mS h k;have h3:=lX (p:= []) (nk h k);have h4:=nH l k;have h5:=eA (n:=(dM [] (eY l k)).length) (k:=6) a8 a8;simp only[dx,Ya];omega
theorem Da {l:List En}(h:jO l) (a:l.length<1099511627776):(fT l).length≤20000+1100*l.length:=by
 obtain⟨h1,h2⟩:=mS h (fm l);have h3:=eA (n:=l.length) (k:=6) a a8;have h5:16*fm l≤l.length+15:=cq;simp only[fT,Ya];omega
theorem tc {l:List En}(h:ru l):jO l:=λe he=>by
 obtain⟨_,h2,h3,h4,h5,h6⟩:=h.1 e he;exact⟨a8,a8,a8,a8,a8⟩
theorem yr:∀(l:List En) (p:List Nat),∀x∈dM p l,x<256
 | [],_,x,hx=>by simp[dM]at hx
 |e::r,p,x,hx=>by
  simp only[dM,lY,Xl]at hx;rcases hx with((hx|hx|hx)|((hx|hx)|hx)|hx)|hx
  ·exact iP _ x hx
  ·exact iP _ x hx
  ·exact jQ _ x (Yp hx)
  ·exact iP _ x hx
  ·exact iP _ x hx
  ·exact iP _ x hx
  ·exact iP _ x hx
  ·exact yr r _ x hx
theorem vq (l:List En):∀k,(∀x∈(dx l k).1,x<256)∧∀x∈(dx l k).2,x<256
 | 0=>by simp[dx]
 |k+1=>by
  obtain⟨h1,h2⟩:=vq l k
  constructor
  ·intro x hx;rcases Xl.1 hx with hx|hx
   ·exact h1 x hx
   ·exact iP _ x hx
  ·intro x hx;rcases Xl.1 hx with hx|hx
   ·exact h2 x hx
   ·exact yr _ _ x hx
theorem yH (l:List En):∀x∈fT l,x<256:=by
 intro x hx;obtain⟨h1,h2⟩:=vq l (fm l);rcases Xl.1 hx with hx|hx
 ·rcases Xl.1 hx with hx|hx
  ·exact iP _ x hx
  ·exact h1 x hx
 ·exact h2 x hx
end
section
variable {c:List (List Nat×List Po)}{d p:Nat}{k:List Nat}
abbrev Tri:=List Nat×Nat×Nat
def iI (l:List Po) (d p:Nat):List Po:=match l.getLast? with
 |some q=>if q.1=d then l.dropLast++ [(d,q.2++ [p])]else l++ [(d, [p])]
 |none=>[(d, [p])]
def iD (ts:List (Nat×Nat)):List Po:=ts.foldl (λl t=>iI l t.1 t.2) []
def ofK (ts:List Tri) (k:List Nat):List (Nat×Nat):=(ts.filter λt=>decide (t.1=k)).map (·.2)
theorem lS (a:List (Nat×Nat)) (d p:Nat):iD (a++ [(d,p)])=iI (iD a) d p:=by simp[iD]
theorem pH (a:List Tri) (k:List Nat) (d p:Nat):ofK (a++ [(k,d,p)]) k=ofK a k++ [(d,p)]:=by simp[ofK]
theorem rf {a:List Tri}{k':List Nat}(h:k'≠k):ofK (a++ [(k',d,p)]) k=ofK a k:=by simp[ofK,h]
theorem Fa {a:List Tri}(h:k ∉ a.map (·.1)):ofK a k= []:=by
 simp only[ofK,List.map_eq_nil_iff,List.filter_eq_nil_iff,Xs];intro t b he;exact h (he ▸ Ux b)
theorem G4:iD []= []:=rfl
theorem Dm (d p:Nat):iI [] d p= [(d, [p])]:=rfl
structure fV (c:List (List Nat×List Po)) (ts:List Tri):Prop where
 nodup:(c.map (·.1)).Nodup
 keys:∀k,k∈c.map (·.1)↔k∈ts.map (·.1)
 vals:∀e∈c,e.2=iD (ofK ts e.1)
theorem fV.nil:fV [] []:=⟨ak,ak,ak⟩
theorem fV.new {i:List Tri}(h:fV c i) (hk:k ∉ c.map (·.1)):fV (c++ [(k, [(d, [p])])]) (i++ [(k,d,p)]):=by
 refine⟨?_,λl=>?_,λe he=>?_⟩
 ·rw[Va,R5];refine⟨h.nodup,ak,λa ha b j=>?_⟩;simp at j;subst j;rintro rfl;exact hk ha
 ·simp only[Va,Xl,h.keys l,Xn,Ul]
 ·rcases Xl.1 he with he|he
  ·have f:k≠e.1:=λg=>hk (g ▸ Ux he);rw[rf f];exact h.vals e he
  ·simp at he;subst he;rw[pH,lS,Fa (λg=>hk ((h.keys k).2 g)),G4,Dm]
theorem fV.old {n:List Tri}{l:List Po}{i:Nat}(h:fV c n) (hi:c[i]? =some (k,l)):fV (c.set i (k,iI l d p)) (n++ [(k,d,p)]):=by
 have f:=(Yk.1 hi).1;have b:(c.set i (k,iI l d p)).map (·.1)=c.map (·.1):=by
  apply Vu;intro j;rw[Xd,U2,Xd]
  split
  ·rename_i hj;subst hj;first|(rw[if_pos f,hi];all_goals rfl)|(rw[hi];all_goals rfl)
  ·rfl
 have a:(k,l)∈c:=Yj hi;refine⟨by rw[b];exact h.nodup,λq=>?_,λe he=>?_⟩
 ·rw[b,h.keys q,Va,Xl]
  constructor
  ·exact .inl
  ·rintro(hh|hh)
   ·exact hh
   ·simp at hh;subst hh;exact(h.keys q).1 (Ux a)
 ·obtain⟨j,hj⟩:=Uf he;rw[U2]at hj
  split at hj
  ·rename_i g
   try rw[if_pos a8]at hj
   obtain rfl:=Xo hj;show iI l d p=_;rw[pH,lS,←h.vals (k,l) a]
  ·rename_i g;have m:k≠e.1:=by
    intro hh;have h1:(c.map (·.1))[i]? =some k:=by rw[Xd,hi];all_goals rfl
    have h2:(c.map (·.1))[j]? =some k:=by rw[Xd,hj,hh];all_goals rfl
    have hjl:=(Yk.1 hj).1;exact g ((T4 (by rw[Yh];exact f) h.nodup).1 (h1.trans h2.symm))
   rw[rf m];exact h.vals e (Yj hj)
theorem oK (a:List Nat):¬a<a:=List.lt_irrefl a
theorem Fq {a b c:List Nat}(h:a<b) (d:b<c):a<c:=List.lt_trans h d
theorem wa {a b:List Nat}(h:¬a<b) (c:a≠b):b<a:=by
 rw[List.not_lt,List.le_iff_lt_or_eq]at h;exact h.resolve_right (λe=>c e.symm)
def uq (ks:List (List Nat)):Prop:=ks.Pairwise (· < ·)
def wg (k:List Nat):List (List Nat)→List (List Nat)
 | []=>[k]
 |a::r=>if k<a then k::a::r else if k=a then a::r else a::wg k r
def lC (ks:List (List Nat)):List (List Nat):=ks.foldr wg []
theorem tl (k:List Nat):∀(l:List (List Nat)) (x:List Nat),x∈wg k l↔x=k∨x∈l
 | [],x=>by simp[wg]
 |a::r,x=>by
  simp only[wg]
  split
  ·simp
  ·split
   ·rename_i h;subst h;simp
   ·simp only[Xr,tl k r x];constructor
    ·rintro(h|h|h) <;> simp[h]
    ·rintro(h|h|h) <;> simp[h]
theorem uW (k:List Nat):∀{l:List (List Nat)},uq l→uq (wg k l)
 | [],_=>by simp[wg,uq]
 |a::r,h=>by
  obtain⟨h1,h2⟩:=Uk.1 h;simp only[wg]
  split
  ·rename_i hk;refine Uk.2 ⟨λx hx=>?_,h⟩;rcases Xr.1 hx with rfl|hx
   ·exact hk
   ·exact Fq hk (h1 x hx)
  ·split
   ·exact h
   ·rename_i hk b;refine Uk.2 ⟨λx hx=>?_,uW k h2⟩;rcases(tl k r x).1 hx with rfl|hx
    ·exact wa hk b
    ·exact h1 x hx
theorem jy:∀(ks:List (List Nat)) (x:List Nat),x∈lC ks↔x∈ks
 | [],x=>by simp[lC]
 |k::r,x=>by show x∈wg k (lC r)↔_;rw[tl,jy r x,Xr]
theorem iZ:∀(ks:List (List Nat)),uq (lC ks)
 | []=>by simp[lC,uq]
 |k::r=>uW k (iZ r)
theorem sU:∀{a b:List (List Nat)},uq a→uq b→(∀x,x∈a↔x∈b)→a=b
 | [], [],_,_,_=>rfl
 | [],y::b,_,_,h=>by have:=(h y).2 ak;simp at this
 |x::a, [],_,_,h=>by have:=(h x).1 ak;simp at this
 |x::a,y::b,ha,hb,h=>by
  obtain⟨e,i⟩:=Uk.1 ha;obtain⟨d,g⟩:=Uk.1 hb;have f:x=y:=by
   rcases Xr.1 ((h x).1 ak)with h1|h1
   ·exact h1
   ·rcases Xr.1 ((h y).2 ak)with h2|h2
    ·exact h2.symm
    ·exact absurd (Fq (d x h1) (e y h2)) (oK y)
  subst f;congr 1;refine sU i g λz=>⟨λc=>?_,λc=>?_⟩
  ·rcases Xr.1 ((h z).1 (Xa _ c))with rfl|h1
   ·exact absurd (e z c) (oK z)
   ·exact h1
  ·rcases Xr.1 ((h z).2 (Xa _ c))with rfl|h1
   ·exact absurd (d z c) (oK z)
   ·exact h1
def dq (ts:List Tri):List (List Nat×List Po):=(lC (ts.map (·.1))).map λk=>(k,iD (ofK ts k))
structure Au (R:List (List Nat×List Po)) (ts:List Tri):Prop where
 rise:uq (R.map (·.1))
 keys:∀k,k∈R.map (·.1)↔k∈ts.map (·.1)
 vals:∀e∈R,e.2=iD (ofK ts e.1)
theorem sS (a:List Tri):(dq a).map (·.1)=lC (a.map (·.1)):=by simp[dq,Function.comp_def]
theorem Au.eq {R:List (List Nat×List Po)}{a:List Tri}(h:Au R a):R=dq a:=by
 have h1:R.map (·.1)=lC (a.map (·.1)):=sU h.rise (iZ _) λx=>by rw[h.keys,jy]
 have h2:R=(R.map (·.1)).map λk=>(k,iD (ofK a k)):=by
  rw[Ut]
  conv=>lhs;rw[←P5 R]
  exact T8 λe he=>by show e=(e.1,iD (ofK a e.1));rw[←h.vals e he]
 rw[h2,h1,dq]
def ltP (a b:Nat×Nat):Prop:=a.1<b.1∨a.1=b.1∧a.2<b.2
def UpT (ts:List Tri):Prop:=∀k,(ofK ts k).Pairwise ltP
theorem uM:∀{l:List Nat}{nb x:Nat},pG nb l→(∀y∈l,y<x)→nb≤x→pG nb (l++ [x])
 | [],nb,x,_,_,h=>⟨h,trivial⟩
 |y::r,nb,x,hk,hl,_=>⟨hk.1,uM hk.2 (λz a=>hl z (Xa _ a)) (by have:=hl y ak;omega)⟩
theorem tb:∀{l:List Po}{nb:Nat}{p:Po},gJ nb l→dZ nb l≤p.1→p.2≠ []→pG 0 p.2→gJ nb (l++ [p])
 | [],nb,p,_,h1,h2,h3=>⟨h1,h2,h3,trivial⟩
 |q::r,nb,p,hk,h1,h2,h3=>by
  rw[j6]at h1;exact⟨hk.1,hk.2.1,hk.2.2.1,tb hk.2.2.2 h1 h2 h3⟩
theorem uP:∀{l:List Po}{nb:Nat}{p:Po},gJ nb (l++ [p])→gJ nb l∧dZ nb l≤p.1∧p.2≠ []∧pG 0 p.2
 | [],nb,p,h=>⟨trivial,h.1,h.2.1,h.2.2.1⟩
 |q::r,nb,p,h=>by
  obtain⟨h1,h2⟩:=uP (l:=r) h.2.2.2;rw[j6];exact⟨⟨h.1,h.2.1,h.2.2.1,h1⟩,h2⟩
theorem yc:∀r:List (Nat×Nat),r.reverse.Pairwise ltP→gJ 0 (iD r.reverse)∧∀p∈iD r.reverse,∀x∈p.2,(p.1,x)∈r.reverse
 | [],_=>⟨trivial,by simp[iD]⟩
 |(d,p)::r,h=>by
  rw[List.reverse_cons]at h⊢;obtain⟨j,_,i⟩:=T1.1 h;have e:∀u∈r.reverse,ltP u (d,p):=λu m=>i u m (d,p) ak;obtain⟨k,c⟩:=yc r j;rw[lS];generalize r.reverse=ts at*;generalize iD ts=l at*;rcases R0 l with rfl|⟨b,q,hl⟩
  ·refine⟨⟨Yl _,ak,⟨Yl _,trivial⟩,trivial⟩,?_⟩;intro q f x hx;simp[iI]at f;subst f;simp at hx;subst hx;simp
  ·obtain rfl:l=b++ [q]:=by simpa using hl
   obtain⟨t,c2,s,n⟩:=uP k
   by_cases he:q.1=d
   ·have a:iI (b++ [q]) d p=b++ [(d,q.2++ [p])]:=by simp[iI,he]
    rw[a];have f:∀y∈q.2,y<p:=λy hy=>by
     rcases e _ (c q ak y hy)with h1|h1
     ·simp at h1;omega
     ·exact h1.2
    refine⟨tb t (by show dZ 0 b≤d;omega) ak (uM n f (Yl _)),?_⟩;intro r hr x hx;rcases Xl.1 hr with hr|hr
    ·exact Yy _ (c r (Yy _ hr) x hx)
    ·simp at hr;subst hr;rcases Xl.1 hx with hx|hx
     ·exact Yy _ (by have:=c q ak x hx;rwa [he]at this)
     ·simp at hx;subst hx;simp
   ·have a:iI (b++ [q]) d p=b++ [q]++ [(d, [p])]:=by simp[iI,he]
    rw[a];obtain⟨y,hy⟩:=List.exists_mem_of_ne_nil _ s;have g:q.1<d:=by
     rcases e _ (c q ak y hy)with h1|h1
     ·exact h1
     ·exact absurd h1.1 he
    refine⟨tb k (by rw[mF];exact g) ak ⟨Yl _,trivial⟩,?_⟩;intro r hr x hx;rcases Xl.1 hr with hr|hr
    ·exact Yy _ (c r hr x hx)
    ·simp at hr;subst hr;simp at hx;subst hx;simp
theorem IQ {a:List (Nat×Nat)}(h:a.Pairwise ltP):gJ 0 (iD a)∧∀p∈iD a,∀x∈p.2,(p.1,x)∈a:=by
 have:=yc a.reverse (by rwa [List.reverse_reverse])
 rwa [List.reverse_reverse]at this
end
open Tryz
section
variable {G:cJ}{H:cG}
def eEn:Enc En:=⟨λe=>[.string e.key,.int .i64 ((e.docs:Nat):Int),.int .i64 ((e.tot:Nat):Int),.int .i64 ((e.at_:Nat):Int),.int .i64 ((e.size:Nat):Int)],5,true,λ_=>rfl,λp v h=>by simp at h;rcases h with rfl|rfl|rfl|rfl|rfl <;> rfl,ae,λh=>aI,ae⟩
instance {e:En}:kX eEn e (.agg [.string e.key,.int .i64 ((e.docs:Nat):Int),.int .i64 ((e.tot:Nat):Int),.int .i64 ((e.at_:Nat):Int),.int .i64 ((e.size:Nat):Int)].toArray):=⟨rfl⟩
instance {s:ByteArray}{a b c d:Nat}:i6 eEn (.agg [.string s,.int .i64 ((a:Nat):Int),.int .i64 ((b:Nat):Int),.int .i64 ((c:Nat):Int),.int .i64 ((d:Nat):Int)].toArray) ⟨s,a,b,c,d⟩:=⟨rfl⟩
def ij (e:En):List Nat:= [e.docs,e.tot,e.at_,e.size]
def Fi (e:En):List Value:=(ij e).map λn=>Value.int .i64 ((n:Nat):Int)
theorem uQ {e:En}{i x:Nat}(h:(ij e)[i]? =some x):(Fi e)[i]? =some (iN x):=by rw[Fi,Xd,h];all_goals rfl
theorem JK {s:ByteArray}{a b c d:Nat}:SC G prog 298 [.agg #[.string s,iN a,iN b,iN c,iN d]] H (λv e=>v=.agg (Fi ⟨s,a,b,c,d⟩).toArray∧e=H):=by
 refine sWk func298 ?_;refine gk (k:=bxx (k:=λb1=>?_));refine alc (k:=λb2=>?_);refine on_ (qn_ (ws_ (wr_ (e_ fla (e_ ldv (e_ fla (e_ ldv (e_ fla (e_ ldv (e_ fla (e_ ldv ?_)))))))))));refine e_ (D5 [iN a,iN b,iN c,iN d] rfl rfl) ?_;exact gZ
theorem AJ {a b:ByteArray}(ha:a.size≤1000000000000) (hb:b.size≤1000000000000):SC G prog 301 [.string a,.string b] H (λv d=>v=iN (dK (cF a) (cF b))∧d=H):=by
 have hal:=cI a;have hbl:=cI b;refine sWk func301 ?_;refine gk (k:=wl2_ Nat (λy=>y≤a.size∧y≤b.size∧∀j,j<y→at0 (cF a) j=at0 (cF b) j) (λy=>[(5,iN y)]) [(0,_),(1,_)] (λy=>[]) _ (λy=>a.size-y) (0) (h0:=?_) (k:=?_))
 ·exact⟨Yl _,Yl _,λj h=>a8⟩
 rintro k ⟨hk1,hk2,hkj⟩
 try dsimp only[Yd,Ye]at*
 refine go ?_;refine cZ cN (as_ 0 (q:=mv) (k:=as_ 1 (q:=mv) (k:=as_ 2 (q:=oe) (k:=as_ 3 (q:=ilt) (k:=?_)))));refine fU 4 rfl rfl aa rfl (df mv) (λh1=>?_) (λh1=>?_)
 ·replace h1:=nrm h1;refine at2 5 (q:=mv) (k:=at2 6 (q:=mv) (k:=at2 7 (q:=oe) (k:=at2 8 (q:=ilt) (k:=as_ 9 (q:=pkt) (k:=?_)))));refine fU 10 rfl rfl aa rfl (df mv) (λh2=>?_) (λh2=>?_)
  ·replace h2:=nrm h2;refine gW (λh3=>?_) λh3=>?_
   ·have c:∀j,j<k+1→at0 (cF a) j=at0 (cF b) j:=λj hj=>by
     by_cases h9:j<k
     ·exact hkj j h9
     ·obtain rfl:j=k:=by omega
      omega
    refine go ?_;refine lN (k+1) ?_
    exact⟨a8,a8,c⟩
   have hend:k=(cF a).length∨k=(cF b).length∨at0 (cF a) k≠at0 (cF b) k:=.inr (.inr a8);refine gR ?_;exact⟨_,hsb,bY,rfl⟩
  replace h2:=nrm h2;have hend:k=(cF a).length∨k=(cF b).length∨at0 (cF a) k≠at0 (cF b) k:=.inr (.inl a8);refine gk (k:=iff_ (k:=go ?_));refine gR ?_;exact⟨_,hsb,bY,rfl⟩
 replace h1:=nrm h1;have hend:k=(cF a).length∨k=(cF b).length∨at0 (cF a) k≠at0 (cF b) k:=.inl a8;refine go ?_;refine gk (k:=iff_ (k:=go ?_));refine gR ?_;exact⟨_,hsb,bY,rfl⟩
theorem I3 {s:SV}{l:List En} [hs:Sl H s eEn l] (hl:l.length≤16) (hsm:jO l):SC G prog 299 [s.val] H (λv K=>∃B:SV,v=B.val∧K=Row B eB (dM [] l)::H):=by
 refine sWk func299 ?_;refine go ?_;refine c0_ rfl ga ?_;rintro _ _ ⟨f,rfl,rfl⟩;refine e_ asn (on_ (qn_ (ws_ (wr_ (e_ asn (on_ (qn_ (ws_ (ws_ (wr_ ?_))))))))));rw[show Wr f []=Wr f (dM [] (l.take 0))from rfl];refine gk (k:=wl2_ (Nat×ByteArray) (λy=>y.1≤l.length∧cF y.2=kJ [] (l.take y.1)∧y.2.size≤1000) (λy=>[(4,.string y.2),(13,iN y.1)]) [(3,_),(11,_),(12,_)] (λy=>[Wr f (dM [] (l.take y.1))]) _ (λy=>l.length-y.1) ((0,⟨#[]⟩)) (h0:=?_) (k:=?_))
 ·exact⟨Yl _,rfl,Yl _⟩
 rintro⟨i,q⟩ ⟨hi,F,hqs⟩
 try dsimp only[Yd,Ye]at*
 refine gW (λh1=>?_) λh1=>?_
 ·obtain⟨e,he⟩:=gE l i;have u:=hsm e (Yj he);have hsh:=kD (cF q) (cF e.key);have A:=cI e.key;have c:=lX (p:= []) (vU hsm i);rw[Yg]at c;have hen:=yu (prev:=cF q) u;obtain⟨g,b⟩:=ex (dM [] (l.take i));rw[←b];rw[←b]at c;have hu1:=eA (n:=dK (cF q) (cF e.key)) (k:=6) a8 a8;have hu2:=eA (n:=(cF e.key).length-dK (cF q) (cF e.key)) (k:=6) a8 a8;refine gk (k:=alc (k:=λb6=>?_));refine go ?_;refine d2_ rfl (AJ a8 a8) (e_ asn (on_ (qn_ (ws_ (wr_ (e_ mv (e_ mv ?_)))))));refine e_ ((ab)) ?_;refine d2_ rfl (eH _ a8 a8) (on_ (qn_ (ws_ (wr_ (e_ mv (e_ fla (e_ ldv (e_ mv (e_ (zw (a:=dK (cF q) (cF e.key))) ?_)))))))));refine d2_ rfl (DC _ ai (by rw[ByteArray.size_extract];omega)) ?_;rw[show uv (e.key.extract (dK (cF q) (cF e.key)) e.key.size).size++cF (e.key.extract (dK (cF q) (cF e.key)) e.key.size)=uv ((cF e.key).length-dK (cF q) (cF e.key))++(cF e.key).drop (dK (cF q) (cF e.key))from by rw[qQ,ByteArray.size_extract,A,Nat.min_self]];obtain⟨h,d⟩:=ex (g++uv (dK (cF q) (cF e.key))++(uv ((cF e.key).length-dK (cF q) (cF e.key))++(cF e.key).drop (dK (cF q) (cF e.key))));have hp2l:h.length≤g.length+1100:=by rw[d];simp only[Ya,Yo];omega
  rw[←d];refine go ?_;refine d1_ rfl JK ?_;rw[show Wr f h=Wr f (h++((ij e).take 0).flatMap uv)from ak];refine gk (k:=wl2_ Nat (λy=>y≤4) (λy=>[(33,iN y)]) [(3,_),(6,_),(11,_),(12,_),(13,_),(32,_)] (λy=>[Wr f (h++((ij e).take y).flatMap uv)]) _ (λy=>4-y) (0) (h0:=?_) (k:=?_))
  ·exact Yl _
  rintro m hm
  try dsimp only[Yd,Ye]at*
  refine gW (λh2=>?_) λh2=>?_
  ·obtain⟨x,hx⟩:∃x,(ij e)[m]? =some x:=⟨_,Yi (by show _<4;omega)⟩;have t:=uQ hx;have hxl:x<1099511627776:=by
    have:=Yj hx;simp only[ij,Xr,S4,or_false]at this;rcases this with rfl|rfl|rfl|rfl <;> omega
   have j:((ij e).take (m+1)).flatMap uv=((ij e).take m).flatMap uv++uv x:=by rw[cL hx];simp
   have hfl:(((ij e).take m).flatMap uv).length≤24:=by
    have h4:∀y∈ij e,(uv y).length≤6:=λy hy=>by
     simp only[ij,Xr,S4,or_false]at hy;rcases hy with rfl|rfl|rfl|rfl <;> exact eA a8 a8
    have J:∀z:List Nat,(∀y∈z,(uv y).length≤6)→(z.flatMap uv).length≤6*z.length:=by
     intro z
     induction z with
     |nil=>intro _;simp
     |cons y z ih=>intro C;have:=ih (λw E=>C w (Xa _ E));have:=C y ak;simp only[Vp,Ya,Yb];omega
    have:=J ((ij e).take m) (λy hy=>h4 y (Yq hy));rw[Yg]at this;omega
   refine wk_ (qn_ (ws_ (wb_ (ws_ (wr_ ?_)))));refine e_ (vi m rfl rfl rfl a8 t) ?_;refine e_ asn (on_ (qn_ (wr_ (e_ mv (e_ mv ?_)))));refine e_ ((ab)) ?_;refine d2_ rfl (eH x a8 ai) ?_;rw[Yf,←j];refine go ?_;refine lN (m+1) ?_
   try dsimp only
   omega
  obtain rfl:m=4:=a8;rw[show h++((ij e).take 4).flatMap uv=dM [] (l.take (i+1))from by rw[mR he,←F,lY,d,b];simp[ij]];refine go ?_;refine lN ((i+1,e.key)) ?_
  exact⟨a8,(oN he _).symm,a8⟩
 obtain rfl:i=l.length:=a8;rw[Xk];have c:=lX (p:= []) hsm;refine go ?_;refine c1_ rfl (iW a8) ?_;rintro _ _ ⟨r,rfl,rfl⟩;refine gR ?_;exact⟨_,hsb,r,rfl,rfl⟩
end
section
variable {j:Nat}{l:List En}
theorem jn (l:List En) (k:Nat):∀n,k≤n→∃r r',(dx l n).1=(dx l k).1++r∧(dx l n).2=(dx l k).2++r'
 | 0,h=> by obtain rfl:k=0:=by omega
            exact⟨[], [],ak,ak⟩
 |n+1,h=> by
  by_cases he:k=n+1
  ·subst he;exact⟨[], [],ak,ak⟩
  ·obtain⟨r,r',h1,h2⟩:=jn l k n a8
   exact⟨r++uv (dM [] (eY l n)).length,r'++dM [] (eY l n),by rw[dx];simp only[h1,Yf],by rw[dx];simp only[h2,Yf]⟩
theorem D9 (h:j<fm l):∃r,(fT l).drop ((uv l.length).length+(dx l j).1.length)=uv (dM [] (eY l j)).length++r∧(dM [] (eY l j)).length≤r.length:=by
 obtain⟨r,a,h1,h2⟩:=jn l (j+1) (fm l) a8;rw[dx]at h1 h2;simp only at h1 h2;refine⟨r++((dx l j).2++dM [] (eY l j)++a),?_,ai⟩;rw[fT,h1,h2,←Ya];simp only[Yf];rw[←Yf,Xy]
theorem GB (h:j<fm l):∃r,(fT l).drop ((uv l.length).length+(dx l (fm l)).1.length+(dx l j).2.length)=dM [] (eY l j)++r:=by
 obtain⟨r,a,h1,h2⟩:=jn l (j+1) (fm l) a8;rw[dx]at h2;simp only at h2;refine⟨a,?_⟩;have e:fT l=(uv l.length++(dx l (fm l)).1++(dx l j).2)++(dM [] (eY l j)++a):=by rw[fT,h2];simp only[Yf]
 rw[e,←Ya,←Ya,Xy]
theorem Gt (p:List Nat) (e:En):1≤(lY p e).length:=by
 have:=oC (dK p (cF e.key));simp only[lY,Ya];omega
theorem yt:∀(l:List En) (p:List Nat),l.length≤(dM p l).length
 | [],_=>ak
 |e::r,p=>by
  have h1:=Gt p e;have h2:=yt r (cF e.key);simp only[dM,Ya,Yb];omega
theorem vt (l:List En):∀k,min (16*k) l.length≤(dx l k).2.length
 | 0=>ak
 |k+1=>by
  have h1:=vt l k;have h2:=yt (eY l k) [];rw[nH]at h2;simp only[dx,Ya];omega
theorem GC (l:List En):l.length≤(fT l).length:=by
 have h1:=vt l (fm l);have h2:l.length≤16*fm l:=cq;simp only[fT,Ya];omega
theorem Db (l:List En):(fT l).length=(uv l.length).length+(dx l (fm l)).1.length+(dx l (fm l)).2.length:=by simp only[fT,Ya]
theorem Jq {k:Nat}{e:En}{xs r:List Nat}{P:Nat}(hx:xs.drop P=dM [] (eY l j)++r) (hk:k<16) (he:l[16*j+k]? =some e):∃b,xs.drop (P+(dM [] ((eY l j).take k)).length)=lY (kJ [] ((eY l j).take k)) e++b:=by
 have a:=yR l j k hk;rw[he]at a;have h1:eY l j=(eY l j).take (k+1)++(eY l j).drop (k+1):=(Xv ..).symm;have h2:dM [] (eY l j)=dM [] ((eY l j).take (k+1))++dM (kJ [] ((eY l j).take (k+1))) ((eY l j).drop (k+1)):=by
  conv=>lhs;rw[h1]
  exact o6 _ _ _
 rw[mR a]at h2;refine⟨dM (kJ [] ((eY l j).take (k+1))) ((eY l j).drop (k+1))++r,?_⟩;rw[←Vm,hx,h2];simp only[Yf];rw[Xy]
def kC (l:List En) (j:Nat):List Int:=(List.range j).map λk=>(((dM [] (eY l k)).length:Nat):Int)
theorem xu (l:List En) (j:Nat):kC l (j+1)=kC l j++ [(((dM [] (eY l j)).length:Nat):Int)]:=by simp[kC,U6]
theorem sP (l:List En) (j:Nat):(kC l j).length=j:=by simp[kC]
theorem zx {n:Nat}(h:j<n):(kC l n)[j]? =some (((dM [] (eY l j)).length:Nat):Int):=by
 rw[kC,Xd,X3 h];all_goals rfl
end
section
variable {G:cJ}{H R:cG}{b k most:Nat}{xs:List Nat}
theorem qX:SC G prog 250 [.bool true] H (λv a=>v=.tuple #[]∧a=H):=by
 refine sWk func250 ?_;refine gW (λh1=>?_) λh1=>?_
 ·exact absurd h1 ae
 exact gZ
theorem HA {m:Nat}{q:List Nat} [hg:Glb G R] [hr:Rem H Rd b (xs,k) R] (hk:k≤xs.length) (c:xs.length≤1000000000000) (d:∀x∈xs,x<256) (hm:most≤4611686018427387904) (h:k8 most (xs.drop k)=.ok (q,m)):SC G prog 171 [pA b,iN most] H (λv a=>v=.tuple #[.string (dQ q),.nilIface]∧a=Rd b (xs,k+m)::R):=
 SC.mono (JU hk c d hm) λv a h2=>by
  rcases h2 with⟨e,h3,_⟩|⟨n',m',h3,h4,f⟩
  ·rw[h]at h3;cases h3
  ·rw[h]at h3;cases h3;exact⟨h4,f⟩
theorem rD {n m:Nat} [hg:Glb G R] [hr:Rem H Rd b (xs,k) R] (hk:k≤xs.length) (c:xs.length≤1000000000000) (d:∀x∈xs,x<256) (hm:most≤4611686018427387904) (h:fZ most (xs.drop k)=.ok (n,m)):SC G prog 170 [pA b,iN most] H (λv a=>v=.tuple #[iN n,.nilIface]∧a=Rd b (xs,k+m)::R):=
 SC.mono (xH hk c d hm) λv a h2=>by
  rcases h2 with⟨e,h3,_⟩|⟨n',m',h3,h4,f⟩
  ·rw[h]at h3;cases h3
  ·rw[h]at h3;cases h3;exact⟨h4,f⟩
theorem rE {n m:Nat} [hg:Glb G R] [hr:Rem H Rd b (xs,k) R] (hk:k≤xs.length) (a:xs.length≤1000000000000) (c:∀x∈xs,x<256) (hm:most≤4611686018427387904) (h:fZ most (xs.drop k)=.ok (n,m)):SC G prog 249 [pA b,iN most] H (λv d=>v=iN n∧d=Rd b (xs,k+m)::R):=by
 refine sWk func249 ?_;refine go ?_;refine d2_ rfl (rD hk a c hm h) (e_ mv (e_ exr (e_ exr (e_ asn (e_ asn (on_ (qn_ (ws_ (wr_ (e_ mv ?_))))))))));refine e_ (iu rfl) ?_;refine d1_ rfl qX (gR ?_);exact⟨_,hsb,rfl,rfl⟩
def ePt:Enc (Nat×Nat):=⟨λp=>[.pointer (some ⟨p.1,p.2,none⟩)],1,false,λ_=>rfl,λ_ v h=>aT,ae,λ_=>rfl,ae⟩
instance {b o:Nat}:i6 ePt (.pointer (some ⟨b,o,none⟩)) (b,o):=⟨rfl⟩
instance {p:Nat×Nat}:kX ePt p (.pointer (some ⟨p.1,p.2,none⟩)):=⟨rfl⟩
theorem FI (a b:List Nat):a.take (dK a b)++b.drop (dK a b)=b:=by rw[pr,Xv]
theorem Ea {f:List Nat}{a:ByteArray}{first:Bool}{e:En} [hg:Glb G R] [hr:Rem H Rd b (xs,k) R] (hk:k≤xs.length) (hn:xs.length≤1000000000) (T:∀x∈xs,x<256) (h:xs.drop k=lY (cF a) e++f) (hks:1≤e.key.size∧e.key.size≤65) (hls:a.size≤65) (i:∀x∈ij e,x≤2147483647):
 SC G prog 251 [pA b,.string a,.bool first] H (λv V=>v=.agg #[.string e.key,iN e.docs,iN e.tot,iN e.at_,iN e.size]∧V=Rd b (xs,k+(lY (cF a) e).length)::R):=by
 obtain⟨J,F⟩:=kD (cF a) (cF e.key);have hbl:=cI a;have hbk:=cI e.key;have s:k+(lY (cF a) e).length+f.length=xs.length:=by
  have:=congrArg List.length h;rw[Yo,Ya]at this;omega
 obtain⟨c,m⟩:=ex (dK (cF a) (cF e.key));rw[←m]at J F;have he:lY (cF a) e=uv c++(uv ((cF e.key).length-c)++(cF e.key).drop c)++(uv e.docs++uv e.tot++uv e.at_++uv e.size):=by rw[lY,m]
 have l:((cF e.key).drop c).length=(cF e.key).length-c:=Yo ..;have h0:fZ a.size (xs.drop k)=.ok (c,(uv c).length):=by
  rw[h,he];simp only[Yf];exact eO _ a8 a8
 have A:xs.drop (k+(uv c).length)=uv ((cF e.key).drop c).length++(cF e.key).drop c++(uv e.docs++(uv e.tot++(uv e.at_++(uv e.size++f)))):=by
  rw[←Vm,h,he,l];simp only[Yf];rw[Xy]
 have h1:k8 (65-c) (xs.drop (k+(uv c).length))=.ok ((cF e.key).drop c,(uv ((cF e.key).drop c).length).length+((cF e.key).drop c).length):=by
  rw[A];exact uG _ a8 a8
 obtain⟨g,n⟩:=ex (k+(uv c).length+((uv ((cF e.key).drop c).length).length+((cF e.key).drop c).length));have z:xs.drop g=uv e.docs++(uv e.tot++(uv e.at_++(uv e.size++f))):=by
  rw[n,←Vm,A,←Ya,Xy]
 have hlen:(lY (cF a) e).length=g-k+((uv e.docs).length+(uv e.tot).length+(uv e.at_).length+(uv e.size).length):=by
  rw[he,n,l];simp only[Ya,l];omega
 have hk1x:g+((uv e.docs).length+(uv e.tot).length+(uv e.at_).length+(uv e.size).length)≤xs.length:=a8;have t:a.extract 0 c++dQ ((cF e.key).drop c)=e.key:=by
  apply iw.1;rw[dR,ec (λx hx=>jQ _ x (Yp hx)),gr,Vi,m];exact FI _ _
 have N:=i e.docs (by simp[ij]);have hn2:=i e.tot (by simp[ij]);have M:=i e.at_ (by simp[ij]);have L:=i e.size (by simp[ij]);have hss:(dQ ((cF e.key).drop c)).size=(cF e.key).length-c:=by rw[gG,l]
 have hse:(a.extract 0 c).size=c:=by rw[ByteArray.size_extract];omega
 refine sWk func251 ?_;refine gk (k:=alc (k:=λb6=>?_));refine go ?_;refine d2_ rfl (rE hk a8 T a8 h0) (e_ asn (on_ (qn_ (ws_ (wr_ (e_ mv (e_ mv ?_)))))));refine e_ (evq isb (congrArg (Value.int .i64) (by omega:(65:Int)-(c:Int)=((65-c:Nat):Int)))) ?_;refine d2_ rfl (HA (most:=65-c) a8 a8 T a8 h1) ?_;rw[←n];refine e_ mv (e_ exr (e_ exr (e_ asn (e_ asn (on_ (qn_ (ws_ (wr_ (e_ mv ?_)))))))));refine e_ (iu rfl) ?_;refine d1_ rfl qX (on_ (qn_ (ws_ (wr_ (e_ mv (e_ mv (e_ (oF (b:=c)) (gk (k:=e_ xC ?_)))))))));rw[t];refine e_ (bld [(0,_)]) (alc (k:=λd=>?_));refine gk (k:=cQ 10 47 (k:=λh1=>gk (k:=dz 7 46 (k:=λh2=>gk (k:=gA (vs:=[_,_]) (hc:=(AJ a8 a8)) (k:=eg_ mv (eg_ (evq ieq (congrArg Value.bool (Ys a8))) (gk (k:=edq)))))) (q:=gk (k:=edq)))) (q:=?_));rw[show(decide ((0:Int)<(e.key.size:Int))&&(first ||true))=true from by rw[Ys a8];simp];refine d1_ rfl qX (go ?_);refine s_ (dt ePt [(d,1),(d,2),(d,3),(d,4)] bA rfl ao) ?_;rintro _ _ ⟨s53,rfl,rfl⟩;refine gk (k:=wl2_ (Nat×Nat×Nat×Nat×Nat×Nat) (λy=>(y.1=0∧y.2.1=g∨y.1=1∧y.2.1=g+(uv e.docs).length∧y.2.2.1=e.docs∨y.1=2∧y.2.1=g+(uv e.docs).length+(uv e.tot).length∧y.2.2.1=e.docs∧y.2.2.2.1=e.tot∨y.1=3∧y.2.1=g+(uv e.docs).length+(uv e.tot).length+(uv e.at_).length∧y.2.2.1=e.docs∧y.2.2.2.1=e.tot∧y.2.2.2.2.1=e.at_∨y.1=4∧y.2.1=g+(uv e.docs).length+(uv e.tot).length+(uv e.at_).length+(uv e.size).length∧y.2.2.1=e.docs∧y.2.2.2.1=e.tot∧y.2.2.2.2.1=e.at_∧y.2.2.2.2.2=e.size)) (λy=>[(55,iN y.1)]) [(0,_),(6,_),(10,_),(53,_),(54,_)] (λy=>[Rd b (xs,y.2.1),Vr d [.string e.key,iN y.2.2.1,iN y.2.2.2.1,iN y.2.2.2.2.1,iN y.2.2.2.2.2]]) _ (λy=>4-y.1) ((0,g,0,0,0,0)) (h0:=?_) (k:=?_))
 ·exact .inl ⟨rfl,rfl⟩
 rintro⟨j,E,va,vb,vc,C⟩ hj
 try dsimp only[Yd,Ye]at*
 have hpl:([(d,1),(d,2),(d,3),(d,4)]:List (Nat×Nat)).length=4:=rfl;refine gW (λh3=>?_) λh3=>?_
 ·obtain⟨U,p⟩:∃U,([(d,1),(d,2),(d,3),(d,4)]:List (Nat×Nat))[j]? =some U:=⟨_,Yi a8⟩;have w:xs.drop (g+(uv e.docs).length)=uv e.tot++(uv e.at_++(uv e.size++f)):=by rw[←Vm,z,Xy]
  have u:xs.drop (g+(uv e.docs).length+(uv e.tot).length)=uv e.at_++(uv e.size++f):=by rw[←Vm,w,Xy]
  have S:xs.drop (g+(uv e.docs).length+(uv e.tot).length+(uv e.at_).length)=uv e.size++f:=by rw[←Vm,u,Xy]
  obtain⟨B,r,K,s⟩:∃B,(ij e)[j]? =some B∧fZ 2147483647 (xs.drop E)=.ok (B,(uv B).length)∧E≤xs.length:=by
   rcases hj with⟨rfl,rfl⟩|⟨rfl,rfl,_⟩|⟨rfl,rfl,_⟩|⟨rfl,rfl,_⟩|⟨rfl,_⟩
   ·exact⟨e.docs,rfl,by rw[z];exact eO _ a8 N,a8⟩
   ·exact⟨e.tot,rfl,by rw[w];exact eO _ a8 hn2,a8⟩
   ·exact⟨e.at_,rfl,by rw[u];exact eO _ a8 M,a8⟩
   ·exact⟨e.size,rfl,by rw[S];exact eO _ a8 L,a8⟩
   ·omega
  refine go ?_;refine d2_ rfl (rE (most:=2147483647) s a8 T a8 K) ?_;rcases hj with⟨rfl,rfl⟩|⟨rfl,rfl,rfl⟩|⟨rfl,rfl,rfl,rfl⟩|⟨rfl,rfl,rfl,rfl,rfl⟩|⟨rfl,_⟩
  all_goals (first|(simp only[Xb,Xc,ij,Option.some.injEq]at p r;subst p;subst r)|(exfalso;omega))
  ·refine go ?_;refine lN ((1,E+(uv e.docs).length,e.docs,vb,vc,C)) ?_
   exact .inr (.inl ⟨rfl,rfl,rfl⟩)
  ·refine go ?_;refine lN ((2,g+(uv e.docs).length+(uv e.tot).length,e.docs,e.tot,vc,C)) ?_
   exact .inr (.inr (.inl ⟨rfl,rfl,rfl,rfl⟩))
  ·refine go ?_;refine lN ((3,g+(uv e.docs).length+(uv e.tot).length+(uv e.at_).length,e.docs,e.tot,e.at_,C)) ?_
   exact .inr (.inr (.inr (.inl ⟨rfl,rfl,rfl,rfl,rfl⟩)))
  refine go ?_;refine lN ((4,g+(uv e.docs).length+(uv e.tot).length+(uv e.at_).length+(uv e.size).length,e.docs,e.tot,e.at_,e.size)) ?_
  exact .inr (.inr (.inr (.inr ⟨rfl,rfl,rfl,rfl,rfl,rfl⟩)))
 rcases hj with⟨rfl,rfl⟩|⟨rfl,rfl,rfl⟩|⟨rfl,rfl,rfl,rfl⟩|⟨rfl,rfl,rfl,rfl,rfl⟩|⟨rfl,rfl,rfl,rfl,rfl,rfl⟩
 ·exfalso;omega
 ·exfalso;omega
 ·exfalso;omega
 ·exfalso;omega
 rw[show g+(uv e.docs).length+(uv e.tot).length+(uv e.at_).length+(uv e.size).length=k+(lY (cF a) e).length from a8];exact gZ
end
section
variable {G:cJ}{H R:cG}{P:Program}{after:Array Edge}{dst:Option Tmp}{g:Option (Nat×Bool)}{pos:String}{t:Tm}{ty:TypeId}{xs:List Nat}
theorem Gr {T U:TypeId}{x y:Operand}{i j:Int}(hx:evo t x=some (.int .i64 i)) (hy:evo t y=some (.int .i64 j)) (a b:Nat) (ha:i=a) (c:j=b) (hla:a<9223372036854775808) (hlb:b<9223372036854775808):
 Ev G P ⟨dst,.binOp .and T x y U,ty,pos,after,g⟩ t H (iN (a &&& b)):=
 fun ρ hρ w _=>by
  have h2:a &&& b≤a:=Nat.and_le_left;have e:(BitVec.ofInt 64 (a:Int) &&& BitVec.ofInt 64 (b:Int)).toNat=a &&& b:=by
   rw[g9,g9,BitVec.toNat_and,BitVec.toNat_ofNat,BitVec.toNat_ofNat,Xt a8,Xt a8]
  have f:IntKind.wrap .i64 ((a &&& b:Nat):Int)=((a &&& b:Nat):Int):=ie a8;have d:IntKind.wrap .i64 (((BitVec.ofInt (IntKind.bits .i64) (a:Int) &&& BitVec.ofInt (IntKind.bits .i64) (b:Int)).toNat:Nat):Int)=((a &&& b:Nat):Int):=by rw[←f];exact congrArg (λn:Nat=>IntKind.wrap .i64 (n:Int)) e
  simp only[execOp,hρ _ _ hx,hρ _ _ hy,eqGuard,binOp,Op.intBits,ha,c];simp only[Sem.run_bind,Sem.run_pure,ne_eq,not_true_eq_false,↓reduceIte];rw[d];all_goals rfl
theorem Bx {T U:TypeId}{x y:Operand}{a b:Int}(hx:evo t x=some (.int .i64 a)) (hy:evo t y=some (.int .i64 b)):
 Ev G P ⟨dst,.binOp .sub T x y U,ty,pos,after,g⟩ t H (.int .i64 (IntKind.i64.wrap (a-b))):=
 fun ρ hρ w _=>by simp[execOp,hρ _ _ hx,hρ _ _ hy,eqGuard,binOp,Op.intArith]
theorem BH {s:SV}{m N a w:Nat} [hs:Sl H s eB (leB m N)] (hm:a+w≤8*m) (hw:w≤40) (hm9:m≤10000000000):SC G prog 350 [s.val,iN a,iN w] H (λv i=>v=iN (N/2^a%2^w)∧i=H):=by
 have hlen:=fj m N;refine sWk func350 ?_;refine go ?_;refine gk (k:=wl2_ (Nat×Nat) (λy=>y.1≤w∧y.2=N/2^a%2^y.1) (λy=>[(7,iN y.2),(8,iN y.1)]) [(0,_),(1,_),(2,_)] (λy=>[]) _ (λy=>w-y.1) ((0,0)) (h0:=?_) (k:=?_))
 ·try dsimp only
  exact⟨Yl _,by simp[Nat.mod_one]⟩
 rintro⟨d,v⟩ ⟨hd,hv⟩
 try dsimp only[Yd,Ye]at*
 refine gW (λh1=>?_) λh1=>?_
 ·obtain⟨b,htk⟩:=ex (min (8-(a+d)%8) (w-d));obtain⟨x,hx,hx8,g⟩:=Dk (m:=m) (N:=N) (T:=a+d) (t:=b) a8 a8;have hlt:(a+d)/8<(leB m N).length:=a8;have hp8:2^b≤2^8:=Vx ae a8;have h:0<2^b:=U5 b;have hv40:v<2^40:=by rw[hv];exact S5 (Um _ (U5 d)) (Vx ae a8)
  have hxs:x/2^((a+d)%8)≤x:=Vs _ _;have f:x/2^((a+d)%8) &&& (2^b-1)=N/2^(a+d)%2^b:=by rw[V6,g]
  have hy256:N/2^(a+d)%2^b<256:=by have:=Um (N/2^(a+d)) h;omega
  have e:2^d≤2^40:=Vx ae a8;have hsh:N/2^(a+d)%2^b*2^d≤255*2^40:=Nat.mul_le_mul a8 e;have c:=Dj (N:=N) (at_:=a) (got:=d) (t:=b);rw[←hv]at c;refine wk_ (qn_ (wb_ (ws_ (wr_ (e_ mv (e_ mv (e_ mv (e_ iad ?_))))))));refine e_ (fH rfl rfl (a+d) 8 a8 rfl ae an) ?_;refine e_ ixa (e_ (lel (hy:=hx)) ?_);refine e_ (dL rfl a8) ?_;refine e_ mv (e_ mv (e_ iad ?_));refine e_ (kO rfl rfl (a+d) 8 a8 rfl ae) ?_;refine e_ (du rfl rfl x ((a+d)%8) rfl rfl (by show _≤64;omega)) ?_;refine e_ asn (on_ (qn_ (ws_ (wr_ (e_ mv (e_ mv (e_ iad ?_)))))));refine e_ (kO rfl rfl (a+d) 8 a8 rfl ae) ?_;refine e_ isb (e_ mv (e_ mv (e_ isb ?_)));refine e_ (lr rfl rfl) ?_;refine e_ (asv (v:=iN b) rfl (congrArg (Value.int .i64) a8)) ?_;refine on_ (qn_ (ws_ (wr_ (e_ mv (e_ mv (e_ mv ?_))))));refine e_ (tF rfl rfl 1 b rfl rfl a8 a8) ?_;refine e_ (evq isb (congrArg (Value.int .i64) (show _=((2^b-1:Nat):Int)from a8))) ?_;refine e_ (evq (Gr rfl rfl (x/2^((a+d)%8)) (2^b-1) rfl rfl a8 a8) (congrArg (λn:Nat=>iN n) f)) ?_;refine e_ mv ?_;refine e_ (tF rfl rfl (N/2^(a+d)%2^b) d rfl rfl a8 a8) ?_;refine e_ (evq (wA rfl rfl v (N/2^(a+d)%2^b*2^d) rfl rfl a8 a8) (congrArg (λn:Nat=>iN n) c)) (go ?_);refine lN ((d+b,N/2^a%2^(d+b))) ?_
  exact⟨a8,rfl⟩
 obtain rfl:d=w:=a8;refine gR ?_;exact⟨_,hsb,by rw[←hv];all_goals rfl,rfl⟩
theorem I1 {b k x:Nat} [hg:Glb G R] [hr:Rem H Rd b (xs,k) R] (hx:xs[k]? =some x) (c:xs.length≤1000000000000):SC G prog 349 [pA b] H (λv a=>v=.tuple #[.int .u8 (x:Int),.nilIface]∧a=Rd b (xs,k+1)::R):=
 SC.mono (O0 (Nat.le_of_lt (Yk.1 hx).1) c) λv a h2=>by
  have hlt:=(Yk.1 hx).1;rcases h2 with⟨h3,_⟩|⟨y,h3,h4,d⟩
  ·omega
  ·rw[hx]at h3;cases h3;exact⟨h4,d⟩
theorem Gh {α:Type}{full:List α}{z:α}{i:Nat}{x:α}(h:full[i]? =some x):(eV full z (i+1))[i]? =some x:=by
 have hi:=(Yk.1 h).1;rw[eV,Yv ar,Xz a8,h]
theorem Ly {b k most:Nat}{ns d:List Nat} [hg:Glb G R] [hr:Rem H Rd b (xs,k) R] (hn:xs.length≤10000000000) (hb:∀x∈xs,x<256) (h:xs.drop k=dN ns++d) (hm:ns.length≤most) (hmo:most≤65536) (hl:∀x∈ns,x<1099511627776):
 SC G prog 308 [pA b,iN most] H (λv H'=>∃s:SV,v=.tuple #[s.val,.nilIface]∧H'=Row s eI (cP ns)::Rd b (xs,k+(dN ns).length)::R):=by
 have p:=dJ ns;have hpl:(dN ns).length+d.length=xs.length-k:=by rw[←Ya,←h,Yo]
 have hpos:1≤(dN ns).length:=by have:=oC ns.length;rw[dN,Ya];omega
 obtain⟨A,hA⟩:=ex ((uv ns.length).length);have h0:fZ most (xs.drop k)=.ok (ns.length,A):=by rw[h,dN,Yf,hA];exact eO _ a8 hm
 refine SC.rem (h:=hr) ?_;refine sWk func308 ?_;refine ws_ (wr_ (e_ asn (e_ asn (on_ (qn_ (ws_ (wr_ (e_ mv (e_ mv ?_)))))))));refine d2_ rfl (rD a8 a8 hb a8 h0) (e_ mv (e_ exr (e_ exr (e_ asn (e_ asn (on_ (qn_ (ws_ (ws_ (wr_ (e_ mv ?_)))))))))));refine e_ (cK rfl) ?_;refine e_ mv (eg_ mv (eg_ ieq (e_ pkf (on_ (qn_ (wi_ (k:=λh1=>?_) (m:=λh1=>?_)))))))
 ·have l:ns= []:=Vb a8;have T:(dN ns).length=A:=by rw[dN,if_pos l,Ym,hA]
  rw[T];subst l;refine ws_ (wr_ (e_ mv (e_ asn (e_ asn (on_ (qn_ (wt_ (qr_ (rT (k:=?_))))))))));exact⟨_,hsb,SV.nil,rfl,rfl⟩
 have U:¬ns= []:=λh=>by have h9:=h1;rw[h]at h9;exact h9 rfl
 obtain⟨W,K⟩:=ex (cX (orL ns));have f:W≤40:=by rw[K,gC];exact nw (k:=40) ae hl
 have B:∀x∈ns,x<2^W:=λx hx=>by rw[K];exact F6 hx
 obtain⟨m,C⟩:=ex ((ns.length*W+7)/8);obtain⟨N,hN⟩:=ex (gI W ns);have j:dN ns=uv ns.length++(W::leB m N):=by rw[dN,if_neg U,←K,B9,C,hN]
 have M:(dN ns).length=A+1+m:=by rw[j,Ya,Yb,fj,hA];omega
 have J:xs.drop (k+A)=W::(leB m N++d):=by rw[←Vm,h,j,Yf,hA,Xy];all_goals rfl
 have L:xs[k+A]? =some W:=by have:=congrArg (·[0]?) J;simpa using this
 have X:xs.drop (k+A+1)=leB m N++d:=by rw[←Vm,J];all_goals rfl
 have r:(xs.take (k+A+1+m)).drop (k+A+1)=leB m N:=by
  rw[R8,show k+A+1+m-(k+A+1)=m from a8,X];exact List.take_left' (fj m N)
 have hnW:ns.length*W≤ns.length*40:=V8 _ f;have t:(ns.length:Int)*(W:Int)=((ns.length*W:Nat):Int):=ak;refine wk_ (qn_ (ws_ (wr_ (e_ mv ?_))));refine d1_ rfl (I1 L a8) (e_ mv (e_ exr (e_ exr (e_ asn (e_ asn (on_ (qn_ (ws_ (ws_ (wr_ (e_ mv ?_)))))))))));refine e_ (cK rfl) ?_;refine on_ (qn_ (iff_ (k:=wk_ (qn_ (ws_ (wr_ (e_ mv ?_)))))));refine e_ (dL rfl a8) ?_;refine e_ asn (on_ (qn_ (ws_ (wb_ (ws_ (ws_ (wr_ (e_ mv (e_ igt (e_ asn (on_ (qn_ (wi_ (k:=λh2=>?_) (m:=λh2=>?_))))))))))))))
 ·exact absurd h2 a8
 refine wr_ (e_ mv (e_ ieq (e_ mv (cQ 3 47 (k:=λh3=>eg_ mv (eg_ igt (e_ pkt (on_ edq)))) (q:=e_ asn (on_ (qn_ (wi_ (k:=λh4=>?_) (m:=λh4=>?_)))))))))
 ·obtain⟨c1,Y⟩:=h4;exact absurd Y a8
 refine ws_ (wr_ ?_);refine mA b λs=>?_;have hcutS:Sl (Row s eB xs::R) (s.cut 1 (k+A+1) (k+A+1+m)) eB (leB m N):=by
  have:=Sl.cut (H:=Row s eB xs::R) (s:=s) (e:=eB) (xs:=xs) inferInstance (lo:=k+A+1) (hi:=k+A+1+m) a8 a8;rw[r]at this;exact this
 have S:0<W→ns.length≤(xs.length-(k+A+1))*8/W:=λhw=>by rw[Nat.le_div_iff_mul_le hw];omega
 refine e_ mv (e_ igt (e_ mv (cQ 10 62 (c:=decide ((((xs.length-(k+A+1))*8/W:Nat):Int)<(ns.length:Int))) (k:=λh6=>?_) (q:=?_))))
 ·have hW0:0<W:=by have h9:=h6;omega
  refine eg_ mv (eg_ mv (eg_ nck (eg_ fla ?_)));refine sg_ (dy (vs:= [_]) rfl (left (k:=((k+A+1:Nat):Int)) a8)) (k:=?_);rintro _ _ ⟨rfl,rfl⟩;refine eg_ (evq iml (congrArg (Value.int .i64) (show _=(((xs.length-(k+A+1))*8:Nat):Int)from a8))) ?_;refine eg_ mv ?_;refine eg_ (fH rfl rfl ((xs.length-(k+A+1))*8) W rfl rfl a8 an) ?_;refine eg_ igt (e_ pkt (on_ edq))
 refine e_ asn (on_ (qn_ (wi_ (k:=λZ=>?_) (m:=λZ=>?_))))
 ·obtain⟨c1,Y⟩:=Z;have:=S a8;exact absurd Y a8
 refine wk_ (bn_ (qn_ (ws_ (wr_ (e_ mv (e_ mv ?_))))));refine e_ (evq iml (congrArg (Value.int .i64) t)) ?_;refine e_ iad ?_;refine e_ (evq (fH rfl rfl (ns.length*W+7) 8 a8 rfl ae an) (congrArg (λn:Nat=>iN n) C.symm)) ?_;refine e_ asn (on_ (qn_ (ws_ ?_)));refine cZ cN (as_ 0 (q:=mv) (k:=as_ 1 (q:=nck) (k:=as_ 2 (q:=fla) (k:=as_ 3 (q:=ldv) (k:=as_ 4 (q:=mv) (k:=as_ 5 (q:=nck) (k:=as_ 6 (q:=fla) (k:=as_ 7 (q:=fla) (k:=as_ 8 (q:=ldv) (k:=as_ 9 (q:=mv) (k:=as_ 10 (q:=nck) (k:=as_ 11 (q:=fla) (k:=as_ 12 (q:=fla) (k:=?_))))))))))))));refine as_ 13 (q:=ldv) (k:=as_ 14 (q:=mv) (k:=as_ 15 (q:=iad) (k:=?_)));refine cO 16 rfl rfl aa rfl (df (fA rfl bA (k+A+1) (k+A+1+m) ⟨_,_,rfl,rfl⟩ ⟨_,_,rfl,a8⟩ a8 a8)) ?_;refine as_ 17 (q:=asn) (k:=az_ (k:=qn_ (ws_ (wr_ (e_ mv ?_)))));refine s_ (fq eI 0 rfl rfl ns.length ns.length rfl rfl rfl (Xj _) a8 a8) ?_;rintro _ _ ⟨sl,rfl,hsln,hslc,rfl⟩;rw[show List.replicate ns.length (0:Int)=eV (cP ns) 0 0 from by rw[kx,p]];refine e_ asn (on_ (qn_ (ws_ (wr_ (e_ asn (e_ asn (on_ (qn_ (ws_ (ws_ (wr_ (e_ mv ?_))))))))))));have hfl:=iT (full:=cP ns) (z:=(0:Int)) (i:=0) (Yl _);refine e_ lnn (e_ mv (on_ (qn_ (wb_ (wl2_ (Nat×Nat) (λy=>y.1≤ns.length∧y.2=y.1*W) (λy=>[(13,iN y.2),(14,iN (orL (ns.take y.1))),(90,iN y.1)]) [(0,_),(9,_),(10,_),(11,_),(12,_),(89,_)] (λy=>[Row sl eI (eV (cP ns) 0 y.1)]) _ (λy=>ns.length-y.1) ((0,0)) (h0:=?_) (k:=?_))))))
 ·try dsimp only
  exact⟨Yl _,by rw[Nat.zero_mul]⟩
 rintro⟨i,g⟩ ⟨hi,V⟩
 try dsimp only[Yd,Ye]at*
 subst V;refine ws_ (wr_ (e_ ilt (on_ (qn_ (ws_ (wi_ (k:=λh8=>?_) (m:=λh8=>?_)))))))
 ·obtain⟨x,hx⟩:=gE ns i;have u:=eu hx;have hx40:=hl x (Yj hx);have hiW:i*W≤i*40:=V8 _ f;have hi1:(i+1)*W≤ns.length*W:=Vc _ a8;have hi2:(i+1)*W=i*W+W:=by rw[Vg,Nat.one_mul]
  have F:N/2^(i*W)%2^W=x:=by rw[hN,Ug];exact CA hx B
  have hfi:=iT (full:=cP ns) (z:=(0:Int)) (i:=i) a8;have hfi1:=iT (full:=cP ns) (z:=(0:Int)) (i:=i+1) a8;have E:=Gh (z:=(0:Int)) u;have ho:orL (ns.take i)<2^40:=nw ae λy hy=>hl y (Yq hy);refine wk_ (qn_ (ws_ (wb_ (ws_ (wr_ (e_ mv (e_ asn (on_ (qn_ (ws_ (wr_ (e_ mv (e_ mv ?_)))))))))))));refine e_ mv (e_ mv (e_ mv ?_));refine d3_ rfl (BH (m:=m) (N:=N) (a:=i*W) (w:=W) a8 f a8) ?_;rw[F];refine e_ ixa ?_;refine s_ (dc (i:=i) rfl rfl rfl a8) ?_;rintro _ _ ⟨rfl,rfl⟩;rw[lV u];refine on_ (qn_ (ws_ (wr_ (e_ mv (e_ mv ?_)))));refine e_ (evq iad (congrArg (Value.int .i64) (show _=(((i+1)*W:Nat):Int)from a8))) ?_;refine e_ asn (on_ (qn_ (wr_ (e_ mv (e_ mv (e_ mv (e_ ixa (e_ (lel (hy:=E)) ?_))))))));refine e_ (evq (wA rfl rfl (orL (ns.take i)) x rfl rfl a8 a8) (congrArg (λn:Nat=>iN n) (xQ hx).symm)) ?_;refine e_ asn (on_ (bn_ (qn_ (wr_ (e_ iad (e_ mv (on_ ?_)))))));refine lN ((i+1,(i+1)*W)) ?_
  exact⟨a8,rfl⟩
 obtain rfl:i=ns.length:=a8;have ho:orL ns<2^40:=nw ae hl;rw[Xk,show eV (cP ns) (0:Int) ns.length=cP ns from by rw[←p,kN]];have hend:N/2^(ns.length*W)%2^(m*8-ns.length*W)=0:=by rw[hN,Ug];exact CB B _
 refine we_ (qe_ (le_ (bh_ (qn_ (ws_ (ws_ (wr_ (e_ mv ?_))))))));refine e_ (cR 18446744073709551616 rfl rfl rfl (orL ns) rfl a8) ?_;refine d1_ rfl (HK a8) ?_;rw[←K];refine e_ mv ?_;refine e_ (evq ine (congrArg Value.bool (show _=false from Yr (λh=>h rfl)))) ?_;refine e_ mv (eg_ mv (eg_ mv (eg_ mv ?_)));refine eg_ (evq iml (congrArg (Value.int .i64) (show _=((m*8:Nat):Int)from a8))) ?_;refine eg_ mv ?_;refine eg_ (evq isb (congrArg (Value.int .i64) (show _=((m*8-ns.length*W:Nat):Int)from a8))) ?_;refine sg_ (dy (vs:= [_,_,_]) rfl (BH (m:=m) (N:=N) (a:=ns.length*W) (w:=m*8-ns.length*W) a8 a8 a8)) (k:=?_);rintro _ _ ⟨rfl,rfl⟩;rw[hend];refine eg_ (evq ine (congrArg Value.bool (show _=false from Yr (λh=>h rfl)))) ?_;refine e_ pkf (on_ (qn_ (iff_ (k:=wk_ (qn_ (ws_ (wr_ (e_ mv (e_ nck (e_ fla (e_ fla (e_ ldv (e_ mv ?_)))))))))))));refine e_ (evq iad (congrArg (Value.int .i64) (show _=((k+A+1+m:Nat):Int)from a8))) ?_;refine e_ nck (e_ fla (e_ fla (sto (k:=on_ (qn_ (ws_ (wr_ (e_ mv (e_ asn (e_ asn (on_ (qn_ (wt_ ?_)))))))))))));refine rT (k:=?_);rw[M];exact⟨Row sl eI (cP ns)::Rd b (xs,k+A+1+m)::R,hsb,sl,rfl,by rw[show k+(A+1+m)=k+A+1+m from a8]⟩
theorem B4 {b k most:Nat}{ns a:List Nat} [hg:Glb G R] [hr:Rem H Rd b (xs,k) R] (e:xs.length≤10000000000) (f:∀x∈xs,x<256) (h:xs.drop k=dN ns++a) (hm:ns.length≤most) (d:most≤65536) (hl:∀x∈ns,x<1099511627776):
 SC G prog 257 [pA b,iN most] H (λv H'=>∃s:SV,v=.tuple #[s.val,.nilIface]∧H'=Row s eI (cP ns)::Rd b (xs,k+(dN ns).length)::R):=by
 refine SC.rem (h:=hr) ?_;refine sWk func257 ?_;refine go ?_;refine mA b λs=>?_;refine go ?_;refine eN (H':=Rd b (xs,k)::R) hsb ?_;refine go ?_;refine c2_ rfl (Ly e f h hm d hl) ?_;rintro _ _ ⟨c,rfl,rfl⟩;refine e_ mv (e_ exr (e_ exr (e_ asn (e_ asn (on_ (qn_ (ws_ (ws_ (wr_ (e_ mv ?_))))))))));refine e_ (cK rfl) ?_;refine gk (k:=iff_ (k:=gR ?_));exact⟨_,hsb,c,rfl,rfl⟩
end
theorem all_drop {α:Type}{f:α→Bool}{l:List α}{i:Nat}{x:α}(h:l[i]? =some x):(l.drop i).all f=(f x&&(l.drop (i+1)).all f):=by rw[fE h,List.all_cons]
section
variable {G:cJ}{P:Program}{t:Tm}{H:cG}{dst:Option Tmp}{ty:TypeId}{pos:String}{after:Array Edge}{g:Option (Nat×Bool)}
end
end Go.Sx
