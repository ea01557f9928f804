import Derived.Test.YtjhdcheijnegnaaGreatDoorQ27
import Derived.Test.YtjhdcheijnegnaaGreatDoorQ26
set_option linter.all false
set_option maxHeartbeats 0
namespace Go.Sx
open Go Go.Proofs
set_option maxRecDepth 100000
section
variable {ds:List Doc}{e:En}{fs:List FV}{k:List Nat}{ts:List Tri}
theorem AR:∀(ts:List Tri) (a:List (List Nat)),a.Nodup→(a.map λk=>(ofK ts k).length).sum≤ts.length
 | [],a,_=>by
  have:∀a:List (List Nat),(a.map λk=>(ofK [] k).length).sum=0:=by
   intro a;induction a with
   |nil=>rfl
   |cons k a ih=>
      rw[Xn,Vn,ih];all_goals rfl
  rw[this];exact Yl _
 |t::ts,a,b=>by
  have h1:=AR ts a b;have h2:∀a:List (List Nat),a.Nodup→(a.map λk=>(ofK (t::ts) k).length).sum≤(a.map λk=>(ofK ts k).length).sum+(if t.1∈a then 1 else 0):=by
   intro a
   induction a with
   |nil=>intro _;simp
   |cons k a ih=>
    intro b;obtain⟨h3,h4⟩:=U3.1 b;have c:=ih h4;simp only[Xn,Vn,Xr]
    by_cases he:t.1=k
    ·have h6:(ofK (t::ts) k).length=(ofK ts k).length+1:=by simp[ofK,he]
     rw[if_neg (by rw[he];exact h3)]at c;rw[h6,if_pos (.inl he)];omega
    ·have h6:(ofK (t::ts) k).length=(ofK ts k).length:=by simp[ofK,he]
     rw[h6]
     by_cases hm:t.1∈a
     ·rw[if_pos hm]at c;rw[if_pos (.inr hm)];omega
     ·rw[if_neg hm]at c;rw[if_neg (by rintro(h|h);exact he h;exact hm h)];omega
  have h3:=h2 a b;simp only[Yb]
  split at h3 <;> omega
theorem sT {ks:List (List Nat)}(h:uq ks):ks.Nodup:=List.Pairwise.imp (R:=λa b=>a<b) (S:=λa b=>a≠b) (fun{a b} hab e=>oK a (by rw[←e]at hab;exact hab)) h
theorem IC (h:k∈ts.map (·.1)):1≤(ofK ts k).length:=by
 obtain⟨t,a,rfl⟩:=Xw.1 h;have:t.2∈ofK ts t.1:=Xw.2 ⟨t,Q9.2 ⟨a,Ys rfl⟩,rfl⟩;exact List.length_pos_of_mem this
theorem BB (h:tY ts) (hk:k∈ts.map (·.1)):(dD (iD (ofK ts k))).length≤86*(ofK ts k).length:=by
 obtain⟨h1,h2,h3⟩:=lR h (k:=k);obtain⟨h4,h5⟩:=nZ (ofK ts k);have h6:=h.few;have h7:=vk h2 a8;have h8:=IC hk;omega
theorem qw (h:tY ts):(dI (dq ts)).length≤86*ts.length:=by
 have b:∀a:List (List Nat),(∀k∈a,k∈ts.map (·.1))→(dI (a.map λk=>(k,iD (ofK ts k)))).length≤86*(a.map λk=>(ofK ts k).length).sum:=by
  intro a
  induction a with
  |nil=>intro _;simp[dI]
  |cons k a ih=>
   intro hk;have h1:=ih λx hx=>hk x (Xa _ hx);have h2:=BB h (hk k ak);simp only[dI,Xn,Vp,Ya,Vn]at h1⊢;omega
 have h1:=b (lC (ts.map (·.1))) λk hk=>(jy _ _).1 hk;have h2:=AR ts _ (sT (iZ (ts.map (·.1))));rw[dq];omega
theorem py (ts:List Tri):(dq ts).length≤ts.length:=by
 have h:=lJ (l:=lC (ts.map (·.1))) (m:=ts.map (·.1)) (sT (iZ _)) λx hx=>(jy _ _).1 hx;rw[dq,Yh]
 simpa using h
theorem pz {i:Nat}{p:uo}(h:(dq ts)[i]? =some p):p.1∈ts.map (·.1)∧p.2=iD (ofK ts p.1)∧(lC (ts.map (·.1)))[i]? =some p.1:=by
 rw[dq,Xd]at h;cases hk:(lC (ts.map (·.1)))[i]? with
 |none=>rw[hk]at h;cases h
 |some k=>
  rw[hk]at h;obtain rfl:=Xo h;exact⟨(jy _ _).1 (Yj hk),rfl,rfl⟩
theorem tL {rs:List uo}{n i:Nat}(h:(gD n rs)[i]? =some e):∃p,rs[i]? =some p∧e=⟨dQ p.1,p.2.length,dn p.2,n+(dI (rs.take i)).length,(dD p.2).length⟩:=by
 have hi:=(Yk.1 h).1;rw[iF]at hi;have h2:=lW (n:=n) (Yi hi);rw[h]at h2;exact⟨_,Yi hi,Xo h2⟩
theorem qC (h:tY ts) (hk:k∈ts.map (·.1)):cF (dQ k)=k∧1≤k.length∧k.length≤65:=by
 obtain⟨t,a,rfl⟩:=Xw.1 hk;obtain⟨h1,h2,h3,_⟩:=h.small t a;exact⟨ec h3,h2,h1⟩
theorem Bz (h:tY ts) (hf:ts.length≤2000000):ru (gD 0 (dq ts)):=by
 constructor
 ·intro e he;obtain⟨i,hi⟩:=Uf he;obtain⟨p,hp,rfl⟩:=tL hi;obtain⟨h1,h2,_⟩:=pz hp;obtain⟨_,h3,h4⟩:=qC h h1;obtain⟨c,h6⟩:=nZ (ofK ts p.1);have h7:=w5 ts p.1;have g:=BB h h1;have h9:=qw h;have h10:=uH (dq ts) i;rw[←h2]at c h6 g;have hsz:=gG p.1;refine⟨bG,bG,bG,bG,bG,bG⟩
 ·intro i a b ha f;obtain⟨p,hp,rfl⟩:=tL ha;obtain⟨q,d,rfl⟩:=tL f;obtain⟨h1,_,h2⟩:=pz hp;obtain⟨h3,_,h4⟩:=pz d;simp only[(qC h h1).1,(qC h h3).1];have c:=R4.1 (iZ (ts.map (·.1)));have h6:=c i (i+1) (Yk.1 h2).1 (Yk.1 h4).1 a8;rw[(Yk.1 h2).2,(Yk.1 h4).2]at h6;exact h6
theorem Ja {prev:List Nat}(h1:e.key.size≤65) (h:e.docs<1099511627776∧e.tot<1099511627776∧e.at_<1099511627776∧e.size<1099511627776):(lY prev e).length≤101:=by
 have h0:=kD prev (cF e.key);have hb:=cI e.key;have h1:=eA (n:=dK prev (cF e.key)) (k:=6) a8 a8;have h2:=eA (n:=(cF e.key).length-dK prev (cF e.key)) (k:=6) a8 a8;have h3:=eA (n:=e.docs) (k:=6) h.1 a8;have h4:=eA (n:=e.tot) (k:=6) h.2.1 a8;have h5:=eA (n:=e.at_) (k:=6) h.2.2.1 a8;have h6:=eA (n:=e.size) (k:=6) h.2.2.2 a8;simp only[lY,Ya,Yo];omega
theorem yq:∀{l:List En}{p:List Nat},(∀e∈l,e.key.size≤65)→jO l→(dM p l).length≤101*l.length
 | [],_,_,_=>by simp[dM]
 |e::r,p,hk,h=>by
  have h1:=Ja (prev:=p) (hk e ak) (h e ak).2;have h2:=yq (p:=cF e.key) (λx hx=>hk x (Xa _ hx)) (λx hx=>h x (Xa _ hx));simp only[dM,Ya,Yb];omega
theorem yG {l:List En}(h:ru l) (c:l.length<1099511627776):(fT l).length≤2000+110*l.length:=by
 have b:=tc h;have a:∀k,(dx l k).2.length≤1616*k:=by
  intro k
  induction k with
  |zero=>simp[dx]
  |succ k ih=>
   have h3:=yq (p:= []) (l:=eY l k) (λe he=>(h.1 e (yQ he)).2.1) (nk b k);have h4:=nH l k;simp only[dx,Ya];omega
 have h1:=(mS b (fm l)).1;have h2:=a (fm l);have h3:=eA (n:=l.length) (k:=6) c a8;have h5:16*fm l≤l.length+15:=cq;simp only[fT,Ya];omega
theorem wc (fs:List FV) (h:dsz ds≤30000000) (f:Nat):∀x∈et fs ds f,x<1099511627776:=by
 intro x hx;obtain⟨d,hd,rfl⟩:=Xw.1 hx;have:=jG fs f d.2;have:=pS hd;omega
theorem lL {fs:List FV}{ds:List Doc}(h:dsz ds≤30000000) (hn:ds.length≤4096):∀n,(ld fs ds n).length≤20490*n
 | 0=>by simp[ld]
 |n+1=>by
  have h1:=lL (fs:=fs) h hn n;have h2:=je (wc fs h n) (by rw[et,Yh];omega);rw[show(et fs ds n).length=ds.length from by rw[et,Yh]]at h2;have e:ld fs ds (n+1)=ld fs ds n++dN (et fs ds n):=by simp[ld,U6]
  rw[e,Ya];omega
theorem FB (h:dsz ds≤30000000) (n:Nat):∀x∈ld fs ds n,x<256:=by
 intro x hx;obtain⟨f,_,hx⟩:=X7.1 hx;exact oI (wc fs h f) x hx
theorem xE:∀(l:List Int) (n:Int),∀x∈gh n l,x<256
 | [],_,x,hx=>by simp[gh]at hx
 |y::l,n,x,hx=>by
  rw[gh]at hx;rcases Xl.1 hx with hx|hx
  ·exact iP _ x hx
  ·exact xE l _ x hx
theorem iU.blocks (h:iU fs ds):(∀q∈lE fs ds,0<q.1∧q.1<256∧∀x∈q.2,x<256)∧(ei (lE fs ds)).length≤1000000000∧ru (gD 0 (dq (eQ fs ds)))∧(dI (dq (eQ fs ds))).length≤2147483647:=by
 have c:=h.goodT;have j:=h.toks;have e:=h.size;have b:=h.few;have hfl:=h.flen;have g:=Bz c j;have h1:=qw c;have h2:=py (eQ fs ds);have h3:=yG g (by rw[iF];omega);rw[iF]at h3;have h4:=yv h.chk;have h5:=lL (fs:=fs) e b fs.length;have h6:=jd (fs:=fs) (ds:=ds) a8 h.q;have m:=nS (l:=ds.map (·.1)) h.pos (λx hx=>bI);rw[Yh]at m;have h8:=eA (n:=ds.length) (k:=6) a8 a8;have hI:(mH ds).length≤10*4096+6:=by rw[mH,Ya];omega
 refine⟨?_,?_,g,a8⟩
 ·intro q f;simp only[lE,Xr,S4,or_false]at f;rcases f with rfl|rfl|rfl|rfl|rfl|rfl
  ·exact⟨ak,ak,Jb h.chk⟩
  ·refine⟨ak,ak,λx hx=>?_⟩;rcases Xl.1 hx with hx|hx
   ·exact iP _ x hx
   ·exact xE _ _ x hx
  ·exact⟨ak,ak,FB e _⟩
  ·exact⟨ak,ak,yH _⟩
  ·refine⟨ak,ak,λx hx=>?_⟩;obtain⟨p,hp,hx⟩:=X7.1 hx;obtain⟨i,hi⟩:=Uf hp;obtain⟨_,h9,_⟩:=pz hi;rw[h9]at hx;exact yw (lR c).2.1 x hx
  ·refine⟨ak,ak,λx hx=>?_⟩;obtain⟨d,_,hx⟩:=X7.1 hx;rcases Xl.1 hx with hx|hx
   ·exact iP _ x hx
   ·obtain⟨v,_,hx⟩:=X7.1 hx;rcases Xl.1 hx with hx|hx
    ·exact iP _ x hx
    ·rcases Xl.1 hx with hx|hx
     ·exact iP _ x hx
     ·exact jQ _ x hx
 ·have a:∀n,n<1099511627776→(uv n).length≤6:=λn b=>eA b a8;simp only[ei,lE,Vp,List.flatMap_nil,Ya,Yc,pR];have u1:=a (wF fs).length a8;have u2:=a (mH ds).length a8;have u3:=a (ld fs ds fs.length).length a8;have u4:=a (fT (gD 0 (dq (eQ fs ds)))).length a8;have u5:=a (dI (dq (eQ fs ds))).length a8;have u6:=a (eJ fs ds).length a8;omega
end
end Go.Sx
