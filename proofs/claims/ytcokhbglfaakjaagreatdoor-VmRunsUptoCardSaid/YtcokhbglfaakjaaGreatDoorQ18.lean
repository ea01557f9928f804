import Derived.Test.YtcokhbglfaakjaaGreatDoorQ16
import Derived.Test.YtcokhbglfaakjaaGreatDoorQ14
import Derived.Test.YtcokhbglfaakjaaGreatDoorQ15
import Derived.Test.YtcokhbglfaakjaaGreatDoorQ17
set_option linter.all false
set_option maxHeartbeats 0
namespace Go.Sx
open Go Go.Proofs
set_option maxRecDepth 100000
section
variable {ds:List Doc}{e:En}{fs:List FV}{k:List Nat}{ts:List Tri}
theorem G8:∀(ts:List Tri) (a:List (List Nat)),a.Nodup→(a.map λk=>(ofK ts k).length).sum≤ts.length
 | [],a,_=>by
  have:∀a:List (List Nat),(a.map λk=>(ofK [] k).length).sum=0:=by
   intro a;induction a with
   |nil=>rfl
   |cons k a ih=>
      rw[Xs,Vv,ih];all_goals rfl
  rw[this];exact Yl _
 |t::ts,a,hn=>by
  have h1:=G8 ts a hn;have h2:∀a:List (List Nat),a.Nodup→(a.map λk=>(ofK (t::ts) k).length).sum≤(a.map λk=>(ofK ts k).length).sum+(if t.1∈a then 1 else 0):=by
   intro a
   induction a with
   |nil=>intro _;simp
   |cons k a ih=>
    intro hn;obtain⟨h3,h4⟩:=U1.1 hn;have h5:=ih h4;simp only[Xs,Vv,Xo]
    by_cases he:t.1=k
    ·have h6:(ofK (t::ts) k).length=(ofK ts k).length+1:=by simp[ofK,he]
     rw[if_neg (by rw[he];exact h3)]at h5;rw[h6,if_pos (.inl he)];omega
    ·have h6:(ofK (t::ts) k).length=(ofK ts k).length:=by simp[ofK,he]
     rw[h6]
     by_cases hm:t.1∈a
     ·rw[if_pos hm]at h5;rw[if_pos (.inr hm)];omega
     ·rw[if_neg hm]at h5;rw[if_neg (by rintro(h|h);exact he h;exact hm h)];omega
  have h3:=h2 a hn;simp only[Yb]
  split at h3 <;> omega
theorem xl {ks:List (List Nat)}(h:tm ks):ks.Nodup:=List.Pairwise.imp (R:=λa b=>a<b) (S:=λa b=>a≠b) (fun{a b} hab e=>ni a (by rw[←e]at hab;exact hab)) h
theorem OZ (h:k∈ts.map (·.1)):1≤(ofK ts k).length:=by
 obtain⟨t,a,rfl⟩:=Xt.1 h;have:t.2∈ofK ts t.1:=Xt.2 ⟨t,List.mem_filter.2 ⟨a,Ys rfl⟩,rfl⟩;exact List.length_pos_of_mem this
theorem H8 (h:yF ts) (hk:k∈ts.map (·.1)):(eO (jI (ofK ts k))).length≤86*(ofK ts k).length:=by
 obtain⟨h1,h2,h3⟩:=oP h (k:=k);obtain⟨h4,h5⟩:=rK (ofK ts k);have h6:=h.few;have h7:=zO h2 a8;have h8:=OZ hk;omega
theorem uV (h:yF ts):(eV (eE ts)).length≤86*ts.length:=by
 have b:∀a:List (List Nat),(∀k∈a,k∈ts.map (·.1))→(eV (a.map λk=>(k,jI (ofK ts k)))).length≤86*(a.map λk=>(ofK ts k).length).sum:=by
  intro a
  induction a with
  |nil=>intro _;simp[eV]
  |cons k a ih=>
   intro hk;have h1:=ih λx hx=>hk x (Xa _ hx);have h2:=H8 h (hk k aq);simp only[eV,Xs,Vx,Ya,Vv]at h1⊢;omega
 have h1:=b (oA (ts.map (·.1))) λk hk=>(lJ _ _).1 hk;have h2:=G8 ts _ (xl (kN (ts.map (·.1))));rw[eE];omega
theorem tJ (ts:List Tri):(eE ts).length≤ts.length:=by
 have h:=oI (l:=oA (ts.map (·.1))) (m:=ts.map (·.1)) (xl (kN _)) λx hx=>(lJ _ _).1 hx;rw[eE,Yh]
 simpa using h
theorem tK {i:Nat}{p:nQ}(h:(eE ts)[i]? =some p):p.1∈ts.map (·.1)∧p.2=jI (ofK ts p.1)∧(oA (ts.map (·.1)))[i]? =some p.1:=by
 rw[eE,Xd]at h;cases hk:(oA (ts.map (·.1)))[i]? with
 |none=>rw[hk]at h;cases h
 |some k=>
  rw[hk]at h;obtain rfl:=Xk h;exact⟨(lJ _ _).1 (Yj hk),rfl,rfl⟩
theorem yh {rs:List nQ}{n i:Nat}(h:(j8 n rs)[i]? =some e):∃p,rs[i]? =some p∧e=⟨eG p.1,p.2.length,ec p.2,n+(eV (rs.take i)).length,(eO p.2).length⟩:=by
 have hi:=(Yk.1 h).1;rw[ka]at hi;have h2:=oV (n:=n) (Yi hi);rw[h]at h2;exact⟨_,Yi hi,Xk h2⟩
theorem vg (h:yF ts) (hk:k∈ts.map (·.1)):dC (eG k)=k∧1≤k.length∧k.length≤65:=by
 obtain⟨t,a,rfl⟩:=Xt.1 hk;obtain⟨h1,h2,h3,_⟩:=h.small t a;exact⟨fD h3,h2,h1⟩
theorem H6 (h:yF ts) (hf:ts.length≤2000000):w9 (j8 0 (eE ts)):=by
 constructor
 ·intro e he;obtain⟨i,hi⟩:=Vo he;obtain⟨p,hp,rfl⟩:=yh hi;obtain⟨h1,h2,_⟩:=tK hp;obtain⟨_,h3,h4⟩:=vg h h1;obtain⟨h5,h6⟩:=rK (ofK ts p.1);have h7:=AN ts p.1;have h8:=H8 h h1;have h9:=uV h;have h10:=zj (eE ts) i;rw[←h2]at h5 h6 h8;have hsz:=j9 p.1;refine⟨bJ,bJ,bJ,bJ,bJ,bJ⟩
 ·intro i a b ha d;obtain⟨p,hp,rfl⟩:=yh ha;obtain⟨q,c,rfl⟩:=yh d;obtain⟨h1,_,h2⟩:=tK hp;obtain⟨h3,_,h4⟩:=tK c;simp only[(vg h h1).1,(vg h h3).1];have h5:=T4.1 (kN (ts.map (·.1)));have h6:=h5 i (i+1) (Yk.1 h2).1 (Yk.1 h4).1 a8;rw[(Yk.1 h2).2,(Yk.1 h4).2]at h6;exact h6
theorem PT {prev:List Nat}(h1:e.key.size≤65) (h:e.docs<1099511627776∧e.tot<1099511627776∧e.at_<1099511627776∧e.size<1099511627776):(oX prev e).length≤101:=by
 have h0:=n6 prev (dC e.key);have hb:=dI e.key;have h1:=gb (n:=eY prev (dC e.key)) (k:=6) a8 a8;have h2:=gb (n:=(dC e.key).length-eY prev (dC e.key)) (k:=6) a8 a8;have h3:=gb (n:=e.docs) (k:=6) h.1 a8;have h4:=gb (n:=e.tot) (k:=6) h.2.1 a8;have h5:=gb (n:=e.at_) (k:=6) h.2.2.1 a8;have h6:=gb (n:=e.size) (k:=6) h.2.2.2 a8;simp only[oX,Ya,Yo];omega
theorem Df:∀{l:List En}{p:List Nat},(∀e∈l,e.key.size≤65)→lV l→(fe p l).length≤101*l.length
 | [],_,_,_=>by simp[fe]
 |e::r,p,hk,h=>by
  have h1:=PT (prev:=p) (hk e aq) (h e aq).2;have h2:=Df (p:=dC e.key) (λx hx=>hk x (Xa _ hx)) (λx hx=>h x (Xa _ hx));simp only[fe,Ya,Yb];omega
theorem Dw {l:List En}(h:w9 l) (hn:l.length<1099511627776):(iC l).length≤2000+110*l.length:=by
 have b:=xF h;have a:∀k,(eH l k).2.length≤1616*k:=by
  intro k
  induction k with
  |zero=>simp[eH]
  |succ k ih=>
   have h3:=Df (p:= []) (l:=gB l k) (λe he=>(h.1 e (DK he)).2.1) (qN b k);have h4:=ri l k;simp only[eH,Ya];omega
 have h1:=(qf b (gO l)).1;have h2:=a (gO l);have h3:=gb (n:=l.length) (k:=6) hn a8;have h5:16*gO l≤l.length+15:=cS;simp only[iC,Ya];omega
theorem AT (fs:List FV) (h:dsz ds≤30000000) (f:Nat):∀x∈eL fs ds f,x<1099511627776:=by
 intro x hx;obtain⟨d,hd,rfl⟩:=Xt.1 hx;have:=oU fs f d.2;have:=rP hd;omega
theorem oK {fs:List FV}{ds:List Doc}(h:dsz ds≤30000000) (hn:ds.length≤4096):∀n,(nX fs ds n).length≤20490*n
 | 0=>by simp[nX]
 |n+1=>by
  have h1:=oK (fs:=fs) h hn n;have h2:=kY (AT fs h n) (by rw[eL,Yh];omega);rw[show(eL fs ds n).length=ds.length from du]at h2;have e:nX fs ds (n+1)=nX fs ds n++ff (eL fs ds n):=by simp[nX,X9]
  rw[e,Ya];omega
theorem Ls (h:dsz ds≤30000000) (n:Nat):∀x∈nX fs ds n,x<256:=by
 intro x hx;obtain⟨f,_,hx⟩:=U4.1 hx;exact sU (AT fs h f) x hx
theorem Cq:∀(l:List Int) (n:Int),∀x∈iQ n l,x<256
 | [],_,x,hx=>by simp[iQ]at hx
 |y::l,n,x,hx=>by
  rw[iQ]at hx;rcases Xm.1 hx with hx|hx
  ·exact kz _ x hx
  ·exact Cq l _ x hx
theorem mg.blocks (h:mg fs ds):(∀q∈oC fs ds,0<q.1∧q.1<256∧∀x∈q.2,x<256)∧(fN (oC fs ds)).length≤1000000000∧w9 (j8 0 (eE (fU fs ds)))∧(eV (eE (fU fs ds))).length≤2147483647:=by
 have b:=h.goodT;have g:=h.toks;have c:=h.size;have hn:=h.few;have hfl:=h.flen;have f:=H6 b g;have h1:=uV b;have h2:=tJ (fU fs ds);have h3:=Dw f (by rw[ka];omega);rw[ka]at h3;have h4:=Dj h.chk;have h5:=oK (fs:=fs) c hn fs.length;have h6:=kX (fs:=fs) (ds:=ds) a8 h.q;have j:=rB (l:=ds.map (·.1)) h.pos (λx hx=>bU);rw[Yh]at j;have h8:=gb (n:=ds.length) (k:=6) a8 a8;have hI:(pU ds).length≤10*4096+6:=by rw[pU,Ya];omega
 refine⟨?_,?_,f,a8⟩
 ·intro q e;simp only[oC,Xo,S9,or_false]at e;rcases e with rfl|rfl|rfl|rfl|rfl|rfl
  ·exact⟨aq,aq,PU h.chk⟩
  ·refine⟨aq,aq,λx hx=>?_⟩;rcases Xm.1 hx with hx|hx
   ·exact kz _ x hx
   ·exact Cq _ _ x hx
  ·exact⟨aq,aq,Ls c _⟩
  ·exact⟨aq,aq,Dx _⟩
  ·refine⟨aq,aq,λx hx=>?_⟩;obtain⟨p,hp,hx⟩:=U4.1 hx;obtain⟨i,hi⟩:=Vo hp;obtain⟨_,h9,_⟩:=tK hi;rw[h9]at hx;exact Dk (oP b).2.1 x hx
  ·refine⟨aq,aq,λx hx=>?_⟩;obtain⟨d,_,hx⟩:=U4.1 hx;rcases Xm.1 hx with hx|hx
   ·exact kz _ x hx
   ·obtain⟨v,_,hx⟩:=U4.1 hx;rcases Xm.1 hx with hx|hx
    ·exact kz _ x hx
    ·rcases Xm.1 hx with hx|hx
     ·exact kz _ x hx
     ·exact lZ _ x hx
 ·have a:∀n,n<1099511627776→(uv n).length≤6:=λn hn=>gb hn a8;simp only[fN,oC,Vx,List.flatMap_nil,Ya,Yc,uk];have u1:=a (Bh fs).length a8;have u2:=a (pU ds).length a8;have u3:=a (nX fs ds fs.length).length a8;have u4:=a (iC (j8 0 (eE (fU fs ds)))).length a8;have u5:=a (eV (eE (fU fs ds))).length a8;have u6:=a (gm fs ds).length a8;omega
end
open Tryz
section
variable {G:dJ}{H R:dD}{ds:List Doc}{fs:List FV}{l:List (Int×SV)}{s:SV}{zs:List (SV×List Nat)}
theorem SA [hg:Glb G H] [hs:Sl H s eF fs] (hc:iK fs=true):SC G prog 161 [.agg #[s.val]] H (λv b=>∃a:SV,v=.tuple #[a.val,.nilIface]∧b=Row a eB (Bh fs)::H):=
 (Ol (fs:=fs) (by have:=jx hc;omega) (λf c=>by have:=((jx hc).2 f c).1;omega)).mono λv b h=>by
   rcases h with⟨h,_⟩|⟨_,h⟩
   ·rw[hc]at h;cases h
   ·exact h
theorem HC {b:Nat}{xs:List Nat}{l:List Int} [hg:Glb G R] [hr:Rem H Wr b xs R] [Sl R s eI l] (hn:xs.length≤100000000000) (hm:l.length≤10000000000) (hl:∀x∈l,x≤9223372036854775807) (h1:o8 l=false) (h2:rise l=true):SC G prog 164 [pA b,s.val] H (λv a=>v=.nilIface∧a=Wr b (xs++(uv l.length++iQ (-1) l))::R):=
 (Nq hn hm hl).mono λv a h=>by
   rcases h with⟨h,_⟩|⟨_,h,_⟩|⟨_,_,h⟩
   ·rw[h1]at h;cases h
   ·rw[h2]at h;cases h
   ·exact h
theorem Ra {i:Nat}{z:SV×List Nat}(hr:nR H (Cl lnH zs) R) (h:zs[i]? =some z):Sl H z.1 eI (dT z.2):=ee (gJ hr (GI h)) inferInstance
theorem gK.less {H':dD}(hs:dH H' H) (h:gK H l ds):gK H' l ds:=⟨h.1,λi p q hp a=>by
 obtain⟨h1,h2⟩:=h.2 i p q hp a;exact⟨h1,ee hs h2⟩⟩
def qw (k:Nat):List SV→List (Nat×SV)
 | []=>[]
 |s::l=>(k,s)::qw (k+1) l
theorem BT:∀(l:List SV) (k:Nat),(qw k l).length=l.length
 | [],_=>rfl
 |s::l,k=>by simp[qw,BT l]
theorem BU:∀{l:List SV}{k i:Nat}{s:SV},l[i]? =some s→(qw k l)[i]? =some (k+i,s)
 | [],_,_,_,h=>aK
 |q::l,k,0,s,h=>bI
 |q::l,k,i+1,s,h=>by
  rw[Xc]at h;rw[qw,Xc,BU h];congr 2;omega
theorem YR {a b c d e f:SV}{p q r s t u:List Nat} [h1:Sl H a eB p] [h2:Sl H b eB q] [h3:Sl H c eB r] [h4:Sl H d eB s] [h5:Sl H e eB t] [h6:Sl H f eB u]:sy H (qw 1 [a,b,c,d,e,f]) [(1,p),(2,q),(3,r),(4,s),(5,t),(6,u)]:=⟨rfl,λi x y hx hy=>by
 match i,hx,hy with
 | 0,hx,hy=>simp[qw]at hx hy;subst hx;subst hy;exact⟨rfl,h1⟩
 | 1,hx,hy=>simp[qw]at hx hy;subst hx;subst hy;exact⟨rfl,h2⟩
 | 2,hx,hy=>simp[qw]at hx hy;subst hx;subst hy;exact⟨rfl,h3⟩
 | 3,hx,hy=>simp[qw]at hx hy;subst hx;subst hy;exact⟨rfl,h4⟩
 | 4,hx,hy=>simp[qw]at hx hy;subst hx;subst hy;exact⟨rfl,h5⟩
 | 5,hx,hy=>simp[qw]at hx hy;subst hx;subst hy;exact⟨rfl,h6⟩
 |n+6,hx,hy=>simp[qw]at hx⟩
theorem RW {R2:dD}{g r:Nat}{fv dv lv:SV} [hg0:Glb G R] [Tab R 27 oc] [Tab R 25 mA] [hv:dQ R g [fv.val,dv.val,lv.val,.map (some r)]] [hf:Sl R fv eF fs] [hd:Sl R dv eD l] [hl:Sl R lv eSV (zs.map (·.1))] [hz:nR R (Cl lnH zs) R2] [hr:Rem H kl r (fU fs ds) R] (hS:ot) (a:mg fs ds) (t:gK R l ds) (hzs:zs.map (·.2)=(List.range fs.length).map (eL fs ds)):SC G prog 115 [pA g] H (λv H'=>∃s:SV,v=.tuple #[s.val,.nilIface]∧H'=Row s eB (Ck fs ds)::R):=by
 have S:=t.1;have hfl:=a.flen;have j:=a.few;obtain⟨Z,Y,X,V⟩:=a.blocks;have J:∀x∈ds.map (·.1),x<1099511627776:=λx hx=>by obtain⟨d,hd,rfl⟩:=Xt.1 hx;exact a.ids d hd
 have f:(ds.map (·.1)).length=l.length:=by rw[Yh,S]
 have hzl:zs.length=fs.length:=by have:=congrArg List.length hzs;simpa using this
 have hzml:(zs.map (·.1)).length=fs.length:=by rw[Yh,hzl]
 have c:=a.size;refine SC.rem (h:=hr) ?_;refine sWk func115 ?_;refine go ?_;refine c1_ rfl (SA a.chk) ?_;rintro _ _ ⟨C,rfl,rfl⟩;refine e_ mv (e_ exr (e_ exr (e_ asn (e_ asn (on_ (qn_ (ws_ (ws_ (wr_ (e_ mv ?_))))))))));refine e_ (dL rfl) ?_;refine gk (k:=fM (k:=go ?_));refine c1_ rfl (RV (r:=r) hS a.goodT X V) ?_;rintro _ _ ⟨sa,sb,rfl,rfl⟩;refine e_ mv (e_ exr (e_ exr (e_ exr (e_ asn (e_ asn (e_ asn (on_ (qn_ (ws_ (ws_ (wr_ (e_ mv ?_))))))))))));refine e_ (dL rfl) ?_;refine gk (k:=fM (k:=go ?_));refine s_ (gn eI 0 rfl rfl _ _ rfl rfl rfl a8 a8 a8) ?_;rintro _ _ ⟨m,rfl,hs45n,hs45c,rfl⟩;refine e_ asn (on_ (qn_ (ws_ (ws_ (wr_ ?_)))));rw[show Row m eI (List.replicate l.length (0:Int))=Row m eI (gx (ds.map (·.1)) 0 0)from by rw[mW,f]];refine gk (k:=e8 Nat (λy=>y≤l.length) (λy=>[(51,iN y)]) [(0,_),(4,_),(6,_),(7,_),(8,_),(49,_),(50,_)] (λy=>[Row m eI (gx (ds.map (·.1)) 0 y)]) _ (λy=>l.length-y) (0) (h0:=?_) (k:=?_))
 ·exact Yl _
 rintro i hi
 try dsimp only[Yd,Ye]at*
 refine gW (λh1=>?_) λh1=>?_
 ·obtain⟨d,s,vs,hli,U,N⟩:=t.get (i:=i) a8;have hg1:(ds.map (·.1))[i]? =some d:=by rw[Xd,U];all_goals rfl
  have hfll:=kG (full:=ds.map (·.1)) (z:=(0:Int)) (i:=i) a8;refine gk (k:=alc (k:=λb10=>?_));refine go ?_;refine s_ (et (i:=i) rfl rfl rfl a8) ?_;rintro _ _ ⟨rfl,rfl⟩;rw[oT hg1];refine go ?_;refine lN (i+1) ?_
  try dsimp only
  omega
 obtain rfl:i=l.length:=a8;rw[show gx (ds.map (·.1)) 0 l.length=ds.map (·.1)from by rw[←f,nu]];refine go ?_;refine c0_ rfl iM ?_;rintro _ _ ⟨bw,rfl,rfl⟩;refine go ?_;refine d2_ rfl (HC aq a8 (λx hx=>by have:=J x hx;omega) a.pos a.up) ?_;rw[show []++(uv (ds.map (·.1)).length++iQ (-1) (ds.map (·.1)))=pU ds from by rw[pU,Yh];all_goals rfl];have hIl:(pU ds).length≤50000:=by
  have h1:=rB a.pos (λx hx=>by have:=J x hx;omega);have h2:=gb (n:=ds.length) (k:=6) a8 a8;rw[pU,Ya];omega
 refine e_ asn (on_ (qn_ (ws_ (wr_ (e_ mv ?_)))));refine e_ (dL rfl) ?_;refine gk (k:=fM (k:=go ?_));refine c1_ rfl (kK a8) ?_;rintro _ _ ⟨B,rfl,rfl⟩;refine go ?_;refine d1_ rfl Rt ?_;rw[show Wr bw []=Wr bw (nX fs ds 0)from rfl];refine go ?_;refine e8 Nat (λy=>y≤fs.length) (λy=>[(78,iN y)]) [(0,_),(4,_),(6,_),(7,_),(11,_),(13,_),(76,_),(77,_)] (λy=>[Wr bw (nX fs ds y)]) _ (λy=>fs.length-y) (0) (h0:=?_) (k:=?_)
 ·exact Yl _
 rintro i hi
 try dsimp only[Yd,Ye]at*
 refine gW (λh2=>?_) λh2=>?_
 ·obtain⟨z,p⟩:=gE zs i;have hz1:(zs.map (·.1))[i]? =some z.1:=by rw[Xd,p];all_goals rfl
  have K:z.2=eL fs ds i:=by
   have h1:=congrArg (·[i]?) hzs;simp only[Xd,p,Ur (by omega:i<fs.length),Vs,Option.some.injEq]at h1;exact h1
  haveI hzs2:Sl R z.1 eI (dT (eL fs ds i)):=K ▸ Ra hz p;have T:=oK (fs:=fs) c j i;refine go ?_;refine d2_ rfl (Av a8 (by rw[eL,Yh];omega) (AT fs c i) (λ_=>by rw[eL,Yh];omega)) ?_;rw[show nX fs ds i++ff (eL fs ds i)=nX fs ds (i+1)from by simp[nX,X9]];refine e_ asn (on_ (qn_ (ws_ (wr_ (e_ mv ?_)))));refine e_ (dL rfl) ?_;refine gk (k:=fM (k:=go ?_));refine lN (i+1) ?_
  try dsimp only
  omega
 obtain rfl:i=fs.length:=a8;have T:=oK (fs:=fs) c j fs.length;refine go ?_;refine c1_ rfl (kK a8) ?_;rintro _ _ ⟨A,rfl,rfl⟩;refine go ?_;refine c1_ rfl (NF (t.less hsb) a8 a8 a.q c a.fd) ?_;rintro _ _ ⟨w,rfl,rfl⟩;refine s_ (ek eSV [C,B,A,sa,sb,w] bH rfl ax) ?_;rintro _ _ ⟨s97,rfl,rfl⟩;refine eu (dH.nilRow (e:=eK) dH.refl) ?_;obtain⟨b,q⟩:=ex ([C,B,A,sa,sb,w]);have N:b.length=6:=by rw[q];all_goals rfl
 have L:=BT b 1;rw[←q,show Row SV.nil eK []=Row SV.nil eK ((qw 1 b).take 0)from rfl];refine gk (k:=e8 (Nat×SV) (λy=>y.1≤b.length) (λy=>[(17,y.2.val),(99,iN y.1)]) [(97,_),(98,_)] (λy=>[Row y.2 eK ((qw 1 b).take y.1)]) _ (λy=>b.length-y.1) ((0,SV.nil)) (h0:=?_) (k:=?_))
 ·exact Yl _
 rintro⟨i,u⟩ hi
 try dsimp only[Yd,Ye]at*
 refine gW (λh3=>?_) λh3=>?_
 ·obtain⟨x,hx⟩:=gE b i;have M:=dK (BU (k:=1) hx);have htkl:((qw 1 b).take i).length≤6:=az;refine wk_ (qn_ (ws_ (wb_ (ws_ (wr_ (e_ mv (e_ ixa (e_ lel (e_ asn (e_ asn (on_ (qn_ (wr_ ?_)))))))))))));refine e_ mv (e_ mv (e_ iad ?_));refine e_ (dW 256 rfl rfl rfl (1+i) a8 a8) ?_;refine e_ mv (e_ (bld [(0,_),(1,_)]) (fS eK (k:=λs110=>?_)));refine app (k:=λF=>?_);rw[←M];refine go ?_;refine lN ((i+1,F)) ?_
  try dsimp only
  omega
 obtain rfl:i=b.length:=a8;rw[show(qw 1 b).take b.length=qw 1 b from by rw[←L,Xn],q];refine go ?_;refine c2_ rfl (YD (bl:=oC fs ds) 83 ae ae YR Z Y (by simp[oC])) ?_;rintro _ _ ⟨E,rfl,rfl⟩;refine gR ?_;exact⟨_,hsb,E,rfl,rfl⟩
end
section
variable {G:dJ}{H:dD}{ds:List Doc}{fs:List FV}
def o6 (fs:List FV):Int→List Doc→Nat
 |_, []=>0
 |la,d::r=>if d.1<0∨1099511627776≤d.1 then 8 else if d.1≤la then 4 else if jv fs d.2=0 then o6 fs d.1 r else jv fs d.2
def sg (fs:List FV) (ds:List Doc):Nat:=if iK fs=false then 11 else if 4096<ds.length then 3 else o6 fs (-1) ds
theorem DD:∀{ds:List Doc}{la:Int},o6 fs la ds=0→(∀d∈ds,0≤d.1∧d.1<1099511627776∧jv fs d.2=0)∧(∀d,ds.head? =some d→la<d.1)∧rise (ds.map (·.1))=true
 | [],_,_=>⟨aq,aq,rfl⟩
 |d::r,la,h=>by
  rw[o6]at h
  split at h
  ·cases h
  ·split at h
   ·cases h
   ·split at h
    ·rename_i h1 h2 h3;obtain⟨c,b,a⟩:=DD h;refine⟨λe he=>?_,λe he=>by simp at he;subst he;omega,?_⟩
     ·rcases Xo.1 he with rfl|he
      ·exact⟨a8,a8,h3⟩
      ·exact c e he
     ·rw[Xs,oE];refine⟨λy hy=>?_,a⟩;rw[List.head?_map]at hy;cases hr:r.head? with
      |none=>rw[hr]at hy;cases hy
      |some e=>rw[hr]at hy;obtain rfl:=Xk hy;exact b e hr
    ·rename_i h3;exact absurd h h3
theorem qg (h:sg fs ds=0) (c:dsz ds≤30000000) (e:(fU fs ds).length≤2000000):mg fs ds:=by
 rw[sg]at h
 split at h
 ·cases h
 ·split at h
  ·cases h
  ·rename_i h1 h2;obtain⟨a,i2,b⟩:=DD h;refine⟨dt,a8,?_,b,λd hd=>(a d hd).2.1,λd hd=>(a d hd).2.2,c,e⟩;rw[mX];intro i x hx;rw[Xd]at hx;cases hd:ds[i]? with
   |none=>rw[hd]at hx;cases hx
   |some d=>rw[hd]at hx;obtain rfl:=Xk hx;exact(a d (Yj hd)).1
theorem Sa {s c:SV}{vs:List Val} [hg:Glb G H] [hf:Sl H s eF fs] [hv:Sl H c eVl vs] (hn:fs.length≤1000000) (b:∀f∈fs,f.name.size≤1000000000) (a:vs.length≤1000000000) (e:∀v∈vs,v.2.size≤1000000000):SC G prog 113 [.agg #[s.val],c.val] H (λv d=>d=H∧((jv fs vs=0∧v=.nilIface)∨(jv fs vs≠0∧∃k,k<24∧v=G.err k))):=
 (We hn b a e).mono λv d ⟨h1,h2⟩=>⟨h2,by
   subst h1
   by_cases h:jv fs vs=0
   ·exact .inl ⟨h,by rw[h];all_goals rfl⟩
   ·refine .inr ⟨h,?_⟩;unfold YF;rw[if_neg h]
    split
    ·exact⟨0,ae,rfl⟩
    ·split
     ·exact⟨4,ae,rfl⟩
     ·split
      ·exact⟨11,ae,rfl⟩
      ·exact⟨12,ae,rfl⟩⟩
theorem JY {fv dv:SV}{l:List (Int×SV)} [hg:Glb G H] [Tab H 27 oc] [Tab H 25 mA] [hf:Sl H fv eF fs] [hd:Sl H dv eD l] [Spc H] (hT:kh G) (E:ot) (h:gK H l ds) (x:fs.length≤1000000) (n:∀f∈fs,f.name.size≤1000000000) (hn:ds.length≤1000000000) (C:∀d∈ds,d.2.length≤1000000000∧∀v∈d.2,v.2.size≤1000000000) (A:dsz ds≤30000000) (B:(fU fs ds).length≤2000000):
 SC G prog 46 [.agg #[fv.val],dv.val] H (λv z=>(sg fs ds=0∧∃s:SV,v=.tuple #[s.val,.nilIface]∧z=Row s eB (Ck fs ds)::H)∨(sg fs ds≠0∧∃k,k<24∧v=.tuple #[.slice none 0 0,G.err k]∧z=H)):=by
 have w:=h.1;refine sWk func46 ?_;refine gk (k:=bxx (k:=λb2=>?_));refine go ?_;refine c1_ rfl (AF (fs:=fs) a8 (λf hf=>by have:=n f hf;omega)) ?_;rintro _ _ ⟨rfl,(⟨hc,rfl⟩|⟨hc,rfl⟩)⟩
 ·refine e_ asn (on_ (qn_ (ws_ (wr_ (e_ mv ?_)))));refine e_ (eg rfl) ?_;refine gk (k:=ift (k:=gR ?_));exact⟨_,hsb,.inr ⟨by rw[sg,if_pos hc];decide,0,ae,rfl,rfl⟩⟩
 refine e_ asn (on_ (qn_ (ws_ (wr_ (e_ mv ?_)))));refine e_ (dL rfl) ?_;refine gk (k:=fM (k:=gW (λh1=>?_) (λh1=>?_)))
 ·have b:sg fs ds=3:=by rw[sg,if_neg (by rw[hc];decide),if_pos a8]
  refine go ?_;refine dX dN (gR ?_);exact⟨_,hsb,.inr ⟨by rw[b];decide,4,ae,rfl,rfl⟩⟩
 have b:sg fs ds=o6 fs (-1) ds:=by rw[sg,if_neg (by rw[hc];decide),if_neg a8]
 refine go ?_;refine gk (k:=e8 (Nat×Int) (λy=>y.1≤l.length∧o6 fs (-1) ds=o6 fs y.2 (ds.drop y.1)) (λy=>[(7,.int .i64 y.2),(22,iN y.1)]) [(1,_),(2,_),(20,_),(21,_)] (λy=>[]) _ (λy=>l.length-y.1) ((0, -1)) (h0:=?_) (k:=?_))
 ·exact⟨Yl _,rfl⟩
 rintro⟨i,la⟩ ⟨hi,a⟩
 try dsimp only[Yd,Ye]at*
 refine gW (λh2=>?_) λh2=>?_
 ·obtain⟨d,s,vs,hli,p,hsl⟩:=h.get (i:=i) a8;obtain⟨m,j⟩:=C _ (Yj p);rw[eh p,o6]at a;simp only at m j a;refine gk (k:=alc (k:=λb9=>?_));refine gk (k:=ep 4 34 (k:=λh3=>gk (k:=edq)) (q:=go ?_));refine gW (λh4=>?_) λh4=>?_
  ·rw[if_pos a8]at a;refine go ?_;refine dX dN (go ?_);refine rT (k:=?_);exact⟨_,hsb,.inr ⟨by rw[b,a];decide,1,ae,rfl,rfl⟩⟩
  rw[if_neg a8]at a;refine gW (λh5=>?_) λh5=>?_
  ·rw[if_pos a8]at a;refine go ?_;refine dX dN (go ?_);refine rT (k:=?_);exact⟨_,hsb,.inr ⟨by rw[b,a];decide,5,ae,rfl,rfl⟩⟩
  rw[if_neg a8]at a;refine go ?_;refine c2_ rfl (Sa x n m j) ?_;rintro _ _ ⟨rfl,(⟨e,rfl⟩|⟨e,k,hk,rfl⟩)⟩
  ·rw[if_pos e]at a;refine e_ asn (on_ (qn_ (ws_ (wr_ (e_ mv ?_)))));refine e_ (dL rfl) ?_;refine gk (k:=fM (k:=go ?_));refine lN ((i+1,d)) ?_
   exact⟨a8,a⟩
  rw[if_neg e]at a;refine e_ asn (on_ (qn_ (ws_ (wr_ (e_ mv ?_)))));refine e_ (eg rfl) ?_;refine gk (k:=ift (k:=go ?_));refine gR ?_;exact⟨_,hsb,.inr ⟨by rw[b,a];exact e,k,hk,rfl,rfl⟩⟩
 obtain rfl:i=l.length:=a8;rw[w,Vi]at a;have c:=qg (b.trans a) A B;have u:=c.size;have hfew:=c.few;refine go ?_;refine c2_ rfl (G5 (ds:=ds) hT (h.less hsb) c.flen a8 c.q u) ?_;rintro _ _ ⟨g,lv,r,zs,rfl,hzs,rfl⟩;refine c1_ rfl (RW (r:=r) (l:=l) (zs:=zs) (fs:=fs) (ds:=ds) E c (h.less hsb) hzs) ?_;rintro _ _ ⟨t,rfl,rfl⟩;refine gR ?_;exact⟨_,hsb,.inl ⟨b.trans a,t,rfl,rfl⟩⟩
end
section
variable {bl:List (Nat×List Nat)}
theorem a0e {xs:List Nat}(d:∀x∈xs,x<256) (h:mC 83 xs=some bl):∀q∈bl,(∀x∈q.2,x<256)∧q.2.length≤xs.length:=by
 obtain⟨c,_,b⟩:=Ew d h;have h1:=congrArg List.length c;rw[xZ]at h1;exact λq a=>⟨(b q a).2,by have:=uj a;omega⟩
theorem sy.at6 {F:dD}{l:List (Nat×SV)}(h:sy F l bl){i:Nat}(hi:i<bl.length):∃(p:Nat×SV) (q:Nat×List Nat),l[i]? =some p∧bl[i]? =some q∧Sl F p.2 eB q.2:=by
 obtain⟨p,hp⟩:∃p,l[i]? =some p:=⟨_,Yi (by rw[h.1];exact hi)⟩;obtain⟨q,a⟩:∃q,bl[i]? =some q:=⟨_,Yi hi⟩;exact⟨p,q,hp,a,(h.2 i p q hp a).2⟩
end
section
variable {H' R:dD}{c:CuS}{ns:List lI}
def l7:Enc Ins:=⟨λp=>[.int .i64 ((p.1:Nat):Int),.int .u64 ((p.2.1:Nat):Int),.int .u64 ((p.2.2:Nat):Int)],3,true,λ_=>rfl,λp v h=>by simp at h;rcases h with rfl|rfl|rfl <;> rfl,ae,λh=>aK,ae⟩
instance {a b c:Nat}:gP l7 (.agg [.int .i64 ((a:Nat):Int),.int .u64 ((b:Nat):Int),.int .u64 ((c:Nat):Int)].toArray) (a,b,c):=⟨rfl⟩
instance {p:Ins}:kV l7 p (.agg [.int .i64 ((p.1:Nat):Int),.int .u64 ((p.2.1:Nat):Int),.int .u64 ((p.2.2:Nat):Int)].toArray):=⟨rfl⟩
def eVV:Enc VV:=⟨λp=>[.bool p.1,.int .u64 ((p.2:Nat):Int)],2,true,λ_=>rfl,λp v h=>by simp at h;rcases h with rfl|rfl <;> rfl,ae,λh=>aK,ae⟩
instance {a:Bool}{b:Nat}:gP eVV (.agg [.bool a,.int .u64 ((b:Nat):Int)].toArray) (a,b):=⟨rfl⟩
instance {p:VV}:kV eVV p (.agg [.bool p.1,.int .u64 ((p.2:Nat):Int)].toArray):=⟨rfl⟩
def eLf:Enc (Int×ByteArray):=⟨λp=>[.int .i64 p.1,.string p.2],2,true,λ_=>rfl,λp v h=>by simp at h;rcases h with rfl|rfl <;> rfl,ae,λh=>aK,ae⟩
instance {a:Int}{b:ByteArray}:gP eLf (.agg [.int .i64 a,.string b].toArray) (a,b):=⟨rfl⟩
instance {p:Int×ByteArray}:kV eLf p (.agg [.int .i64 p.1,.string p.2].toArray):=⟨rfl⟩
abbrev NrV:=SV×SV×Int
def eNr:Enc NrV:=⟨λp=>[p.1.val,p.2.1.val,.int .i64 p.2.2],3,true,λ_=>rfl,λp v h=>by simp at h;rcases h with rfl|rfl|rfl <;> rfl,ae,λh=>aK,ae⟩
instance {a b:SV}{c:Int}:gP eNr (.agg [a.val,b.val,.int .i64 c].toArray) (a,b,c):=⟨rfl⟩
instance {p:NrV}:kV eNr p (.agg [p.1.val,p.2.1.val,.int .i64 p.2.2].toArray):=⟨rfl⟩
abbrev YU:=Int×Nat
def ll:Enc YU:=⟨λp=>[.int .i64 p.1,.int .u64 ((p.2:Nat):Int)],2,true,λ_=>rfl,λp v h=>by simp at h;rcases h with rfl|rfl <;> rfl,ae,λh=>aK,ae⟩
instance {a:Int}{b:Nat}:gP ll (.agg [.int .i64 a,.int .u64 ((b:Nat):Int)].toArray) (a,b):=⟨rfl⟩
instance {p:YU}:kV ll p (.agg [.int .i64 p.1,.int .u64 ((p.2:Nat):Int)].toArray):=⟨rfl⟩
structure PrA where
 av:SV
 cu:SV
 ne:SV
 dr:SV
 co:SV
 nz:List NrV
def DY (H:dD) (zs:List NrV) (ns:List lI):Prop:=zs.length=ns.length∧∀(i:Nat) (z:NrV) (n:lI),zs[i]? =some z→ns[i]? =some n→Sl H z.1 eI n.cs∧Sl H z.2.1 eI n.offs∧z.2.2=n.slop
theorem DY.less {H:dD}{zs:List NrV}(hs:dH H' H) (h:DY H zs ns):DY H' zs ns:=⟨h.1,λi z n a hn=>by
 obtain⟨h1,h2,h3⟩:=h.2 i z n a hn;exact⟨ee hs h1,ee hs h2,h3⟩⟩
theorem DY.get {H:dD}{zs:List NrV}(h:DY H zs ns){i:Nat}(hi:i<ns.length):∃z n,zs[i]? =some z∧ns[i]? =some n∧Sl H z.1 eI n.cs∧Sl H z.2.1 eI n.offs∧z.2.2=n.slop:=by
 have a:i<zs.length:=by rw[h.1];exact hi
 have h1:zs[i]? =some zs[i]:=Yi a;have h2:ns[i]? =some ns[i]:=Yi hi;exact⟨_,_,h1,h2,h.2 i _ _ h1 h2⟩
class il (H:dD) (a:PrA) (p:outParam PrG):Prop where
 av:Sl H a.av eI p.avgs
 cu:Sl H a.cu eLf p.curs
 ne:Sl H a.ne eNr a.nz
 nr:DY H a.nz p.nears
 dr:Sl H a.dr eI p.drive
class pk (H:dD) (a:PrA) (p:outParam PrG):Prop where
 co:Sl H a.co eB p.code
section
variable {H:dD}{a:PrA}{p:PrG}
instance il.tail {A:Hp} [h:il H a p]:il (A::H) a p:=⟨@Sl.tail _ _ _ _ _ _ h.av, @Sl.tail _ _ _ _ _ _ h.cu, @Sl.tail _ _ _ _ _ _ h.ne,h.nr.less (dH.drop dH.refl), @Sl.tail _ _ _ _ _ _ h.dr⟩
instance pk.tail {A:Hp} [h:pk H a p]:pk (A::H) a p:=⟨@Sl.tail _ _ _ _ _ _ h.co⟩
instance [h:il H a p]:Sl H a.av eI p.avgs:=h.av
instance [h:il H a p]:Sl H a.cu eLf p.curs:=h.cu
instance [h:il H a p]:Sl H a.ne eNr a.nz:=h.ne
instance [h:il H a p]:Sl H a.dr eI p.drive:=h.dr
instance [h:pk H a p]:Sl H a.co eB p.code:=h.co
theorem il.less (hs:dH H' H) (h:il H a p):il H' a p:=⟨ee hs h.av,ee hs h.cu,ee hs h.ne,h.nr.less hs,ee hs h.dr⟩
end
abbrev prV (a:PrA) (all:Bool):List Value:= [a.av.val,a.cu.val,a.ne.val,.bool all,a.dr.val,a.co.val]
structure PtA where
 p:Nat
 g:Nat
 d:Nat
 w:Nat
 fv:SV
 dv:SV
 lv:SV
 ev:SV
 bl:SV
 im:SV
 ws:SV
 cnt:Nat
 l:List (Int×SV)
 lvs:List SV
structure PtD where
 fs:List FV
 ds:List Doc
 dw:List Nat
class eN (H:dD) (a:PtA) (q:outParam PtD):Prop where
 p:dQ H a.p [.pointer (some ⟨a.g,0,none⟩),.pointer (some ⟨a.d,0,none⟩)]
 g:dQ H a.g [a.fv.val,a.dv.val,a.lv.val,.pointer (some ⟨a.w,0,none⟩),a.bl.val,a.im.val]
 d:dQ H a.d [.int .i64 ((q.ds.length:Nat):Int),.int .i64 ((a.cnt:Nat):Int),a.ws.val]
 w:dQ H a.w [a.ev.val]
 fv:Sl H a.fv eF q.fs
 dv:Sl H a.dv eD a.l
 docs:gK H a.l q.ds
 lv:Sl H a.lv eSV a.lvs
 lens:a.lvs.length=q.fs.length∧∀i s,a.lvs[i]? =some s→Sl H s eI (dT (eL q.fs q.ds i))
 ev:Sl H a.ev eEn (j8 0 (eE (fU q.fs q.ds)))
 bl:Sl H a.bl eB (eV (eE (fU q.fs q.ds)))
 ws:Sl H a.ws eW q.dw
section
variable {H:dD}{a:PtA}{q:PtD}
theorem lM {b:Nat}{l:List Value}(hs:dH H' H) (h:dQ H b l):dQ H' b l:=⟨λL hL=>by
 obtain⟨a,M,h1,h2⟩:=hs L hL;obtain⟨E,fz,hm⟩:=h.mem a h1;exact⟨E,fz,h2.mem_iff.1 (Yy M hm)⟩⟩
theorem eN.less (hs:dH H' H) (h:eN H a q):eN H' a q:=⟨lM hs h.p,lM hs h.g,lM hs h.d,lM hs h.w,ee hs h.fv,ee hs h.dv,h.docs.less hs,ee hs h.lv,⟨h.lens.1,λi s hi=>ee hs (h.lens.2 i s hi)⟩,ee hs h.ev,ee hs h.bl,ee hs h.ws⟩
instance eN.tail {A:Hp} [h:eN H a q]:eN (A::H) a q:=h.less (dH.drop dH.refl)
instance [h:eN H a q]:dQ H a.p [.pointer (some ⟨a.g,0,none⟩),.pointer (some ⟨a.d,0,none⟩)]:=h.p
instance [h:eN H a q]:dQ H a.g [a.fv.val,a.dv.val,a.lv.val,.pointer (some ⟨a.w,0,none⟩),a.bl.val,a.im.val]:=h.g
instance [h:eN H a q]:dQ H a.d [.int .i64 ((q.ds.length:Nat):Int),.int .i64 ((a.cnt:Nat):Int),a.ws.val]:=h.d
instance [h:eN H a q]:dQ H a.w [a.ev.val]:=h.w
instance [h:eN H a q]:Sl H a.fv eF q.fs:=h.fv
instance [h:eN H a q]:Sl H a.dv eD a.l:=h.dv
instance [h:eN H a q]:Sl H a.lv eSV a.lvs:=h.lv
instance [h:eN H a q]:Sl H a.ev eEn (j8 0 (eE (fU q.fs q.ds))):=h.ev
instance [h:eN H a q]:Sl H a.bl eB (eV (eE (fU q.fs q.ds))):=h.bl
instance [h:eN H a q]:Sl H a.ws eW q.dw:=h.ws
end
def LPh (lp:Option Nat) (im sk:SV) (ps:List Po):Hp:=match lp with
 |none=>eU []
 |some b=>eU [Vr b [im.val,.int .i64 ((ps.length:Nat):Int),.int .i64 ((ec ps:Nat):Int),sk.val],Row im eB (eO ps),Row sk eSk (ic ps)]
section
variable {H:dD}{b:Nat}{im sk:SV}{ps:List Po}
theorem Ix {F:dD}{l:List Value} [h:dQ F b l]:dQ (eU F::H) b l:=⟨λL hL=>by
 obtain⟨L1,L2,rfl,h1,_⟩:=tA hL;obtain⟨E,fz,hm⟩:=h.mem L1 h1;exact⟨E,fz,Yy _ hm⟩⟩
instance:dQ (LPh (some b) im sk ps::H) b [im.val,.int .i64 ((ps.length:Nat):Int),.int .i64 ((ec ps:Nat):Int),sk.val]:=Ix (F:= [Vr b [im.val,.int .i64 ((ps.length:Nat):Int),.int .i64 ((ec ps:Nat):Int),sk.val],Row im eB (eO ps),Row sk eSk (ic ps)])
instance:Sl (LPh (some b) im sk ps::H) im eB (eO ps):=Sl.star (F:= [Vr b [im.val,.int .i64 ((ps.length:Nat):Int),.int .i64 ((ec ps:Nat):Int),sk.val],Row im eB (eO ps),Row sk eSk (ic ps)])
instance:Sl (LPh (some b) im sk ps::H) sk eSk (ic ps):=Sl.star (F:= [Vr b [im.val,.int .i64 ((ps.length:Nat):Int),.int .i64 ((ec ps:Nat):Int),sk.val],Row im eB (eO ps),Row sk eSk (ic ps)])
end
structure CuA where
 lp:Option Nat
 im:SV
 sk:SV
 rd:SV
 zs:List PG
 blk:Int
def yI (ps:List Po) (zs:List PG) (blk:Int):Prop:=blk= -1∨∃k:Nat,blk=(k:Int)∧zs.map pgP=ei ps k
def Nh (c:CuS) (x:CuA):Prop:=jU c∧(x.lp=none→c.ps= [])∧yI c.ps x.zs x.blk
def lpV (lp:Option Nat):Value:=.pointer (lp.map λb=>⟨b,0,none⟩)
instance {lp:Option Nat}:uF (lpV lp):=⟨rfl⟩
def CuH (b:Nat) (c:CuS):Hp:=λL=>∃x:CuA,Nh c x∧Sep [Vr b [.int .i64 (gz c.ps c.u),.int .i64 ((c.mv:Nat):Int),lpV x.lp,.int .i64 (((c.u:Nat):Int)-1),.int .i64 x.blk,x.rd.val,.bool c.told],LPh x.lp x.im x.sk c.ps,Row x.rd ePo (x.zs.map pgV),Cl pgH x.zs] L
theorem oZ {b:Nat}{x:CuA}(h:Nh c x):dH (Vr b [.int .i64 (gz c.ps c.u),iN c.mv,lpV x.lp,.int .i64 (((c.u:Nat):Int)-1),.int .i64 x.blk,x.rd.val,.bool c.told]::LPh x.lp x.im x.sk c.ps::Row x.rd ePo (x.zs.map pgV)::Cl pgH x.zs::R) (CuH b c::R):=λL hL=>by
 obtain⟨L1,L2,rfl,h1,h2⟩:=pH (F:= [Vr b [.int .i64 (gz c.ps c.u),iN c.mv,lpV x.lp,.int .i64 (((c.u:Nat):Int)-1),.int .i64 x.blk,x.rd.val,.bool c.told],LPh x.lp x.im x.sk c.ps,Row x.rd ePo (x.zs.map pgV),Cl pgH x.zs]) hL;exact⟨L1++L2, [],⟨L1,L2,rfl,⟨x,h,h1⟩,h2⟩,aq⟩
section
variable {G:dJ}{P:Program}{N:Nat}{Q:Go.Sx.Post}{t:Tm}{H:dD}{ops:Array Oper}{l:List Oper}
theorem AE {b:Nat}(hr:Rem H CuH b c R){w:World}(a:Sat G w H):∃x:CuA,Nh c x∧Sat G w (Vr b [.int .i64 (gz c.ps c.u),iN c.mv,lpV x.lp,.int .i64 (((c.u:Nat):Int)-1),.int .i64 x.blk,x.rd.val,.bool c.told]::LPh x.lp x.im x.sk c.ps::Row x.rd ePo (x.zs.map pgV)::Cl pgH x.zs::R):=by
 obtain⟨d,L,hL,hl⟩:=hr.sat a;obtain⟨L1,L2,rfl,⟨x,hx,h1⟩,h2⟩:=hL;exact⟨x,hx,d,L1++L2,tI h1 h2,hl⟩
theorem AO (b:Nat) [hr:Rem H CuH b c R] (h:∀(lp:Option Nat) (im sk rd:SV) (zs:List PG) (blk:Int),jU c→(lp=none→c.ps= [])→yI c.ps zs blk→O G P N ops l Q t (Vr b [.int .i64 (gz c.ps c.u),iN c.mv,lpV lp,.int .i64 (((c.u:Nat):Int)-1),.int .i64 blk,rd.val,.bool c.told]::LPh lp im sk c.ps::Row rd ePo (zs.map pgV)::Cl pgH zs::R)):O G P N ops l Q t H:=
 ⟨λa w ha d=>by
   obtain⟨x,⟨h1,h2,h3⟩,h4⟩:=AE hr d;exact(h x.lp x.im x.sk x.rd x.zs x.blk h1 h2 h3).go a w ha h4⟩
end
end
section
variable {G:dJ}{H:dD}{f n op x:Nat}{l rs:List Nat}
def CX:List Value:= [.string (eG [101,110,100]),.int .i64 0,.string (eG [110,111,110,101]),.int .i64 0,.string (eG [97,108,108]),.int .i64 0,.string (eG [104,97,115]),.int .i64 1,.string (eG [116,101,114,109]),.int .i64 2,.string (eG [112,104,114,97,115,101]),.int .i64 2,.string (eG [97,110,100]),.int .i64 0,.string (eG [111,114]),.int .i64 0,.string (eG [109,97,120]),.int .i64 0,.string (eG [111,112,116]),.int .i64 0,.string (eG [101,120,99,101,112,116]),.int .i64 0,.string (eG [110,111,116]),.int .i64 0,.string (eG [115,99,97,108,101]),.int .i64 1,.string (eG [102,105,120]),.int .i64 1,.string (eG [108,101,97,115,116]),.int .i64 2,.string (eG [109,105,115,115]),.int .i64 1,.string (eG [104,105,116]),.int .i64 1]
class Isa (H:dD):Prop where
 at_:dQ H 24 CX
instance Isa.tail {A:Hp}{H:dD} [h:Isa H]:Isa (A::H):=⟨@dQ.tail _ _ _ _ h.at_⟩
instance {H:dD} [h:Isa H]:dQ H 24 CX:=h.at_
theorem Tp:∀i:Fin 17,CX[i.val*2+1]? =(nI i.val).map (λk:Nat=>iN k):=by
 intro⟨i,h⟩
 match i,h with
 | 0,_=>rfl
 | 1,_=>rfl
 | 2,_=>rfl
 | 3,_=>rfl
 | 4,_=>rfl
 | 5,_=>rfl
 | 6,_=>rfl
 | 7,_=>rfl
 | 8,_=>rfl
 | 9,_=>rfl
 | 10,_=>rfl
 | 11,_=>rfl
 | 12,_=>rfl
 | 13,_=>rfl
 | 14,_=>rfl
 | 15,_=>rfl
 | 16,_=>rfl
 |n+17,h=>exact absurd h a8
theorem A9 (h:op<17):∃k,nI op=some k∧k≤2∧CX[op*2+1]? =some (iN k):=by
 have h1:∀i:Fin 17,∃k,nI i.val=some k∧k≤2:=ae;obtain⟨k,h2,h3⟩:=h1 ⟨op,h⟩;have h4:=Tp ⟨op,h⟩;simp only at h2 h4;rw[h2]at h4;exact⟨k,h2,h3,h4⟩
theorem Aa (h:17≤op):nI op=none:=Xz h
theorem Wk [hi:Isa H]:SC G prog 84 [iN op] H (λv d=>((∃k,nI op=some k∧k≤2∧v=.tuple #[iN k,.bool true])∨(nI op=none∧v=.tuple #[.int .i64 0,.bool false]))∧d=H):=by
 refine sWk func84 ?_;refine ws_ (wr_ (e_ asn (e_ asn (on_ (qn_ (ws_ (ws_ (wr_ (e_ mv (e_ ilt (e_ mv (ep 3 9 (k:=λh1=>eg_ mv (eg_ ige (e_ pkf (on_ edq)))) (q:=on_ ?_)))))))))))));refine qn_ (wi_ (k:=λh2=>?_) (m:=λh2=>?_))
 ·have hno:=Aa (op:=op) aw;refine ws_ (wr_ (e_ asn (e_ asn (on_ (qn_ (wt_ (qr_ (rT (k:=?_)))))))));exact⟨_,hsb,.inr ⟨hno,rfl⟩,rfl⟩
 have a:op<17:=aw;obtain⟨k,c,hk2,b⟩:=A9 a;refine wk_ (qn_ (ws_ (wr_ (e_ mv ?_))));refine e_ (gI rfl rfl op rfl a) ?_;refine e_ fla ?_;refine e_ (nx rfl (v:=iN k) (by rw[show 0+op*2+1=op*2+1 from a8];exact b)) ?_;refine e_ asn (e_ asn (on_ (qn_ (wt_ (rT (k:=?_))))));exact⟨_,hsb,.inl ⟨k,c,hk2,rfl⟩,rfl⟩
def r9 (rs:List Nat) (o:Option (List Nat×List Nat)):Option (List Nat×List Nat):=o.map λp=>(rs++p.1,p.2)
theorem Ab {j v m:Nat}(h:iz 0 l=.ok (v,m)) (hj:j<n):r9 rs (mO (n-j) l)=r9 (rs++ [v]) (mO (n-(j+1)) (l.drop m)):=by
 obtain⟨d,hd⟩:∃d,n-j=d+1:=⟨n-j-1,a8⟩;rw[hd,show n-(j+1)=d from a8,mO,h];simp only[];cases mO d (l.drop m)with
 |none=>rfl
 |some p=>simp[r9]
theorem DN {j e:Nat}(h:iz 0 l=.error e) (hj:j<n):r9 rs (mO (n-j) l)=none:=by
 obtain⟨d,hd⟩:∃d,n-j=d+1:=⟨n-j-1,a8⟩;rw[hd,mO,h];all_goals rfl
theorem DA (f:Nat):lA f []=some []:=by cases f <;> rfl
theorem A0 (h:nI x=none):lA (f+1) (x::l)=none:=by rw[lA,h]
theorem zZ (h:nI x=some n) (h2:mO n l=none):lA (f+1) (x::l)=none:=by rw[lA,h];simp only[];rw[h2]
theorem Bp {vs r:List Nat}(h:nI x=some n) (h2:mO n l=some (vs,r)):lA (f+1) (x::l)=(lA f r).map (LD x vs:: ·):=by
 rw[lA,h];simp only[];rw[h2];simp only[];all_goals (cases lA f r <;> rfl)
def u7 (rs:List Ins) (o:Option (List Ins)):Option (List Ins):=o.map λp=>rs++p
theorem sZ {rs:List Ins}{x:Ins}{o:Option (List Ins)}:u7 rs (o.map (x:: ·))=u7 (rs++ [x]) o:=by cases o <;> simp[u7]
theorem KQ {b vb:Nat}(hn:n≤2) (h0:n<1→b=0) (a:n<2→vb=0) (x:Nat):LD x (([b,vb]:List Nat).take n)=(x,b,vb):=by
 match n,hn,h0,a with
 | 0,_,h0,a=>rw[h0 ae,a ae];all_goals rfl
 | 1,_,_,a=>rw[a ae];all_goals rfl
 | 2,_,_,_=>rfl
theorem G6 {s:SV}{xs:List Nat} [hg:Glb G H] [hi:Isa H] [hs:Sl H s eB xs] (hn:xs.length≤100000000) (N:∀x∈xs,x<256):SC G prog 30 [s.val] H (λv S=>(lA xs.length xs=none∧v=.tuple #[.slice none 0 0,G.err 20]∧S=H)∨(∃(s':SV) (l:List Ins),lA xs.length xs=some l∧v=.tuple #[s'.val,.nilIface]∧S=Row s' l7 l::H)):=by
 refine sWk func30 ?_;refine go ?_;refine c1_ rfl (l3 (xs:=xs) a8) ?_;rintro _ _ ⟨R,rfl,rfl⟩;refine eu (dH.nilRow (e:=l7) dH.refl) ?_;refine gk (k:=e8 (Nat×Nat×SV×(List Ins)) (λy=>y.1≤xs.length∧xs.length-y.1≤y.2.1∧lA xs.length xs=u7 y.2.2.2 (lA y.2.1 (xs.drop y.1))∧y.2.2.2.length≤y.1) (λy=>[(4,y.2.2.1.val)]) [(5,_)] (λy=>[Row y.2.2.1 l7 y.2.2.2,Rd R (xs,y.1)]) _ (λy=>xs.length-y.1) ((0,xs.length,SV.nil, [])) (h0:=?_) (k:=?_))
 ·try dsimp only
  exact⟨Yl _,a8,by rw[Va];cases lA xs.length xs <;> simp[u7],Yl _⟩
 rintro⟨k,f,u,out⟩ ⟨hk,hf,a,hol⟩
 try dsimp only[Yd,Ye]at*
 refine go ?_;refine d1_ rfl (G4 a8 a8) (gW (λh1=>?_) (λh1=>?_))
 ·obtain⟨x,hx⟩:∃x,xs[k]? =some x:=⟨_,Yi ao⟩;have hxb:=N x (Yj hx);have M:xs.drop k=x::xs.drop (k+1):=eh hx;have hkl:=(Yk.1 hx).1;obtain⟨f,rfl⟩:∃g,f=g+1:=⟨f-1,a8⟩;rw[M]at a;refine go ?_;refine d1_ rfl (G7 hx a8) (e_ mv (e_ exr (e_ exr (e_ asn (e_ asn (on_ (qn_ (ws_ (wr_ (e_ mv ?_))))))))));refine e_ (ew rfl a8) ?_;refine e_ (bld [(0,_)]) (alc (k:=λh=>?_));refine go ?_;refine c1_ rfl (Wk (op:=x)) ?_;rintro _ _ ⟨(⟨n,q,A,rfl⟩|⟨hno,rfl⟩),rfl⟩
  ·refine go ?_;refine fM (k:=go ?_);refine s_ (ek ePt [(h,1),(h,2)] bH rfl ax) ?_;rintro _ _ ⟨s41,rfl,rfl⟩;refine gk (k:=e8 (Nat×Nat×Nat×Nat) (λy=>(y.1=0∨y.1=1∨y.1=2)∧y.1≤n∧k+1≤y.2.1∧y.2.1≤xs.length∧y.2.2.1<18446744073709551616∧y.2.2.2<18446744073709551616∧(y.1<1→y.2.2.1=0)∧(y.1<2→y.2.2.2=0)∧mO n (xs.drop (k+1))=r9 (([y.2.2.1,y.2.2.2]:List Nat).take y.1) (mO (n-y.1) (xs.drop y.2.1))) (λy=>[(43,iN y.1)]) [(4,_),(5,_),(8,_),(9,_),(41,_),(42,_)] (λy=>[Rd R (xs,y.2.1),Vr h [iN x,uN y.2.2.1,uN y.2.2.2]]) _ (λy=>2-y.1) ((0,k+1,0,0)) (h0:=?_) (k:=?_))
   ·try dsimp only
    exact⟨.inl rfl,Yl _,Xl _,a8,ae,ae,λ_=>rfl,λ_=>rfl,by cases mO n (xs.drop (k+1)) <;> simp[r9]⟩
   rintro⟨j,z,i,vb⟩ ⟨hj,hjn,hkk,r,K,J,hz1,F,b⟩
   try dsimp only[Yd,Ye]at*
   have hpl:([(h,1),(h,2)]:List (Nat×Nat)).length=2:=rfl;refine gW (λh2=>?_) λh2=>?_
   ·have t:j=0∨j=1:=by have h9:=h2;omega
    have hpj:([(h,1),(h,2)]:List (Nat×Nat))[j]? =some (h,j+1):=by rcases t with rfl|rfl <;> rfl
    haveI hspl:∀v:Nat,Spl [iN x,uN i,uN vb] (j+1) [uN v] [iN x,uN (if j=0 then v else i),uN (if j=0 then vb else v)]:=λv=>by
     rcases t with rfl|rfl
     ·exact rW aq rfl
     ·exact rW aq rfl
    refine go ?_;refine gW (λh3=>?_) λh3=>?_
    ·have B:j=n:=by have h9:=h3;omega
     have c:mO n (xs.drop (k+1))=some (([i,vb]:List Nat).take n,xs.drop z):=by rw[b,B,Ui];simp[mO,r9]
     rw[Bp q c,KQ A a8 a8,sZ]at a;refine gk (k:=bm_ (k:=gk (k:=fS l7 (k:=λE=>?_))));refine app (k:=λp=>?_);refine go ?_;refine lN ((z,f,p,out++ [(x,i,vb)])) ?_
     exact⟨r,a8,a,cG⟩
    have d:j<n:=aD;refine go ?_;refine c1_ rfl (oG r a8 N) ?_;rintro _ _ (⟨e,he,rfl,rfl⟩|⟨v,m,he,rfl,rfl⟩)
    ·rw[DN he d]at b;rw[zZ q b]at a;refine e_ mv (e_ exr (e_ exr (e_ asn (e_ asn (on_ (qn_ (ws_ (ws_ (wr_ (e_ mv ?_))))))))));refine e_ (eg rfl) ?_;refine gk (k:=ift (k:=go ?_));refine dX dN (go ?_);refine gR ?_;exact⟨_,hsb,.inl ⟨a,rfl,rfl⟩⟩
    obtain⟨q1,q2,q3,T,q5,q6⟩:=k7 _ 0 v m (λy hy=>N y (Yp hy)) a8 he;rw[Yo]at T;rw[Ab he d,Vt]at b;refine e_ mv (e_ exr (e_ exr (e_ asn (e_ asn (on_ (qn_ (ws_ (ws_ (wr_ (e_ mv ?_))))))))));refine e_ (dL rfl) ?_;refine gk (k:=fM (k:=go ?_));refine go ?_;refine lN ((j+1,z+m,(if j=0 then v else i),(if j=0 then vb else v))) ?_
    try dsimp only
    rcases t with rfl|rfl
    ·exact⟨.inr (.inl rfl),d,a8,a8,by simpa using (by omega:v<18446744073709551616),by simpa using J,a8,λ_=>by simpa using F ae,by simpa using b⟩
    ·exact⟨.inr (.inr rfl),d,a8,a8,by simpa using K,by simpa using (by omega:v<18446744073709551616),a8,a8,by simpa using b⟩
   have C:j=2∧n=2:=aw;have c:mO n (xs.drop (k+1))=some (([i,vb]:List Nat).take n,xs.drop z):=by rw[b,C.1,C.2];simp[mO,r9]
   rw[Bp q c,KQ A a8 a8,sZ]at a;refine gk (k:=fS l7 (k:=λE=>?_));refine app (k:=λp=>?_);refine go ?_;refine lN ((z,f,p,out++ [(x,i,vb)])) ?_
   exact⟨r,a8,a,cG⟩
  rw[A0 hno]at a;refine go ?_;refine ift (k:=go ?_);refine dX dN (gR ?_);exact⟨_,hsb,.inl ⟨a,rfl,rfl⟩⟩
 have L:k=xs.length:=ao;rw[L,Vi,DA]at a;have w:lA xs.length xs=some out:=by rw[a];simp[u7]
 refine gR ?_;exact⟨_,hsb,.inr ⟨u,out,w,rfl,rfl⟩⟩
end
section
variable {A B h n op:Nat}{G:dJ}{H:dD}{a:PrA}{all:Bool}{p:PrG}{x:Int}
theorem BY {n:Int}:SC G prog 180 [.int .i64 x,.int .i64 n] H (λv a=>v=.bool (decide (0≤x)&&decide (x<n))∧a=H):=by
 refine sWk func180 ?_;refine gk (k:=dV 4 11 (k:=λh1=>gk (k:=edq)) (q:=go ?_));exact gZ
theorem MB (h1:1≤op) (h2:op≤5):jw (op,A,B) h=some (h+1):=by
 match op,h1,h2 with
 | 1,_,_=>rfl
 | 2,_,_=>rfl
 | 3,_,_=>rfl
 | 4,_,_=>rfl
 | 5,_,_=>rfl
theorem Fv (h1:6≤op) (h2:op≤10):jw (op,A,B) h=if 2≤h then some (h-1)else none:=by
 match op,h1,h2 with
 | 6,_,_=>rfl
 | 7,_,_=>rfl
 | 8,_,_=>rfl
 | 9,_,_=>rfl
 | 10,_,_=>rfl
theorem UH (h1:¬op=0) (h2:¬(1≤op∧op≤10)) (h3:¬op=14):jw (op,A,B) h=if 1≤h then some h else none:=by
 match op,h1,h2,h3 with
 | 0,h1,_,_=>exact absurd rfl h1
 | 1,_,h2,_=>exact absurd ae h2
 | 2,_,h2,_=>exact absurd ae h2
 | 3,_,h2,_=>exact absurd ae h2
 | 4,_,h2,_=>exact absurd ae h2
 | 5,_,h2,_=>exact absurd ae h2
 | 6,_,h2,_=>exact absurd ae h2
 | 7,_,h2,_=>exact absurd ae h2
 | 8,_,h2,_=>exact absurd ae h2
 | 9,_,h2,_=>exact absurd ae h2
 | 10,_,h2,_=>exact absurd ae h2
 | 11,_,_,_=>rfl
 | 12,_,_,_=>rfl
 | 13,_,_,_=>rfl
 | 14,_,_,h3=>exact absurd rfl h3
 |n+15,_,_,_=>rfl
def Qw (x:Ins) (h:Nat) (v:Value):Prop:=(∃h':Nat,jw x h=some h'∧v=.tuple #[.int .i64 ((h':Nat):Int),.bool true])∨(jw x h=none∧∃k:Int,v=.tuple #[.int .i64 k,.bool false])
theorem vw {x:Ins}{r:Nat}{b:Bool}{k:Int}{p:Prop} [Decidable p] (h1:jw x h=if p then some r else none) (h2:b=decide p) (h3:p→k=(r:Int)):Qw x h (.tuple #[.int .i64 k,.bool b]):=by
 by_cases hp:p
 ·left;exact⟨r,by rw[h1,if_pos hp],by rw[h2,h3 hp,Ys hp]⟩
 ·right;exact⟨by rw[h1,if_neg hp],k,by rw[h2,Yr hp]⟩
theorem NR (hh:h≤1000000000) (hA:A<18446744073709551616):SC G prog 128 [.agg #[iN op,uN A,uN B],iN h] H (λv g=>Qw (op,A,B) h v∧g=H):=by
 refine sWk func128 ?_;refine gk (k:=bxx (k:=λb2=>?_));refine e_ asn (e_ asn (on_ (qn_ (ws_ (ws_ (wr_ (e_ fla (e_ ldv (on_ (qn_ (wb_ (ld [(8,.bool (decide (1≤op∧op≤5)))] [8,9,10,11,12,13] ?_ ?_))))))))))))
 ·refine gW (λh1=>?_) λh1=>?_
  ·refine gk (k:=jne (hs:=.cons (by first|exact rfl|exact jb (by refine bq ?_;simp;omega)) (.nil)))
  refine gW (λh2=>?_) λh2=>?_
  ·refine gk (k:=jne (hs:=.cons (by first|exact rfl|exact jb (by refine bq ?_;simp;omega)) (.nil)))
  refine gW (λh3=>?_) λh3=>?_
  ·refine gk (k:=jne (hs:=.cons (by first|exact rfl|exact jb (by refine bq ?_;simp;omega)) (.nil)))
  refine gW (λh4=>?_) λh4=>?_
  ·refine gk (k:=jne (hs:=.cons (by first|exact rfl|exact jb (by refine bq ?_;simp;omega)) (.nil)))
  refine gk (k:=jne (hs:=.cons (by first|exact rfl|exact jb (by refine bq ?_;simp;omega)) (.nil)))
 refine wi_ (k:=λh5=>?_) (m:=λh5=>?_)
 ·have e:1≤op∧op≤5:=h5;refine gR ?_;exact⟨_,hsb,.inl ⟨h+1,MB e.1 e.2,rfl⟩,rfl⟩
 have e:¬(1≤op∧op≤5):=h5;refine ld [(16,.bool (decide (6≤op∧op≤10)))] [16,17,18,19,20,21] ?_ ?_
 ·refine gW (λh6=>?_) λh6=>?_
  ·refine gk (k:=jne (hs:=.cons (by first|exact rfl|exact jb (by refine bq ?_;simp;omega)) (.nil)))
  refine gW (λf=>?_) λf=>?_
  ·refine gk (k:=jne (hs:=.cons (by first|exact rfl|exact jb (by refine bq ?_;simp;omega)) (.nil)))
  refine gW (λh8=>?_) λh8=>?_
  ·refine gk (k:=jne (hs:=.cons (by first|exact rfl|exact jb (by refine bq ?_;simp;omega)) (.nil)))
  refine gW (λh9=>?_) λh9=>?_
  ·refine gk (k:=jne (hs:=.cons (by first|exact rfl|exact jb (by refine bq ?_;simp;omega)) (.nil)))
  refine gk (k:=jne (hs:=.cons (by first|exact rfl|exact jb (by refine bq ?_;simp;omega)) (.nil)))
 refine wi_ (k:=λh10=>?_) (m:=λh10=>?_)
 ·have c:6≤op∧op≤10:=h10;refine gR ?_;exact⟨_,hsb,vw (Fv c.1 c.2) (Vm.2 a8) (λ_=>a8),rfl⟩
 have c:¬(6≤op∧op≤10):=h10;refine gW (λh11=>?_) λh11=>?_
 ·have b:op=14:=by have h9:=h11;omega
  subst b;refine ws_ (ws_ (wr_ (e_ mv ?_)));refine e_ (dW 18446744073709551616 rfl rfl rfl h rfl a8) ?_;refine gW (λh12=>?_) λh12=>?_
  ·refine gR ?_;exact⟨_,hsb,.inr ⟨by show(if h<A then none else some (h-A+1))=none;rw[if_pos a8],0,rfl⟩,rfl⟩
  refine wk_ (qn_ (ws_ (wr_ (e_ mv (e_ fla (e_ ldv ?_))))));refine e_ (ew rfl a8) ?_;refine gR ?_;exact⟨_,hsb,.inl ⟨h-A+1,by show(if h<A then none else some (h-A+1))=_;rw[if_neg a8],congrArg (λk:Int=>Value.tuple #[.int .i64 k,.bool true]) a8⟩,rfl⟩
 have b:¬op=14:=bE;refine gW (λd=>?_) λd=>?_
 ·have a:op=0:=by have h9:=d;omega
  subst a;refine gR ?_;exact⟨_,hsb,vw (p:=h=1) rfl (Vm.2 a8) (λ_=>rfl),rfl⟩
 have a:¬op=0:=by have h9:=d;omega
 refine gR ?_;exact⟨_,hsb,vw (UH a a8 b) (Vm.2 a8) (λ_=>rfl),rfl⟩
theorem KU (h1:¬op=3) (h2:¬op=4) (h3:¬op=5) (h4:¬op=14):ng p (op,A,B)=true:=by
 unfold ng
 split
 ·rename_i h;exact absurd h h1
 ·rename_i h;exact absurd h h2
 ·rename_i h;exact absurd h h3
 ·rename_i h;exact absurd h h4
 ·rfl
theorem HP [hp:il H a p] (hA:A<18446744073709551616) (hB:B<18446744073709551616) (hl:p.avgs.length≤1000000000∧p.curs.length≤1000000000∧p.nears.length≤1000000000):SC G prog 129 [.agg (prV a all).toArray,.agg #[iN op,uN A,uN B]] H (λv g=>v=.bool (ng p (op,A,B))∧g=H):=by
 obtain⟨hl1,hl2,hl3⟩:=hl;have hnl:=hp.nr.1;refine sWk func129 ?_;refine gk (k:=bxx (k:=λb2=>?_));refine bxx (k:=λb3=>?_);refine go ?_;refine gW (λh1=>?_) λh1=>?_
 ·have b:op=3:=by have h9:=h1;omega
  subst b;refine ws_ (wr_ (e_ fla (e_ ldv (e_ fla (e_ ldv (e_ lnn ?_))))));refine e_ (dW 18446744073709551616 rfl rfl rfl p.avgs.length rfl a8) ?_;refine gR ?_;exact⟨_,hsb,congrArg Value.bool (Vm.2 (show _↔A<p.avgs.length from a8)),rfl⟩
 have f:¬op=3:=ao;refine gW (λh2=>?_) λh2=>?_
 ·have b:op=4:=by have h9:=h2;omega
  subst b;refine ws_ (wr_ (e_ fla (e_ ldv (e_ fla (e_ ldv (e_ lnn ?_))))));refine e_ (dW 18446744073709551616 rfl rfl rfl p.curs.length rfl a8) ?_;refine gR ?_;exact⟨_,hsb,congrArg Value.bool (Vm.2 (show _↔A<p.curs.length from a8)),rfl⟩
 have e:¬op=4:=aw;refine gW (λh3=>?_) λh3=>?_
 ·have b:op=5:=by have h9:=h3;omega
  subst b;refine ws_ (wr_ (e_ fla (e_ ldv (e_ fla (e_ ldv (e_ lnn ?_))))));refine e_ (dW 18446744073709551616 rfl rfl rfl a.nz.length rfl a8) ?_;refine gR ?_;exact⟨_,hsb,congrArg Value.bool (Vm.2 (show _↔A<p.nears.length from a8)),rfl⟩
 have d:¬op=5:=aD;refine gW (λh4=>?_) λh4=>?_
 ·have b:op=14:=by have h9:=h4;omega
  subst b;refine gk (k:=dV 4 43 (k:=λh5=>gk (k:=edq)) (q:=gk (k:=dV 6 50 (k:=λh6=>gk (k:=edq)) (q:=go ?_))));refine gR ?_;exact⟨_,hsb,congrArg Value.bool (bq dp),rfl⟩
 have c:¬op=14:=aJ;refine gR ?_;exact⟨_,hsb,by rw[KU f e d c];all_goals rfl,rfl⟩
theorem kE (h:0≤x∧x<(n:Int)):fw x n=true:=by simp[fw,h.1,h.2]
theorem jQ (h:¬(0≤x∧x<(n:Int))):fw x n=false:=by
 unfold fw
 by_cases h1:0≤x
 ·rw[Yr (λh2:x<(n:Int)=>h ⟨h1,h2⟩),Bool.and_false]
 ·rw[Yr h1,Vk]
def sG (p:PrG) (k:Int):Int:=match p.curs[k.toNat]? with
 |some x=>x.1
 |none=>0
theorem xL {n:lI}{k o:Int}{r os:List Int}:sF p n (k::r) (o::os)=(fw k p.curs.length&&fw o 2147483647&&decide (sG p k=sG p (n.cs.headD 0))&&sF p n r os):=rfl
theorem W5 {cs os:SV}{n:lI} [hp:il H a p] [hc:Sl H cs eI n.cs] [ho:Sl H os eI n.offs] (hnl:n.cs.length≤1000000000):SC G prog 181 [.agg (prV a all).toArray,.agg #[cs.val,os.val,.int .i64 n.slop]] H (λv A=>v=.bool (fQ p n)∧A=H):=by
 refine sWk func181 ?_;refine gk (k:=bxx (k:=λb2=>?_));refine bxx (k:=λb3=>?_);refine gk (k:=ep 8 19 (k:=λh1=>gk (k:=edq)) (q:=gk (k:=ep 5 25 (k:=λh2=>gk (k:=iU (vs:=[_,_]) (hc:=(BY)) (k:=eg_ mN (e_ pkf (on_ edq))))) (q:=?_))));refine gW (λh3=>?_) λh3=>?_
 ·have hno:fQ p n=false:=by
   have h9:=h3;unfold fQ
   by_cases c1:1≤n.cs.length
   ·by_cases c2:n.offs.length=n.cs.length
    ·rw[jQ a8];simp
    ·rw[Yr c2];simp
   ·rw[Yr c1];simp
  refine gR ?_;exact⟨_,hsb,cW,rfl⟩
 have hg1:1≤n.cs.length∧n.offs.length=n.cs.length∧0≤n.slop∧n.slop<2147483647:=aD;obtain⟨hg1,hg2,hg3⟩:=hg1;have r:fQ p n=sF p n n.cs n.offs:=db;obtain⟨c,d⟩:=gE n.cs 0;have t:n.cs.headD 0=c:=by rw[Q3,List.head?_eq_getElem?,d];all_goals rfl
 refine gk (k:=e8 Nat (λy=>y≤n.cs.length∧fQ p n=sF p n (n.cs.drop y) (n.offs.drop y)∧(0<y→0≤c∧c<(p.curs.length:Int))) (λy=>[(29,iN y)]) [(2,_),(3,_),(27,_),(28,_)] (λy=>[]) _ (λy=>n.cs.length-y) (0) (h0:=?_) (k:=?_))
 ·try dsimp only
  exact⟨Yl _,by rw[r];all_goals rfl,a8⟩
 rintro i ⟨hi,b,h⟩
 try dsimp only[Yd,Ye]at*
 refine gW (λh4=>?_) λh4=>?_
 ·obtain⟨k,hk⟩:=gE n.cs i;obtain⟨o,g⟩:=gE n.offs i;rw[eh hk,eh g,xL,t]at b;refine wk_ (qn_ (ws_ (wb_ (ws_ (wr_ (e_ mv (e_ ixa (e_ lel (e_ asn (e_ asn (on_ (qn_ (ws_ ?_)))))))))))));refine ws_ (wr_ (e_ mv (e_ fla (e_ ldv (e_ lnn ?_)))));refine d2_ rfl BY (e_ mN (e_ mv (ep 8 48 (k:=λh5=>eg_ fla (eg_ ldv (eg_ mv (eg_ ixa (eg_ (lel (hy:=g)) (iU (vs:=[_,_]) (hc:=(BY)) (k:=eg_ mN (e_ pkf (on_ edq))))))))) (q:=on_ (qn_ (wi_ (k:=λh6=>?_) (m:=λh6=>?_)))))))
  ·have hno:fQ p n=false:=by
    have h9:=h6;rw[b]
    by_cases c1:0≤k∧k<(p.curs.length:Int)
    ·rw[jQ (x:=o) a8];simp
    ·rw[jQ c1];simp
   refine gR ?_;exact⟨_,hsb,cW,rfl⟩
  have f:(0≤k∧k<(p.curs.length:Int))∧0≤o∧o<2147483647:=by have h9:=h6;omega
  have e:0≤c∧c<(p.curs.length:Int):=by
   rcases Un i with rfl|hi0
   ·rw[hk]at d;cases d;exact f.1
   ·exact h hi0
  rw[kE f.1,kE f.2]at b;obtain⟨x,hx⟩:=gE p.curs k.toNat;obtain⟨y,hy⟩:=gE p.curs c.toNat;have l:sG p k=x.1:=by unfold sG;rw[hx]
  have j:sG p c=y.1:=by unfold sG;rw[hy]
  have s:k=((k.toNat:Nat):Int):=a8;have w:c=((c.toNat:Nat):Int):=a8;refine go ?_;refine dX dN (as_ 0 (q:=fla) (k:=as_ 1 (q:=ldv) (k:=as_ 2 (q:=mv) (k:=as_ 3 (q:=ixa (i:=k.toNat) (hj:=s)) (k:=as_ 4 (q:=fle) (k:=as_ 5 (q:=lfl (hy:=hx)) (k:=as_ 6 (q:=fla) (k:=as_ 7 (q:=ldv) (k:=as_ 8 (q:=fla) (k:=as_ 9 (q:=ldv) (k:=as_ 10 (q:=ixa (i:=0)) (k:=as_ 11 (q:=lel (hy:=d)) (k:=as_ 12 (q:=ixa (i:=c.toNat) (hj:=w)) (k:=?_))))))))))))));refine as_ 13 (q:=fle) (k:=as_ 14 (q:=lfl (hy:=hy)) (k:=gW (λz=>?_) (λz=>?_)))
  ·have hno:fQ p n=false:=by
    have h9:=z;rw[b,l,j,Yr h9];simp
   refine gR ?_;exact⟨_,hsb,cW,rfl⟩
  have u:x.1=y.1:=z;rw[l,j,Ys u,Bool.and_true,Xv]at b;refine go ?_;refine lN (i+1) ?_
  try dsimp only
  exact⟨a8,by simpa using b,λ_=>e⟩
 obtain rfl:i=n.cs.length:=a8;rw[Vi]at b;refine gR ?_;exact⟨_,hsb,by rw[b];all_goals rfl,rfl⟩
end
section
variable {p:PrG}
structure Bz (p:PrG):Prop where
 a:p.avgs.length≤1000000000
 c:p.curs.length≤1000000000
 n:p.nears.length≤1000000000
 d:p.drive.length≤1000000000
 k:p.code.length≤100000000
 ns:∀n∈p.nears,n.cs.length≤1000000000
 ct:∀c∈p.curs,c.2.size≤1000000000
 cb:∀x∈p.code,x<256
theorem all_drop {α:Type}{f:α→Bool}{l:List α}{i:Nat}{x:α}(h:l[i]? =some x):(l.drop i).all f=(f x&&(l.drop (i+1)).all f):=by rw[eh h,List.all_cons]
theorem yk {b:Option Int}{k:Int}{r:List Int}:jq p b (k::r)=(fw k p.curs.length&&(match b with|none=>true|some x=>decide (x<k))&&jq p (some k) r):=rfl
def sE (l:List Int) (i:Nat):Option Int:=if i=0 then none else l[i-1]?
theorem ND {G:dJ}{H:dD}{a:PrA} [hp:il H a p] (hs:Bz p):SC G prog 126 [.agg (prV a p.all).toArray] H (λv L=>v=.bool (iP p)∧L=H):=by
 have hs1:=hs.a;have hs2:=hs.c;have hs3:=hs.n;have hs4:=hs.d;have hnl:=hp.nr.1;have hdef:iP p=(decide (1≤p.avgs.length)&&decide (p.avgs.length≤16)&&p.avgs.all (λa=>decide (0≤a))&&p.curs.all (λc=>fw c.1 p.avgs.length&&decide (c.2.size≤64))&&p.nears.all (fQ p)&&!(p.all&&decide (0<p.drive.length))&&jq p none p.drive):=rfl;refine sWk func126 ?_;refine gk (k:=bxx (k:=λb1=>?_));refine gk (k:=ep 5 20 (k:=λh1=>gk (k:=edq)) (q:=go ?_));refine wi_ (k:=λh2=>?_) (m:=λh2=>?_)
 ·have hno:iP p=false:=by
   have h9:=h2;rw[hdef]
   by_cases c1:1≤p.avgs.length
   ·rw[Yr (p:=p.avgs.length≤16) a8];simp
   ·rw[Yr c1];simp
  refine gR ?_;exact⟨_,hsb,cW,rfl⟩
 have hg1:1≤p.avgs.length∧p.avgs.length≤16:=aw;rw[Ys hg1.1,Ys hg1.2,Xv,Xv]at hdef;refine gk (k:=e8 Nat (λy=>y≤p.avgs.length∧p.avgs.all (λa=>decide (0≤a))=(p.avgs.drop y).all (λa=>decide (0≤a))) (λy=>[(24,iN y)]) [(1,_),(22,_),(23,_)] (λy=>[]) _ (λy=>p.avgs.length-y) (0) (h0:=?_) (k:=?_))
 ·exact⟨Yl _,bC⟩
 rintro i ⟨hi,f⟩
 try dsimp only[Yd,Ye]at*
 refine gW (λh3=>?_) λh3=>?_
 ·obtain⟨x,hx⟩:=gE p.avgs i;rw[all_drop hx]at f;refine go ?_;refine gW (λh4=>?_) λh4=>?_
  ·rw[Yr (by have h9:=h4;omega:¬0≤x),Vk]at f;rw[f]at hdef;refine gR ?_;exact⟨_,hsb,cQ,rfl⟩
  rw[Ys (by have h9:=h4;omega:0≤x),Xv]at f;refine go ?_;refine lN (i+1) ?_
  exact⟨a8,f⟩
 obtain rfl:i=p.avgs.length:=a8;rw[Vi,List.all_nil]at f;rw[f,Xv]at hdef;refine go ?_;refine gk (k:=e8 Nat (λy=>y≤p.curs.length∧p.curs.all (λc=>fw c.1 p.avgs.length&&decide (c.2.size≤64))=(p.curs.drop y).all (λc=>fw c.1 p.avgs.length&&decide (c.2.size≤64))) (λy=>[(34,iN y)]) [(1,_),(32,_),(33,_)] (λy=>[]) _ (λy=>p.curs.length-y) (0) (h0:=?_) (k:=?_))
 ·exact⟨Yl _,bC⟩
 rintro j ⟨hj,e⟩
 try dsimp only[Yd,Ye]at*
 refine gW (λh5=>?_) λh5=>?_
 ·obtain⟨x,hx⟩:=gE p.curs j;have hxs:=hs.ct x (Yj hx);rw[all_drop hx]at e;refine wk_ (qn_ (ws_ (wb_ (ws_ (wr_ (e_ ixa (e_ (gr (hy:=hx)) (alc (k:=λb6=>?_)))))))));refine go ?_;refine d2_ rfl BY (gk (k:=ep 5 50 (k:=λh6=>gk (k:=edq)) (q:=gW (λE=>?_) (λE=>?_))))
  ·have hno:(fw x.1 p.avgs.length&&decide (x.2.size≤64))=false:=by
    have h9:=E
    by_cases c1:0≤x.1∧x.1<(p.avgs.length:Int)
    ·rw[Yr a8,Bool.and_false]
    ·rw[jQ c1,Vk]
   rw[hno,Vk]at e;rw[e]at hdef;refine gR ?_;exact⟨_,hsb,cQ,rfl⟩
  have b:(fw x.1 p.avgs.length&&decide (x.2.size≤64))=true:=by
   have h9:=E;rw[kE a8,Ys a8];all_goals rfl
  rw[b,Xv]at e;refine go ?_;refine lN (j+1) ?_
  exact⟨a8,e⟩
 obtain rfl:j=p.curs.length:=a8;rw[Vi,List.all_nil]at e;rw[e,Xv]at hdef;refine go ?_;refine gk (k:=e8 Nat (λy=>y≤p.nears.length∧p.nears.all (fQ p)=(p.nears.drop y).all (fQ p)) (λy=>[(55,iN y)]) [(1,_),(53,_),(54,_)] (λy=>[]) _ (λy=>p.nears.length-y) (0) (h0:=?_) (k:=?_))
 ·exact⟨Yl _,bC⟩
 rintro k ⟨hk,d⟩
 try dsimp only[Yd,Ye]at*
 refine gW (λh8=>?_) λh8=>?_
 ·obtain⟨z,n,K,hn,s,r,l⟩:=hp.nr.get (i:=k) a8;have B:=hs.ns n (Yj hn);rw[all_drop hn]at d;obtain⟨z1,z2,z3⟩:=z;simp only at s r l;subst l;refine wk_ (qn_ (ws_ (wb_ (ws_ (wr_ (e_ ixa (e_ (gr (hy:=K)) (alc (k:=λb8=>?_)))))))));refine go ?_;refine d2_ rfl (W5 (p:=p) (n:=n) B) (gW (λh9=>?_) (λh9=>?_))
  ·have hno:fQ p n=false:=by have h9:=h9;simpa using h9
   rw[hno,Vk]at d;rw[d]at hdef;refine gR ?_;exact⟨_,hsb,cQ,rfl⟩
  have b:fQ p n=true:=by have h9:=h9;simpa using h9
  rw[b,Xv]at d;refine go ?_;refine lN (k+1) ?_
  exact⟨a8,d⟩
 obtain rfl:k=p.nears.length:=a8;rw[Vi,List.all_nil]at d;rw[d,Xv]at hdef;refine gk (k:=dV 5 71 (k:=λh10=>gk (k:=edq)) (q:=go ?_));refine wi_ (k:=λh11=>?_) (m:=λh11=>?_)
 ·have hno:(!(p.all&&decide (0<p.drive.length)))=false:=by have h9:=h11;obtain⟨c1,c2⟩:=h9;rw[c1,Ys a8];all_goals rfl
  rw[hno,Vk]at hdef;refine gR ?_;exact⟨_,hsb,cQ,rfl⟩
 have b:(!(p.all&&decide (0<p.drive.length)))=true:=by
  have h9:=h11;cases hpa:p.all with
  |false=>rfl
  |true=>rw[Yr (by rcases h9 with c1|c1;rw[hpa]at c1;cases c1;omega)];all_goals rfl
 rw[b,Xv]at hdef;refine gk (k:=e8 Nat (λy=>y≤p.drive.length∧jq p none p.drive=jq p (sE p.drive y) (p.drive.drop y)) (λy=>[(75,iN y)]) [(1,_),(73,_),(74,_)] (λy=>[]) _ (λy=>p.drive.length-y) (0) (h0:=?_) (k:=?_))
 ·try dsimp only
  exact⟨Yl _,by rw[Va];all_goals rfl⟩
 rintro m ⟨hm,hdl⟩
 try dsimp only[Yd,Ye]at*
 refine gW (λh12=>?_) λh12=>?_
 ·obtain⟨x,hx⟩:=gE p.drive m;rw[eh hx,yk]at hdl;have A:sE p.drive (m+1)=some x:=by unfold sE;rw[if_neg a8,X7,hx]
  obtain⟨w,J⟩:∃w:Int,0<m→p.drive[m-1]? =some w:=by
   rcases Un m with h9|h9
   ·exact⟨0,λh=>a8⟩
   ·exact⟨p.drive[m-1]'(a8),λ_=>Yi _⟩
  have u:(match sE p.drive m with|none=>true|some y=>decide (y<x))=(decide (m=0) ||decide (w<x)):=by
   rcases Un m with h9|h9
   ·subst h9;rfl
   ·unfold sE;rw[if_neg a8,J h9,Yr (by omega:¬m=0),Q8]
  rw[u]at hdl;refine go ?_;refine d2_ rfl BY (gk (k:=ep 13 99 (c:=decide (0<(m:Int))&&decide (x≤w)) (k:=λh14=>?_) (q:=?_)))
  ·refine gk (k:=dV 9 98 (c:=decide (x≤w)) (k:=λF=>?_) (q:=?_))
   ·have C:0<m:=by have h9:=F;omega
    have t:=J C;refine eg_ mv (eg_ fla (eg_ ldv (eg_ mv ?_)));refine eg_ (evq isb (congrArg (Value.int .i64) (show _=((m-1:Nat):Int)from a8))) ?_;refine eg_ ixa (eg_ (lel (hy:=t)) (gk (k:=edq)))
   refine gk (k:=edq)
  refine gW (λg=>?_) λg=>?_
  ·have hno:(fw x p.curs.length&&(decide (m=0) ||decide (w<x))&&jq p (some x) (p.drive.drop (m+1)))=false:=by
    have h9:=g
    by_cases c1:0≤x∧x<(p.curs.length:Int)
    ·rw[Yr (by omega:¬m=0),Yr (by omega:¬w<x),Bool.or_self,Bool.and_false,Vk]
    ·rw[jQ c1,Vk,Vk]
   rw[hno]at hdl;refine gR ?_;exact⟨_,hsb,cU,rfl⟩
  have b:(fw x p.curs.length&&(decide (m=0) ||decide (w<x)))=true:=by
   have h9:=g;rw[kE a8,Xv,Uh,Xq,Xq];omega
  rw[b,Xv,←A]at hdl;refine go ?_;refine lN (m+1) ?_
  exact⟨a8,hdl⟩
 obtain rfl:m=p.drive.length:=a8;rw[Vi]at hdl;refine gR ?_;exact⟨_,hsb,cU,rfl⟩
end
section
variable {G:dJ}{H:dD}{a:PtA}{d:Int}{l:List (Int×SV)}{n:Nat}{q:PtD}{s sd:SV}{ws:List Nat}
structure FJ (q:PtD):Prop where
 n:q.ds.length≤1048576
 f:1≤q.fs.length∧q.fs.length≤1000000000
 wl:q.dw.length=(q.ds.length+63)/64
 w:okW q.dw
theorem yn [hp:eN H a q]:a.l.length=q.ds.length:=hp.docs.1
theorem JS [hp:eN H a q]:SC G prog 102 [pA a.g,.int .i64 d] H (λv b=>v=.bool (decide (0≤d)&&decide (d<(q.ds.length:Int)))∧b=H):=by
 have hl:=yn (a:=a) (q:=q) (H:=H);refine sWk func102 ?_;refine gk (k:=dV 8 15 (k:=λh1=>gk (k:=edq)) (q:=go ?_));refine gR ?_;exact⟨_,hsb,by rw[←hl];all_goals rfl,rfl⟩
theorem Si [hp:eN H a q]:SC G prog 123 [pA a.g] H (λv b=>v=iN q.ds.length∧b=H):=by
 have hl:=yn (a:=a) (q:=q) (H:=H);refine sWk func123 ?_;refine go ?_;refine gR ?_;exact⟨_,hsb,by rw[←hl];all_goals rfl,rfl⟩
theorem Sh {g:Nat}{fv lv wv bl im:Value} [dQ H g [fv,sd.val,lv,wv,bl,im]] [Sl H sd eD l]:SC G prog 123 [pA g] H (λv a=>v=iN l.length∧a=H):=by
 refine sWk func123 ?_;refine go ?_;exact gZ
theorem Zn {d:Nat}{x:Doc} [hp:eN H a q] (hx:q.ds[d]? =some x):SC G prog 40 [pA a.g,iN d] H (λv e=>v=.tuple #[.int .i64 x.1,.bool true]∧e=H):=by
 have hl:=yn (a:=a) (q:=q) (H:=H);have hxl:=(Yk.1 hx).1;obtain⟨z,c⟩:=gE a.l d;obtain⟨b,hz2⟩:=hp.docs.2 d z x c hx;refine sWk func40 ?_;refine go ?_;refine d2_ rfl (JS (a:=a)) (gW (λh1=>?_) (λh1=>?_))
 ·have h9:=h1;exact absurd h9 aQ
 refine wk_ (qn_ (ws_ (wr_ (e_ mv (e_ nck (e_ fla (e_ ldv (e_ mv (e_ ixa (e_ fle (e_ (lfl (hy:=c)) (go ?_))))))))))));refine gR ?_;exact⟨_,hsb,by rw[←b];all_goals rfl,rfl⟩
theorem QJ {f d:Nat} [hp:eN H a q] (hf:f<q.fs.length) (hd:d<q.ds.length):SC G prog 130 [pA a.g,iN f,iN d] H (λv g=>v=.int .i64 ((((eL q.fs q.ds f).getD d 0:Nat)):Int)∧g=H):=by
 have hl:=hp.lens.1;have c:(eL q.fs q.ds f).length=q.ds.length:=du;have hil:(dT (eL q.fs q.ds f)).length=q.ds.length:=by rw[eJ,c]
 obtain⟨s,e⟩:=gE a.lvs f;haveI hsl:Sl H s eI (dT (eL q.fs q.ds f)):=hp.lens.2 f s e;have b:(dT (eL q.fs q.ds f))[d]? =some ((((eL q.fs q.ds f).getD d 0:Nat)):Int):=by
  rw[dT,Xd,Xj,Yi a8];all_goals rfl
 refine sWk func130 ?_;refine ws_ (wr_ (e_ asn (on_ (qn_ (ws_ (ws_ (wr_ (e_ mv (e_ ilt (e_ mv (ep 8 17 (k:=λh1=>eg_ mv (eg_ mv (eg_ nck (eg_ fla (eg_ ldv (eg_ lnn (eg_ ige (e_ pkf (on_ edq))))))))) (q:=e_ mv (ep 5 23 (k:=λh2=>eg_ mv (eg_ mv (iU (vs:=[_,_]) (hc:=(JS (a:=a))) (k:=eg_ mN (e_ pkf (on_ edq)))))) (q:=?_))))))))))))));refine on_ (qn_ (wi_ (k:=λh3=>?_) (m:=λh3=>?_)))
 ·exact absurd h3 aQ
 refine wk_ (qn_ (ws_ (wr_ (e_ mv (e_ nck (e_ fla (e_ ldv (e_ mv (e_ ixa (e_ (lel (hy:=e)) (e_ mv (e_ ixa (e_ (lel (hy:=b)) ?_)))))))))))));refine e_ asn (on_ (qn_ (wt_ (rT (k:=?_)))));exact⟨_,hsb,rfl,rfl⟩
theorem JM [hp:eN H a q] (d:FJ q):SC G prog 27 [pA a.g] H (λv f=>∃c:SV,v=.agg #[c.val]∧f=Row c eF q.fs::H):=by
 have b:q.fs≠ []:=by intro h9;have:=d.f;rw[h9]at this;simp at this
 refine sWk func27 ?_;refine gk (k:=alc (k:=λb2=>?_));refine go ?_;refine c1_ rfl (MJ b d.f.2) ?_;rintro _ _ ⟨e,rfl,rfl⟩;refine e_ (bld [(0,_)]) (gR ?_);exact⟨_,hsb,e,rfl,rfl⟩
theorem Wa {b c:Nat} [dQ H b [iN n,iN c,s.val]]:SC G prog 124 [pA b] H (λv a=>v=iN n∧a=H):=by
 refine sWk func124 ?_;refine go ?_;exact gZ
theorem Sj {b c:Nat} [dQ H b [iN n,iN c,s.val]] [hs:Sl H s eW ws] (hl:ws.length≤1000000):SC G prog 125 [pA b] H (λv a=>∃(b':Nat) (s':SV),v=pA b'∧a=Vr b' [iN n,iN c,s'.val]::Row s' eW ws::H):=by
 refine sWk func125 ?_;refine ws_ (wr_ (e_ asn (on_ (qn_ (ws_ ?_)))));refine wD [8,13,15] (λk H=>(k=3→dQ H b [iN n,iN c,s.val])∧(k=7→dQ H b [iN n,iN c,s.val])∧(k=12→dQ H b [iN n,iN c,s.val])) (aF 0 (k:=aF 1 (k:=aF 2 (k:=?_))));refine aN 3 rfl (λH hH=>ah) ?_;refine aF 4 (k:=aF 5 (k:=aF 6 (k:=?_)));refine aN 7 rfl (λH hH=>ar) ?_;refine aF 9 (k:=aF 10 (k:=aF 11 (k:=?_)));refine aN 12 rfl (λH hH=>by have hN:=hH.2.2 rfl;exact ldv) ?_;refine aS 8 rfl (fk eW rfl) ?_;rintro _ _ ⟨s11,rfl,rfl⟩;refine aS 13 rfl (gf rfl rfl rfl rfl ab ab) ?_;rintro _ _ ⟨s16,rfl,rfl⟩;refine af_ 14 (q:=ea λH hH=>bld [(0,_),(1,_),(2,_)]) (k:=?_);refine aS 15 rfl (x9 rfl) ?_;rintro _ _ ⟨b18,rfl,rfl⟩;refine aF 16 (k:=aZ (qn_ (wt_ (rT (k:=?_)))));exact⟨_,hsb,_,_,rfl,rfl⟩
theorem JQ {g b c:Nat}{dv fv lv wv bl im:Value} [dQ H b [iN n,iN c,s.val]] [hs:Sl H s eW ws] [dQ H g [fv,sd.val,lv,wv,bl,im]] [Sl H sd eD l] (hl:ws.length≤1000000) (hn:l.length=n):SC G prog 50 [pA g,pA b] H (λv a=>∃(p b':Nat) (s':SV),v=.tuple #[pA p,.nilIface]∧a=Vr p [pA g,pA b']::Vr b' [iN n,iN c,s'.val]::Row s' eW ws::H):=by
 refine sWk func50 ?_;refine ws_ (wr_ (e_ asn (e_ asn (on_ (qn_ (ws_ (ws_ (wr_ (e_ mv ?_)))))))));refine e_ (gu rfl) ?_;refine gW (λh1=>?_) λh1=>?_
 ·exact absurd h1 aq
 refine go ?_;refine d1_ rfl (Wa (n:=n) (c:=c) (s:=s)) (go ?_);refine d1_ rfl (Sh (sd:=sd) (l:=l) (fv:=fv) (lv:=lv) (wv:=wv) (bl:=bl) (im:=im)) (gW (λh2=>?_) (λh2=>?_))
 ·exact absurd h2 (by simp[hn])
 refine go ?_;refine c1_ rfl (Sj (n:=n) (c:=c) (s:=s) hl) ?_;rintro _ _ ⟨b31,s31,rfl,rfl⟩;refine e_ (bld [(0,_),(1,_)]) (bxx (k:=λb33=>?_));refine gR ?_;exact⟨_,hsb,_,_,_,rfl,rfl⟩
theorem Sp [hp:eN H a q] (f:FJ q):SC G prog 101 [pA a.p,.int .i64 d] H (λv h=>v=.bool (decide (0≤d)&&decide (d<(q.ds.length:Int))&&!l8 q.dw d.toNat)∧h=H):=by
 refine sWk func101 ?_;refine go ?_;refine d2_ rfl (JS (a:=a)) (sp_ mv (k:=λh1=>?_) (m:=λh1=>?_))
 ·obtain⟨e,rfl⟩:∃e:Nat,d=(e:Int):=⟨d.toNat,ao⟩;have b:e<q.ds.length:=ao;refine go ?_;refine sg_ (v2_ (RZ (n:=q.ds.length) (c:=a.cnt) (s:=a.ws) (ws:=q.dw) b f.n f.wl f.w)) (k:=?_);rintro _ _ ⟨rfl,rfl⟩;refine gR ?_;exact⟨_,hsb,by simp[jt,b],rfl⟩
 have g:(decide (0≤d)&&decide (d<(q.ds.length:Int)))=false:=by(have h9:=h1;simp;omega)
 refine gR ?_;exact⟨_,hsb,by rw[g,Vk];all_goals rfl,rfl⟩
theorem IH {i:Nat}{f:Nat→Bool}(hi:i<n):((List.range n).drop i).find? f=if f i=true then some i else((List.range n).drop (i+1)).find? f:=by
 rw[eh (l:=List.range n) (i:=i) (x:=i) (by rw[Ur hi]),List.find?_cons];all_goals (cases f i <;> rfl)
theorem Eg {e:Int} [hp:eN H a q] (g:FJ q) (hi0:e≤4294967296):SC G prog 98 [pA a.p,.int .i64 e] H (λv h=>((∃d:Nat,((List.range q.ds.length).drop e.toNat).find? (λd=>!l8 q.dw d)=some d∧v=.tuple #[iN d,.bool true])∨(((List.range q.ds.length).drop e.toNat).find? (λd=>!l8 q.dw d)=none∧v=.tuple #[.int .i64 0,.bool false]))∧h=H):=by
 have hqn:=g.n;refine sWk func98 ?_;refine ws_ (wr_ (e_ asn (e_ asn (on_ (qn_ (ws_ (ws_ (wr_ (e_ mv ?_)))))))));refine e_ (evq (nw rfl rfl) (congrArg (Value.int .i64) (show _=(e.toNat:Int)from a8))) ?_;refine gk (k:=e8 Nat (λy=>e.toNat≤y∧y≤max e.toNat q.ds.length∧((List.range q.ds.length).drop e.toNat).find? (λd=>!l8 q.dw d)=((List.range q.ds.length).drop y).find? (λd=>!l8 q.dw d)) (λy=>[(1,iN y)]) [(0,_)] (λy=>[]) _ (λy=>q.ds.length-y) e.toNat (h0:=?_) (k:=?_))
 ·exact⟨Xl _,a8,rfl⟩
 rintro i ⟨hi1,hi2,b⟩
 try dsimp only[Yd,Ye]at*
 refine go ?_;refine d1_ rfl (Si (a:=a)) (gW (λh1=>?_) (λh1=>?_))
 ·have f:i<q.ds.length:=by have h9:=h1;omega
  rw[IH f]at b;refine go ?_;refine d2_ rfl (RZ (n:=q.ds.length) (c:=a.cnt) (s:=a.ws) (ws:=q.dw) f g.n g.wl g.w) (gW (λh2=>?_) (λh2=>?_))
  ·rw[if_pos aO]at b;refine gR ?_;exact⟨_,hsb,.inl ⟨i,b,rfl⟩,rfl⟩
  rw[if_neg aO]at b;refine go ?_;refine lN (i+1) ?_
  exact⟨a8,a8,b⟩
 rw[show(List.range q.ds.length).drop i= []from S7 (by rw[List.length_range];have h9:=h1;omega),List.find?_nil]at b;refine gR ?_;exact⟨_,hsb,.inr ⟨b,rfl⟩,rfl⟩
end
section
variable {G:dJ}{H R:dD}{m:Nat}{s:SV}
structure MX where
 pa:PrA
 all:Bool
 co:SV
 pt:PtA
 cu:SV
 cs:List Nat
structure MY where
 stk:List VV
 pl:Int
 pc:Nat
 st:Nat
 vi:Nat
abbrev mV (x:MX) (s:SV) (y:MY):List Value:= [x.pa.av.val,x.pa.cu.val,x.pa.ne.val,.bool x.all,x.pa.dr.val,x.pa.co.val,x.co.val,.pointer (some ⟨x.pt.p,0,none⟩),x.cu.val,.func (.func 54) #[] #[],.func (.func 55) #[] #[],.func (.func 57) #[] #[],.func (.func 58) #[] #[],.func (.func 59) #[] #[],.func (.func 60) #[] #[],.func (.func 61) #[] #[],.func (.func 64) #[] #[],.func (.func 66) #[] #[],.func (.func 68) #[] #[],.func (.func 70) #[] #[],.func (.func 72) #[] #[],.func (.func 74) #[] #[],.func (.func 75) #[] #[],.func (.func 76) #[] #[],.func (.func 77) #[] #[],.func (.func 80) #[] #[],s.val,.int .i64 y.pl,.int .i64 ((y.pc:Nat):Int),.int .i64 ((y.st:Nat):Int),.int .i64 ((y.vi:Nat):Int)]
def Mo (m:Nat) (z:MX×MY):Hp:=Ex λs:SV=>[Vr m (mV z.1 s z.2),Row s eVV z.2.stk]
theorem mc {x:MX}{y:MY}:dH (Vr m (mV x s y)::Row s eVV y.stk::R) (Mo m (x,y)::R):=wx (K:=Mo) (i:=m) (a:=(x,y)) rfl s
theorem qQ {P:Program}{f:FuncId}{args:List Value}{K:Value→dD→Prop}{x:MX}{y:MY}(hr:Rem H Mo m (x,y) R) (h:∀s:SV,SC G P f args (Vr m (mV x s y)::Row s eVV y.stk::R) K):SC G P f args H K:=
 ⟨(h SV.nil).enter,λw a=>let ⟨s,hs⟩:=pI (K:=Mo) rfl hr a;(h s).call w hs⟩
theorem qG {x:MX}{y:MY}{a:Bool}{b:Nat} [hr:Rem H Mo m (x,y) R] (hl:y.stk.length≤1000000000):SC G prog 56 [pA m,.agg #[.bool a,uN b]] H (λv e=>v=.tuple #[]∧e=Mo m (x,{y with stk:=y.stk++ [(a,b)]})::R):=by
 refine qQ hr (λs=>?_);refine sWk func56 ?_;refine gk (k:=bxx (k:=λd=>?_));refine go ?_;refine wD [6,7,10] (λk H=>(k=4→dQ H m (mV x s y))∧(k=5→dQ H d [.bool a,uN b])) (aF 0 (k:=aF 1 (k:=aF 2 (k:=aF 3 (k:=?_)))));refine aN 4 rfl (λH hH=>ah) (go ?_);refine aS 6 rfl (fK eVV rfl rfl) ?_;rintro _ _ ⟨s10,rfl,rfl⟩;refine aS 7 rfl (gf rfl rfl rfl rfl ab ab) ?_;rintro _ _ ⟨c,rfl,rfl⟩;refine go ?_;refine aS 10 rfl (ej rfl rfl rfl) ?_;rintro _ _ ⟨rfl,rfl⟩;refine aZ (rT (k:=?_));exact⟨_,dH.trans hsb (mc (x:=x) (y:={y with stk:=y.stk++ [(a,b)]}) (s:=c)),rfl,rfl⟩
theorem As {l:List VV}(h:0<l.length):l[l.length-1]? =some (eX l):=by
 rw[eX,List.getLast?_eq_getElem?,Yi a8];all_goals rfl
theorem Ry {x:MX}{y:MY} [hm:dQ H m (mV x s y)] [hs:Sl H s eVV y.stk] (h0:0<y.stk.length) (hl:y.stk.length≤1000000000):SC G prog 79 [pA m] H (λv b=>v=.agg #[.bool (eX y.stk).1,uN ((eX y.stk).2)]∧b=H):=by
 have a:=As h0;refine sWk func79 ?_;refine gk (k:=alc (k:=λb2=>?_));refine go ?_;refine wD [12] (λk H=>(k=3→dQ H m (mV x s y))∧(k=7→dQ H m (mV x s y))∧(k=8→Sl H s eVV y.stk)∧(k=10→Sl H s eVV y.stk)∧(k=11→Sl H s eVV y.stk)) (aF 0 (k:=aF 1 (k:=aF 2 (k:=?_))));refine aN 3 rfl (λH hH=>ah) ?_;refine aF 4 (k:=aF 5 (k:=aF 6 (k:=?_)));refine aN 7 rfl (λH hH=>ar) ?_;refine aN 8 rfl (λH hH=>by have hN:=hH.2.2.1 rfl;exact lnn) ?_;refine aF 9 (k:=?_);refine aN 10 rfl (λH hH=>bu) ?_;refine aN 11 rfl (λH hH=>by have hN:=hH.2.2.2.2 rfl;exact gr (hy:=a)) ?_;refine aS 12 rfl (ej rfl rfl rfl) ?_;rintro _ _ ⟨rfl,rfl⟩;refine aZ (gR ?_);exact⟨_,hsb,rfl,rfl⟩
theorem xk {α:Type}{e:Enc α}{xs:List α}{k:Nat}(hk:k≤xs.length):dH (Row s e xs::H) (Row (s.cut e.sz 0 k) e (xs.take k)::H):=λL hL=>by
 obtain⟨L1,L2,rfl,h1,h2⟩:=hL;refine⟨L1++L2, [],⟨L1,L2,rfl,?_,h2⟩,aq⟩;rcases h1 with⟨rfl,rfl,rfl⟩|⟨b,C,E,fz,a,q2,q3,rfl,f,d,c⟩
 ·obtain rfl:k=0:=by simpa using hk
  exact .inl ⟨rfl,rfl,rfl⟩
 ·refine .inr ⟨b,C,E,fz,?_,?_,?_,rfl,?_,d,λj v hv=>c j v ?_⟩
  ·show(if s.c=0 then s.a else s.a.map (·.add (0*e.sz)))=_
   split
   ·exact a
   ·rw[a];simp[Addr.add]
  ·show k-0=(xs.take k).length;rw[Yg];omega
  ·show k-0≤s.c-0;omega
  ·show C.size=(s.c-0)*e.sz;rw[R8];exact f
  ·rw[Enc.all_take,X3]at hv
   split at hv
   ·exact hv
   ·cases hv
theorem JN {x:MX}{y:MY} [hr:Rem H Mo m (x,y) R] (h0:0<y.stk.length) (hl:y.stk.length≤1000000000):SC G prog 73 [pA m] H (λv H'=>v=.agg #[.bool (eX y.stk).1,uN ((eX y.stk).2)]∧H'=Mo m (x,{y with stk:=y.stk.dropLast})::R):=by
 refine qQ hr (λs=>?_);refine sWk func73 ?_;refine gk (k:=alc (k:=λb2=>?_));refine go ?_;refine d1_ rfl (Ry (x:=x) (y:=y) (s:=s) h0 hl) (alc (k:=λb3=>?_));refine go ?_;refine wD [14] (λk H=>(k=4→dQ H m (mV x s y))∧(k=8→dQ H m (mV x s y))∧(k=9→Sl H s eVV y.stk)∧(k=11→Sl H s eVV y.stk)) (aF 0 (k:=aF 1 (k:=aF 2 (k:=aF 3 (k:=?_)))));refine aN 4 rfl (λH hH=>ah) ?_;refine aF 5 (k:=aF 6 (k:=aF 7 (k:=?_)));refine aN 8 rfl (λH hH=>ar) ?_;refine aN 9 rfl (λH hH=>by have hN:=hH.2.2.1 rfl;exact lnn) ?_;refine aF 10 (k:=?_);refine aN 11 rfl (λH hH=>by have hN:=hH.2.2.2 rfl;exact fV rfl bH 0 (y.stk.length-1) rfl ⟨_,_,rfl,a8⟩ a8 a8) (go ?_);refine aS 14 rfl (ej rfl rfl rfl) ?_;rintro _ _ ⟨rfl,rfl⟩;refine aZ (gR ?_);refine⟨_,?_,rfl,rfl⟩;refine dH.trans (H':=Row s eVV y.stk::Vr m (mV x (s.cut 2 0 (y.stk.length-1)) y)::R) hsb ((xk (k:=y.stk.length-1) a8).trans ?_);rw[←List.dropLast_eq_take];exact dH.trans hsb (mc (x:=x) (y:={y with stk:=y.stk.dropLast}) (s:=s.cut 2 0 (y.stk.length-1)))
theorem QC {x:MX}{y:MY}{a:Bool}{op A B:Nat} [hr:Rem H Mo m (x,y) R] (hA:A≤1000000000) (hp:y.pc≤1000000000):SC G prog 78 [pA m,.bool a,.agg #[iN op,uN A,uN B]] H (λv c=>v=.tuple #[]∧c=Mo m (x,{y with pc:=if a=true then y.pc+A else y.pc})::R):=by
 refine qQ hr (λs=>?_);refine sWk func78 ?_;refine gk (k:=bxx (k:=λb=>?_));refine gW (λh1=>?_) λh1=>?_
 ·have hy:a=true:=h1;refine wD [10] (λk H=>(k=3→dQ H m (mV x s y))∧(k=5→dQ H b [iN op,uN A,uN B])) (aF 0 (k:=aF 1 (k:=aF 2 (k:=?_))));refine aN 3 rfl (λH hH=>ah) ?_;refine aF 4 (k:=?_);refine aN 5 rfl (λH hH=>aM) ?_;refine aN 6 rfl (λH hH=>ew rfl a8) (go ?_);refine aS 10 rfl (ej rfl rfl rfl) ?_;rintro _ _ ⟨rfl,rfl⟩;refine aZ (rT (k:=?_));rw[if_pos hy];exact⟨_,dH.trans hsb (mc (x:=x) (y:={y with pc:=y.pc+A}) (s:=s)),rfl,rfl⟩
 have hy:¬a=true:=bg;refine gR ?_;rw[if_neg hy];exact⟨_,dH.trans hsb (mc (x:=x) (y:=y) (s:=s)),rfl,rfl⟩
theorem Zo {x:MX}{y:MY}{op A B:Nat} [hr:Rem H Mo m (x,y) R] (h0:0<y.stk.length) (hl:y.stk.length≤1000000000):SC G prog 75 [pA m,.agg #[iN op,uN A,uN B]] H (λv e=>v=.tuple #[]∧e=Mo m (x,{y with stk:=qy y.stk λa=>if a.1=true then(true,w64 (A*262144))else(false,0)})::R):=by
 have hdl:y.stk.dropLast.length≤1000000000:=bG;refine sWk func75 ?_;refine gk (k:=bxx (k:=λb3=>?_));refine go ?_;refine d1_ rfl (JN h0 hl) ?_;refine e_ (jz (ft:=4) (off:=0) underlying128 rfl rfl rfl) ?_;refine gW (λh1=>?_) λh1=>?_
 ·have d:(eX y.stk).1=true:=h1;have c:y.stk.dropLast++ [(true,A*262144%18446744073709551616)]=qy y.stk λa=>if a.1=true then(true,w64 (A*262144))else(false,0):=by rw[qy,if_pos d];all_goals rfl
  refine wr_ (e_ mv (e_ fla (e_ ldv ?_)));refine e_ (nZ 18446744073709551616 rfl rfl rfl rfl _ 262144 rfl rfl) ?_;refine e_ (bld [(0,_),(1,_)]) ?_;refine d2_ rfl (qG hdl) (gR ?_);rw[←c];exact⟨_,hsb,rfl,rfl⟩
 have d:¬(eX y.stk).1=true:=bg;have c:y.stk.dropLast++ [(false,0)]=qy y.stk λa=>if a.1=true then(true,w64 (A*262144))else(false,0):=by rw[qy,if_neg d]
 refine wr_ (e_ mv (e_ (bld []) ?_));refine d2_ rfl (qG (a:=false) (b:=0) hdl) (gR ?_);rw[←c];exact⟨_,hsb,rfl,rfl⟩
end
section
variable {a b:VV}
abbrev vvV (a:VV):Value:=.agg [.bool a.1,.int .u64 ((a.2:Nat):Int)].toArray
abbrev oN (op A B:Nat):Value:=.agg [.int .i64 ((op:Nat):Int),.int .u64 ((A:Nat):Int),.int .u64 ((B:Nat):Int)].toArray
theorem tF4 {G:dJ}{H:dD}:SC G prog 63 [vvV a,vvV b] H (λv c=>v=.tuple #[.bool ((a.1&&b.1,w64 (a.2+b.2)):VV).1,.int .u64 ((((a.1&&b.1,w64 (a.2+b.2)):VV).2:Nat):Int)]∧c=H):=by
 refine sWk func63 ?_;refine gk (k:=bxx (k:=λb2=>?_));refine bxx (k:=λb3=>?_);refine go ?_;refine dX dN (as_ 0 (q:=fla) (k:=as_ 1 (q:=ldv) (k:=?_)));refine fH 2 rfl rfl aa rfl (ey mv) (λh1=>?_) (λh1=>?_)
 ·replace h1:=nrm h1;refine at2 3 (q:=fla) (k:=at2 4 (q:=ldv) (k:=as_ 5 (q:=pkt) (k:=as_ 6 (q:=fla) (k:=as_ 7 (q:=ldv) (k:=as_ 8 (q:=fla) (k:=as_ 9 (q:=ldv) (k:=?_)))))));refine dS 10 rfl rfl aa rfl (ey ((ay))) ?_;refine gR ?_;exact⟨_,hsb,by(cases ha:a.1 <;> simp_all [jt,w64]),rfl⟩
 replace h1:=nrm h1;refine ao_ 3 (k:=ao_ 4 (k:=as_ 5 (q:=pkf) (k:=as_ 6 (q:=fla) (k:=as_ 7 (q:=ldv) (k:=as_ 8 (q:=fla) (k:=as_ 9 (q:=ldv) (k:=?_)))))));refine dS 10 rfl rfl aa rfl (ey ((ay))) ?_;refine gR ?_;exact⟨_,hsb,by(cases ha:a.1 <;> simp_all [jt,w64]),rfl⟩
theorem tF5 {G:dJ}{H:dD}:SC G prog 65 [vvV a,vvV b] H (λv c=>v=.tuple #[.bool ((a.1 ||b.1,w64 (a.2+b.2)):VV).1,.int .u64 ((((a.1 ||b.1,w64 (a.2+b.2)):VV).2:Nat):Int)]∧c=H):=by
 refine sWk func65 ?_;refine gk (k:=bxx (k:=λb2=>?_));refine bxx (k:=λb3=>?_);refine go ?_;refine dX dN (as_ 0 (q:=fla) (k:=as_ 1 (q:=ldv) (k:=?_)));refine fH 2 rfl rfl aa rfl (ey mv) (λh1=>?_) (λh1=>?_)
 ·replace h1:=nrm h1;refine ao_ 3 (k:=ao_ 4 (k:=as_ 5 (q:=pkt) (k:=as_ 6 (q:=fla) (k:=as_ 7 (q:=ldv) (k:=as_ 8 (q:=fla) (k:=as_ 9 (q:=ldv) (k:=?_)))))));refine dS 10 rfl rfl aa rfl (ey ((ay))) ?_;refine gR ?_;exact⟨_,hsb,by(cases ha:a.1 <;> simp_all [jt,w64]),rfl⟩
 replace h1:=nrm h1;refine at2 3 (q:=fla) (k:=at2 4 (q:=ldv) (k:=as_ 5 (q:=pkf) (k:=as_ 6 (q:=fla) (k:=as_ 7 (q:=ldv) (k:=as_ 8 (q:=fla) (k:=as_ 9 (q:=ldv) (k:=?_)))))));refine dS 10 rfl rfl aa rfl (ey ((ay))) ?_;refine gR ?_;exact⟨_,hsb,by(cases ha:a.1 <;> simp_all [jt,w64]),rfl⟩
theorem tF6 {G:dJ}{H:dD}:SC G prog 67 [vvV a,vvV b] H (λv c=>v=.tuple #[.bool ((a.1 ||b.1,max a.2 b.2):VV).1,.int .u64 ((((a.1 ||b.1,max a.2 b.2):VV).2:Nat):Int)]∧c=H):=by
 refine sWk func67 ?_;refine gk (k:=bxx (k:=λb2=>?_));refine bxx (k:=λb3=>?_);refine go ?_;refine dX dN (as_ 0 (q:=fla) (k:=as_ 1 (q:=ldv) (k:=?_)));refine fH 2 rfl rfl aa rfl (ey mv) (λh1=>?_) (λh1=>?_)
 ·replace h1:=nrm h1;refine ao_ 3 (k:=ao_ 4 (k:=as_ 5 (q:=pkt) (k:=as_ 6 (q:=fla) (k:=as_ 7 (q:=ldv) (k:=as_ 8 (q:=fla) (k:=as_ 9 (q:=ldv) (k:=?_)))))));refine dS 10 rfl rfl aa rfl (ey (evq (nw rfl rfl) (congrArg (Value.int .u64) (show _=((max a.2 b.2:Nat):Int)from a8)))) ?_;refine gR ?_;exact⟨_,hsb,by(cases ha:a.1 <;> simp_all [jt,w64]),rfl⟩
 replace h1:=nrm h1;refine at2 3 (q:=fla) (k:=at2 4 (q:=ldv) (k:=as_ 5 (q:=pkf) (k:=as_ 6 (q:=fla) (k:=as_ 7 (q:=ldv) (k:=as_ 8 (q:=fla) (k:=as_ 9 (q:=ldv) (k:=?_)))))));refine dS 10 rfl rfl aa rfl (ey (evq (nw rfl rfl) (congrArg (Value.int .u64) (show _=((max a.2 b.2:Nat):Int)from a8)))) ?_;refine gR ?_;exact⟨_,hsb,by(cases ha:a.1 <;> simp_all [jt,w64]),rfl⟩
theorem tF7 {G:dJ}{H:dD}:SC G prog 69 [vvV a,vvV b] H (λv c=>v=.tuple #[.bool ((a.1,w64 (a.2+b.2)):VV).1,.int .u64 ((((a.1,w64 (a.2+b.2)):VV).2:Nat):Int)]∧c=H):=by
 refine sWk func69 ?_;refine gk (k:=bxx (k:=λb2=>?_));refine bxx (k:=λb3=>?_);refine go ?_;refine dX dN (as_ 0 (q:=fla) (k:=as_ 1 (q:=ldv) (k:=as_ 2 (q:=fla) (k:=as_ 3 (q:=ldv) (k:=as_ 4 (q:=fla) (k:=as_ 5 (q:=ldv) (k:=?_)))))));refine dS 6 rfl rfl aa rfl (ey ((ay))) ?_;exact gZ
theorem tF8 {G:dJ}{H:dD}:SC G prog 71 [vvV a,vvV b] H (λv c=>v=.tuple #[.bool ((a.1&&!b.1,a.2):VV).1,.int .u64 ((((a.1&&!b.1,a.2):VV).2:Nat):Int)]∧c=H):=by
 refine sWk func71 ?_;refine gk (k:=bxx (k:=λb2=>?_));refine bxx (k:=λb3=>?_);refine go ?_;refine dX dN (as_ 0 (q:=fla) (k:=as_ 1 (q:=ldv) (k:=?_)));refine fH 2 rfl rfl aa rfl (ey mv) (λh1=>?_) (λh1=>?_)
 ·replace h1:=nrm h1;refine gR ?_;exact⟨_,hsb,by(cases ha:a.1 <;> simp_all [jt,w64]),rfl⟩
 replace h1:=nrm h1;refine gR ?_;exact⟨_,hsb,by(cases ha:a.1 <;> simp_all [jt,w64]),rfl⟩
theorem JJ {G:dJ}{H R:dD}{m g:Nat}{x:MX}{y:MY}{f:VV→VV→VV} [hr:Rem H Mo m (x,y) R] (hf:∀(H:dD) (a b:VV),SC G prog g [vvV a,vvV b] H (λv h=>v=.tuple #[.bool (f a b).1,uN ((f a b).2)]∧h=H)) (h2:2≤y.stk.length) (hl:y.stk.length≤1000000000):SC G prog 62 [pA m,.func (.func g) #[] #[]] H (λv h=>v=.tuple #[]∧h=Mo m (x,{y with stk:=mi y.stk f})::R):=by
 have e:y.stk.dropLast.length=y.stk.length-1:=X1;have hd2:y.stk.dropLast.dropLast.length=y.stk.length-2:=by rw[X1,e];omega
 refine sWk func62 ?_;refine go ?_;refine d1_ rfl (JN a8 hl) (alc (k:=λb4=>?_));refine go ?_;refine d1_ rfl (JN (y:={y with stk:=y.stk.dropLast}) (by show 0<y.stk.dropLast.length;omega) (by show y.stk.dropLast.length≤_;omega)) (alc (k:=λb5=>?_));refine go ?_;refine s_ (qM (fi:= []) (ca:= []) (vs:= [_,_]) rfl rfl (hf _ (eX y.stk.dropLast) (eX y.stk))) ?_;rintro _ _ ⟨rfl,rfl⟩;refine go ?_;refine wi_ (k:=λh1=>?_) (m:=λh1=>?_)
 ·have d:¬(f (eX y.stk.dropLast) (eX y.stk)).1=true:=by have h9:=h1;simpa using h9
  have c:y.stk.dropLast.dropLast++ [((f (eX y.stk.dropLast) (eX y.stk)).1,0)]=mi y.stk f:=by rw[mi];simp only[if_neg d]
  refine wr_ (e_ asn (on_ (qn_ (wr_ (e_ mv (e_ mv (e_ mv (e_ (bld [(0,_),(1,_)]) ?_))))))));refine d2_ rfl (qG (y:={y with stk:=y.stk.dropLast.dropLast}) (by show y.stk.dropLast.dropLast.length≤_;omega)) (gR ?_);rw[←c];exact⟨_,hsb,rfl,rfl⟩
 have d:(f (eX y.stk.dropLast) (eX y.stk)).1=true:=bg;have c:y.stk.dropLast.dropLast++ [((f (eX y.stk.dropLast) (eX y.stk)).1,(f (eX y.stk.dropLast) (eX y.stk)).2)]=mi y.stk f:=by rw[mi];simp only[if_pos d]
 refine wk_ (qn_ (wr_ (e_ mv (e_ mv (e_ mv (e_ (bld [(0,_),(1,_)]) ?_))))));refine d2_ rfl (qG (y:={y with stk:=y.stk.dropLast.dropLast}) (by show y.stk.dropLast.dropLast.length≤_;omega)) (gR ?_);rw[←c];exact⟨_,hsb,rfl,rfl⟩
theorem QB {G:dJ}{H R:dD}{m:Nat}{x:MX}{y:MY} [hr:Rem H Mo m (x,y) R] (h0:0<y.stk.length) (hl:y.stk.length≤1000000000):SC G prog 79 [pA m] H (λv a=>v=vvV (eX y.stk)∧a=Mo m (x,y)::R):=
 qQ hr (λs=>SC.out ((Ry (x:=x) (y:=y) (s:=s) h0 hl).mono (λv a h=>⟨_,by rw[h.2];exact mc,h.1,rfl⟩)))
theorem tO1 {G:dJ}{H:dD}{m op A B:Nat}:SC G prog 54 [pA m,oN op A B] H (λv a=>v=.tuple #[]∧a=H):=by
 refine sWk func54 ?_;refine gk (k:=bxx (k:=λb3=>?_));exact gZ
section
variable {G:dJ}{H R:dD}{m op A B:Nat}{x:MX}{y:MY}
theorem tO2 [hr:Rem H Mo m (x,y) R] (hl:y.stk.length≤1000000000):SC G prog 55 [pA m,oN op A B] H (λv c=>v=.tuple #[]∧c=Mo m (x,{y with stk:=y.stk++ [(false,0)]})::R):=by
 refine sWk func55 ?_;refine gk (k:=bxx (k:=λb3=>?_));refine on_ (qn_ (wr_ (e_ mv (e_ (bld []) ?_))));refine d2_ rfl (qG (a:=false) (b:=0) hl) (gR ?_);exact⟨_,hsb,rfl,rfl⟩
theorem tO3 [hr:Rem H Mo m (x,y) R] (hl:y.stk.length≤1000000000):SC G prog 57 [pA m,oN op A B] H (λv c=>v=.tuple #[]∧c=Mo m (x,{y with stk:=y.stk++ [(true,262144)]})::R):=by
 refine sWk func57 ?_;refine gk (k:=bxx (k:=λb3=>?_));refine on_ (qn_ (wr_ (e_ mv (e_ (bld [(0,_),(1,_)]) ?_))));refine d2_ rfl (qG (a:=true) (b:=262144) hl) (gR ?_);exact⟨_,hsb,rfl,rfl⟩
theorem tO6 [hr:Rem H Mo m (x,y) R] (h2:2≤y.stk.length) (hl:y.stk.length≤1000000000):SC G prog 61 [pA m,oN op A B] H (λv c=>v=.tuple #[]∧c=Mo m (x,{y with stk:=mi y.stk λa b=>(a.1&&b.1,w64 (a.2+b.2))})::R):=by
 refine sWk func61 ?_;refine gk (k:=bxx (k:=λb3=>?_));refine go ?_;refine d2_ rfl (JJ (f:=λa b=>(a.1&&b.1,w64 (a.2+b.2))) (λH a b=>tF4) h2 hl) (gR ?_);exact⟨_,hsb,rfl,rfl⟩
theorem tO7 [hr:Rem H Mo m (x,y) R] (h2:2≤y.stk.length) (hl:y.stk.length≤1000000000):SC G prog 64 [pA m,oN op A B] H (λv c=>v=.tuple #[]∧c=Mo m (x,{y with stk:=mi y.stk λa b=>(a.1 ||b.1,w64 (a.2+b.2))})::R):=by
 refine sWk func64 ?_;refine gk (k:=bxx (k:=λb3=>?_));refine go ?_;refine d2_ rfl (JJ (f:=λa b=>(a.1 ||b.1,w64 (a.2+b.2))) (λH a b=>tF5) h2 hl) (gR ?_);exact⟨_,hsb,rfl,rfl⟩
theorem tO8 [hr:Rem H Mo m (x,y) R] (h2:2≤y.stk.length) (hl:y.stk.length≤1000000000):SC G prog 66 [pA m,oN op A B] H (λv c=>v=.tuple #[]∧c=Mo m (x,{y with stk:=mi y.stk λa b=>(a.1 ||b.1,max a.2 b.2)})::R):=by
 refine sWk func66 ?_;refine gk (k:=bxx (k:=λb3=>?_));refine go ?_;refine d2_ rfl (JJ (f:=λa b=>(a.1 ||b.1,max a.2 b.2)) (λH a b=>tF6) h2 hl) (gR ?_);exact⟨_,hsb,rfl,rfl⟩
theorem tO9 [hr:Rem H Mo m (x,y) R] (h2:2≤y.stk.length) (hl:y.stk.length≤1000000000):SC G prog 68 [pA m,oN op A B] H (λv c=>v=.tuple #[]∧c=Mo m (x,{y with stk:=mi y.stk λa b=>(a.1,w64 (a.2+b.2))})::R):=by
 refine sWk func68 ?_;refine gk (k:=bxx (k:=λb3=>?_));refine go ?_;refine d2_ rfl (JJ (f:=λa b=>(a.1,w64 (a.2+b.2))) (λH a b=>tF7) h2 hl) (gR ?_);exact⟨_,hsb,rfl,rfl⟩
theorem Zm [hr:Rem H Mo m (x,y) R] (h2:2≤y.stk.length) (hl:y.stk.length≤1000000000):SC G prog 70 [pA m,oN op A B] H (λv c=>v=.tuple #[]∧c=Mo m (x,{y with stk:=mi y.stk λa b=>(a.1&&!b.1,a.2)})::R):=by
 refine sWk func70 ?_;refine gk (k:=bxx (k:=λb3=>?_));refine go ?_;refine d2_ rfl (JJ (f:=λa b=>(a.1&&!b.1,a.2)) (λH a b=>tF8) h2 hl) (gR ?_);exact⟨_,hsb,rfl,rfl⟩
theorem Zl [hr:Rem H Mo m (x,y) R] (h0:0<y.stk.length) (hl:y.stk.length≤1000000000):SC G prog 72 [pA m,oN op A B] H (λv c=>v=.tuple #[]∧c=Mo m (x,{y with stk:=qy y.stk λa=>(!a.1,0)})::R):=by
 have hdl:y.stk.dropLast.length≤1000000000:=bG;refine sWk func72 ?_;refine gk (k:=bxx (k:=λb3=>?_));refine go ?_;refine d1_ rfl (JN h0 hl) ?_;refine e_ (jz (ft:=4) (off:=0) underlying128 rfl rfl rfl) ?_;refine e_ mN (e_ (bld [(0,_),(1,_)]) ?_);refine d2_ rfl (qG (y:={y with stk:=y.stk.dropLast}) (b:=0) hdl) (gR ?_);rw[←show y.stk.dropLast++ [(!(eX y.stk).1,0)]=qy y.stk (λa=>(!a.1,0))from rfl];exact⟨_,hsb,rfl,rfl⟩
theorem Zk [hr:Rem H Mo m (x,y) R] (h0:0<y.stk.length) (hl:y.stk.length≤1000000000):SC G prog 74 [pA m,oN op A B] H (λv c=>v=.tuple #[]∧c=Mo m (x,{y with stk:=qy y.stk λa=>(a.1,w64 (a.2*A))})::R):=by
 have hdl:y.stk.dropLast.length≤1000000000:=bG;refine sWk func74 ?_;refine gk (k:=bxx (k:=λb3=>?_));refine go ?_;refine d1_ rfl (JN h0 hl) (alc (k:=λb4=>?_));refine sto (k:=on_ (qn_ (wr_ (e_ mv (e_ fla (e_ ldv (e_ fla (e_ ldv (e_ fla (e_ ldv ?_))))))))));refine e_ (nZ 18446744073709551616 rfl rfl rfl rfl _ _ rfl rfl) ?_;refine e_ (bld [(0,_),(1,_)]) ?_;refine d2_ rfl (qG (y:={y with stk:=y.stk.dropLast}) (b:=w64 ((eX y.stk).2*A)) hdl) (gR ?_);rw[←show y.stk.dropLast++ [((eX y.stk).1,w64 ((eX y.stk).2*A))]=qy y.stk (λa=>(a.1,w64 (a.2*A)))from rfl];exact⟨_,hsb,rfl,rfl⟩
theorem Zj [hr:Rem H Mo m (x,y) R] (h0:0<y.stk.length) (hl:y.stk.length≤1000000000) (hA:A≤1000000000) (hp:y.pc≤1000000000):SC G prog 77 [.pointer (some ⟨m,0,none⟩),oN op A B] H (λv H'=>v=.tuple #[]∧H'=Mo m (x,{y with pc:=if(eX y.stk).1=true then y.pc else y.pc+A})::R):=by
 refine sWk func77 ?_
 refine ws_ (wr_ (bxx (k:=λb3=>?_)))
 refine on_ (qn_ (?_))
 refine Rs dN (λi=>[2,6].contains i) (λk H=>(k=5→dQ H b3 [.int .i64 ((op:Nat):Int),.int .u64 ((A:Nat):Int),.int .u64 ((B:Nat):Int)])) (af_ 0 (q:=ea λH hH=>mv) (k:=af_ 1 (q:=ea λH hH=>mv) (k:=?_)))
 refine dS 5 rfl rfl (aa) rfl (ea λH hH=>by have hN:=hH rfl;exact lds) (?_)
 refine kg 2 rfl (aa) rfl (λk hk=>λhi=>bm) (lU (vs:= [_]) rfl (QB h0 hl)) ?_
 rintro _ _ ⟨rfl,rfl⟩
 refine dS 3 rfl rfl (aa) rfl (ea λH hH=>jz (ft:=4) (off:=0) underlying128 rfl rfl rfl) (?_)
 refine af_ 4 (q:=ea λH hH=>mN) (k:=?_)
 refine kg 6 rfl (aa) rfl (λk hk=>λhi=>bm) (lU (vs:= [_,_,_]) rfl (QC hA hp)) ?_
 rintro _ _ ⟨rfl,rfl⟩
 refine FF (aa) (λk hk=>λhi=>absurd hk (aB)) (rt_ results77 (k:=?_))
 have hst:(if(!(eX y.stk).1)=true then y.pc+A else y.pc)=(if(eX y.stk).1=true then y.pc else y.pc+A):=by cases(eX y.stk).1 <;> rfl
 rw[←hst];exact⟨_,hsb,rfl,rfl⟩
theorem Zi [hr:Rem H Mo m (x,y) R] (h0:0<y.stk.length) (hl:y.stk.length≤1000000000) (hA:A≤1000000000) (hp:y.pc≤1000000000):SC G prog 80 [.pointer (some ⟨m,0,none⟩),oN op A B] H (λv H'=>v=.tuple #[]∧H'=Mo m (x,{y with pc:=if(eX y.stk).1=true then y.pc+A else y.pc})::R):=by
 refine sWk func80 ?_
 refine gk (k:=bxx (k:=λb3=>?_))
 refine go ?_
 refine Rs dN (λi=>[2,5].contains i) (λk H=>(k=4→dQ H b3 [.int .i64 ((op:Nat):Int),.int .u64 ((A:Nat):Int),.int .u64 ((B:Nat):Int)])) (af_ 0 (q:=ea λH hH=>mv) (k:=af_ 1 (q:=ea λH hH=>mv) (k:=?_)))
 refine dS 4 rfl rfl (aa) rfl (ea λH hH=>by have hN:=hH rfl;exact lds) (?_)
 refine kg 2 rfl (aa) rfl (λk hk=>λhi=>bm) (lU (vs:= [_]) rfl (QB h0 hl)) ?_
 rintro _ _ ⟨rfl,rfl⟩
 refine dS 3 rfl rfl (aa) rfl (ea λH hH=>jz (ft:=4) (off:=0) underlying128 rfl rfl rfl) (?_)
 refine kg 5 rfl (aa) rfl (λk hk=>λhi=>bm) (lU (vs:= [_,_,_]) rfl (QC hA hp)) ?_
 rintro _ _ ⟨rfl,rfl⟩
 refine FF (aa) (λk hk=>λhi=>absurd hk (aB)) (rt_ results80 (k:=?_))
 exact⟨_,hsb,rfl,rfl⟩
end
end
section
variable {G:dJ}{H:dD}{a:PrA}{h i n op:Nat}{p:PrG}{tb:Hs}{x:Ins}
theorem Hu:∀(n:Nat) (l vs r:List Nat),(∀x∈l,x<256)→mO n l=some (vs,r)→(∀v∈vs,v<18446744073709551616)∧(∀x∈r,x<256)∧r.length≤l.length
 | 0,l,vs,r,hb,h=>by cases h;exact⟨aq,hb,Xl _⟩
 |n+1,l,vs,r,hb,h=>by
  rw[mO]at h
  split at h
  ·cases h
  ·rename_i v m hv;obtain⟨e,p2,p3,p4,p5,p6⟩:=k7 l 0 v m hb a8 hv
   split at h
   ·cases h
   ·rename_i ws r2 a;cases h;obtain⟨d,c,b⟩:=Hu n _ _ _ (λx hx=>hb x (Yp hx)) a;refine⟨λx hx=>?_,c,by rw[Yo]at b;omega⟩;rcases Xo.1 hx with rfl|hx
    ·exact e
    ·exact d x hx
theorem GX {vs:List Nat}{M:Nat}(h:∀v∈vs,v<M) (a:0<M) (i:Nat):vs.getD i 0<M:=by
 rw[Xj];cases hc:vs[i]? with
 |none=>exact a
 |some q=>exact h q (Yj hc)
theorem wG:∀(n:Nat) (l:List Nat) (xs:List Ins),(∀x∈l,x<256)→lA n l=some xs→(∀x∈xs,x.2.1<18446744073709551616∧x.2.2<18446744073709551616)∧xs.length≤l.length
 | 0,l,xs,hb,h=>by cases h;exact⟨aq,Yl _⟩
 |n+1, [],xs,hb,h=>by cases h;exact⟨aq,Yl _⟩
 |n+1,op::l,xs,hb,h=>by
  rw[lA]at h
  split at h
  ·cases h
  ·rename_i m hm
   split at h
   ·cases h
   ·rename_i vs r hv;obtain⟨a,c,q3⟩:=Hu m _ _ _ (λx hx=>hb x (by simp[hx])) hv
    split at h
    ·cases h
    ·rename_i ys hy;cases h;obtain⟨b,s2⟩:=wG n _ _ c hy;refine⟨λx hx=>?_,by simp only[Yb];omega⟩;rcases Xo.1 hx with rfl|hx
     ·exact⟨GX a ae 0,GX a ae 1⟩
     ·exact b x hx
theorem YK {a:List Ins}{f h0:Nat}(hx:a.getD i (0,0,0)=x) (hh:tb.getD i none=some h0):jr p a (f+1) i tb=(match jw x h0 with
 |none=>none
 |some h=>if decide (i+1=a.length)=decide (x.1=0)∧ng p x=true then
  if i+1=a.length then some tb else
  match kD tb (i+1) h with
  |none=>none
  |some tb1=>if sX x=true then
   if a.length-2-i<x.2.1 then none else
   match kD tb1 (i+1+x.2.1) h with
   |none=>none
   |some tb2=>jr p a f (i+1) tb2
   else jr p a f (i+1) tb1
  else none):=by rw[jr,hx,hh];all_goals rfl
theorem Hc {v:Value}(he:Qw x h v):∃(k:Int) (b:Bool),(b=true→∃a:Nat,jw x h=some a∧k=(a:Int))∧(b=false→jw x h=none)∧v=.tuple #[.int .i64 k,.bool b]:=by
 rcases he with⟨a,h1,h2⟩|⟨h1,k,h2⟩
 ·exact⟨_,true,λ_=>⟨a,h1,rfl⟩,λh=>(bx),h2⟩
 ·exact⟨k,false,λh=>(bx),λ_=>h1,h2⟩
theorem JV {A B:Nat}(hh:h≤1000000000) (hA:A<18446744073709551616):SC G prog 128 [.agg #[iN op,uN A,uN B],iN h] H (λv c=>(∃(k:Int) (b:Bool),(b=true→∃a:Nat,jw (op,A,B) h=some a∧k=(a:Int))∧(b=false→jw (op,A,B) h=none)∧v=.tuple #[.int .i64 k,.bool b])∧c=H):=
 (NR hh hA).mono (λ_ _ h=>⟨Hc h.1,h.2⟩)
theorem Hb {a:Nat}(he:jw x h=some a):a≤h+1:=by
 obtain⟨op,A,B⟩:=x
 by_cases h1:1≤op∧op≤5
 ·rw[MB h1.1 h1.2]at he;cases he;exact Xl _
 by_cases h2:6≤op∧op≤10
 ·rw[Fv h2.1 h2.2]at he;split at he;cases he;omega;cases he
 by_cases h3:op=14
 ·subst h3;simp only[jw]at he;split at he;cases he;cases he;omega
 by_cases h4:op=0
 ·subst h4;simp only[jw]at he;split at he;cases he;omega;cases he
 ·rw[UH h4 a8 h3]at he;split at he;cases he;omega;cases he
theorem tV {a:Hs}(he:kD tb i h=some a) (hi:i<tb.length):a.getD i none=some h∧∀j k,a.getD j none=some k→k=h∨tb.getD j none=some k:=by
 unfold kD at he
 split at he
 ·cases he;refine⟨uc hi,λj k hk=>?_⟩;rw[Xj,Vf]at hk
  by_cases hij:i=j
  ·subst hij;rw[if_pos rfl,if_pos hi]at hk;left;exact(Xk hk).symm
  ·rw[if_neg hij,←Xj]at hk;right;exact hk
 ·rename_i k hk
  split at he
  ·rename_i b;cases he;subst b;exact⟨hk,λj k h=>.inr h⟩
  ·cases he
theorem zt {a:Hs}{j k:Nat}(he:kD tb i h=some a) (hj:tb.getD j none=some k):a.getD j none=some k:=by
 unfold kD at he
 split at he
 ·rename_i hn;cases he;rw[Xj,Vf,if_neg (by rintro rfl;rw[hn]at hj;cases hj),←Xj];exact hj
 ·split at he
  ·cases he;exact hj
  ·cases he
theorem GR {j:Nat}(hh:(hs0 n).getD j none=some h):h=0:=by
 rw[hs0,Xj,Vf]at hh
 split at hh
 ·split at hh
  ·cases hh;rfl
  ·cases hh
 ·rw[S2]at hh
  split at hh <;> cases hh
theorem FN {ys:List Int}(hl:ys.length=n) (hy:∀j,j<n→ys[j]? =some (-1)):ys=hsI (List.replicate n none):=by
 apply Vz;intro j;rw[Xd,S2]
 by_cases hj:j<n
 ·rw[hy j hj,if_pos hj];all_goals rfl
 ·rw[Xz a8,if_neg hj];all_goals rfl
theorem GQ:(hsI (List.replicate n none)).set 0 0=hsI (hs0 n):=wy (h:=0)
theorem ET {A B:Nat}(h:op=15∨op=16):sX (op,A,B)=true:=by rcases h with rfl|rfl <;> rfl
theorem Lz {A B:Nat}(h:¬(op=15∨op=16)):sX (op,A,B)=false:=by
 rw[sX];simp only[Yr (show ¬op=15 from a8),Yr (show ¬op=16 from a8),Bool.or_self]
theorem xP (hn:i<n):(decide (((i:Nat):Int)=(n:Int)-1) !=decide (((op:Nat):Int)=0))= !decide (decide (i+1=n)=decide (op=0)):=by
 rw[show decide (((i:Nat):Int)=(n:Int)-1)=decide (i+1=n)from Vm.2 a8,show decide (((op:Nat):Int)=0)=decide (op=0)from Vm.2 a8];cases decide (i+1=n) <;> cases decide (op=0) <;> rfl
theorem JR [hg:Glb G H] [hia:Isa H] [hp:il H a p] [hpc:pk H a p] (f:Bz p):SC G prog 52 [.agg (prV a p.all).toArray] H (λv H'=>(gA p=none∧v=.tuple #[.slice none 0 0,.int .i64 0]∧H'=H)∨(∃(tb:Hs) (sl:SV) (g:Int),gA p=some tb∧0<tb.length∧v=.tuple #[sl.val,.int .i64 g]∧H'=Row sl eI (hsI tb)::H)):=by
 have hk1:=f.k;have Z:=f.a;have Y:=f.c;have X:=f.n;refine sWk func52 ?_;refine gk (k:=bxx (k:=λb1=>?_));refine go ?_;refine c1_ rfl (G6 f.k f.cb) ?_;rintro _ _ (⟨a4,rfl,rfl⟩|⟨sc,c,K,rfl,rfl⟩)
 ·have hno:gA p=none:=by rw[gA,lu,a4]
  refine e_ mv (e_ exr (e_ exr (e_ asn (e_ asn (on_ (qn_ (ws_ (ws_ (wr_ (e_ mv ?_))))))))));refine e_ (eg rfl) ?_;refine gk (k:=ift (k:=go ?_));refine gR ?_;exact⟨_,hsb,.inl ⟨hno,rfl,rfl⟩⟩
 obtain⟨a1,hcl⟩:=wG _ _ _ f.cb K;have L:gA p=if c.length=0∨iP p=false then none else jr p c c.length 0 (hs0 c.length):=by rw[gA,lu,K]
 refine e_ mv (e_ exr (e_ exr (e_ asn (e_ asn (on_ (qn_ (ws_ (ws_ (wr_ (e_ mv ?_))))))))));refine e_ (dL rfl) ?_;refine gk (k:=ep 4 32 (k:=λh1=>gk (k:=iU (vs:=[_]) (hc:=(ND f)) (k:=gk (k:=edq)))) (q:=gW (λh2=>?_) (λh2=>?_)))
 ·have hno:gA p=none:=by rw[L,if_pos aO]
  refine gR ?_;exact⟨_,hsb,.inl ⟨hno,rfl,rfl⟩⟩
 have E:gA p=jr p c c.length 0 (hs0 c.length):=by rw[L,if_neg aO]
 have F:0<c.length:=aw;have hrp:(List.replicate c.length (0:Int)).length=c.length:=Xe;refine go ?_;refine s_ (gn eI 0 rfl rfl _ _ rfl rfl rfl a8 a8 a8) ?_;rintro _ _ ⟨e,rfl,hs35n,hs35c,rfl⟩;refine alc (k:=λR=>?_);refine gk (k:=e8 (Nat×(List Int)) (λy=>y.1≤c.length∧y.2.length=c.length∧∀j,j<y.1→y.2[j]? =some (-1)) (λy=>[(38,iN y.1)]) [(1,_),(4,_),(6,_),(37,_)] (λy=>[Row e eI y.2]) _ (λy=>c.length-y.1) ((0,List.replicate c.length 0)) (h0:=?_) (k:=?_))
 ·exact⟨Yl _,Xe,λj hj=>absurd hj (Up j)⟩
 rintro⟨i,ys⟩ ⟨hi,z,C⟩
 try dsimp only[Yd,Ye]at*
 refine gW (λh3=>?_) λh3=>?_
 ·refine go ?_;refine s_ (et (a:=(-1:Int)) rfl rfl bH a8) ?_;rintro _ _ ⟨rfl,rfl⟩;refine go ?_;refine lN ((i+1,ys.set i (-1))) ?_
  try dsimp only
  exact⟨a8,by rw[Ub];exact z,λj hj=>by
   rw[Vf]
   by_cases hij:i=j
   ·subst hij;rw[if_pos rfl,if_pos a8]
   ·rw[if_neg hij];exact C j a8⟩
 obtain rfl:ys=hsI (List.replicate c.length none):=FN z (λj hj=>C j aD);refine we_ (qe_ (le_ (bh_ (qn_ (ws_ (wr_ (e_ ldv (e_ (ixa (i:=0)) ?_))))))));refine s_ (et (i:=0) (a:=(0:Int)) rfl rfl bH a8) ?_;rintro _ _ ⟨rfl,rfl⟩;rw[GQ];refine on_ (qn_ (ws_ (wr_ (e_ asn (on_ (qn_ (ws_ (wr_ (e_ mkf (go ?_))))))))));refine gk (k:=e8 (Nat×Hs×Int×Nat) (λy=>y.1<c.length∧y.2.1.length=c.length∧gA p=jr p c (c.length-y.1) y.1 y.2.1∧y.2.1.getD y.1 none=some y.2.2.2∧∀j k,y.2.1.getD j none=some k→k≤y.1) (λy=>[(8,.int .i64 y.2.2.1),(50,iN y.1)]) [(1,_),(4,_),(6,_),(9,_),(48,_),(49,_)] (λy=>[Row e eI (hsI y.2.1)]) _ (λy=>c.length-y.1) ((0,hs0 c.length,0,0)) (h0:=?_) (k:=?_))
 ·try dsimp only
  exact⟨F,by rw[hs0,Ub,Xe],by rw[R8];exact E,by rw[hs0];exact uc (by rw[Xe];exact F),λj k hk=>by rw[GR hk];exact Xl _⟩
 rintro⟨i,tb,g,h0⟩ ⟨J,V,a5,t,hkb⟩
 try dsimp only[Yd,Ye]at*
 refine gW (λh4=>?_) λh4=>?_
 ·obtain⟨x,hx⟩:=gE c i;have U:=a1 x (Yj hx);have a2:c.getD i (0,0,0)=x:=by rw[Xj,hx];all_goals rfl
  obtain⟨op,A,B⟩:=x;obtain⟨hA,hB⟩:=U;simp only at hA hB;have hh0i:=hkb i h0 t;have r:(hsI tb)[i]? =some (h0:Int):=(pV a8).trans (by rw[t,ohI]);have d:=a5;rw[show c.length-i=(c.length-(i+1))+1 from a8,YK a2 t]at d;have hrl:(hsI tb).length=c.length:=by rw[Yh];exact V
  refine wk_ (qn_ (ws_ (wb_ (ws_ (wr_ (e_ mv (e_ ixa (e_ (gr (hy:=hx)) (alc (k:=λa7=>?_))))))))));refine e_ asn (sto (k:=on_ (qn_ (ws_ (wr_ ?_)))));dsimp only;refine go ?_;refine wD [5] (λk H=>(k=0→dQ H a7 [iN op,uN A,uN B])∧(k=1→dQ H R [e.val])∧(k=3→Sl H e eI (hsI tb))∧(k=4→Sl H e eI (hsI tb))) ?_;refine aN 0 rfl (λH hH=>aX) ?_;refine aN 1 rfl (λH hH=>ar) ?_;refine aF 2 (k:=?_);refine aN 3 rfl (λH hH=>aG) ?_;refine aN 4 rfl (λH hH=>by have hN:=hH.2.2.2 rfl;exact lel (hy:=r)) ?_;refine aS 5 rfl (lU (vs:= [_,_]) rfl (JV (op:=op) (A:=A) (B:=B) (h:=h0) a8 hA)) ?_;rintro _ _ ⟨⟨kk,bb,M,a6,rfl⟩,rfl⟩;refine gk (k:=aZ (gk (k:=ep 6 77 (k:=λh5=>gk (k:=eg_ (vZ rfl rfl) (gk (k:=edq)))) (q:=?_))));refine gk (k:=ep 5 83 (k:=λh6=>gk (k:=iU (vs:=[_,_]) (hc:=(HP (p:=p) hA hB ⟨Z,Y,X⟩)) (k:=gk (k:=edq)))) (q:=gW (λh7=>?_) (λh7=>?_)))
  ·have hno:gA p=none:=by
    have h9:=h7;cases hb9:bb with
    |false=>rw[a6 hb9]at d;exact d
    |true=>
     obtain⟨u,he,rfl⟩:=M hb9;rw[he]at d;simp only at d;rw[if_neg]at d
     ·exact d
     ·rintro⟨c1,c2⟩;rw[xP J,Ys c1,c2,hb9]at h9;rcases h9 with(h9|h9)|h9
      ·exact absurd h9 ae
      ·exact absurd h9 ae
      ·exact absurd h9 ae
   refine gR ?_;exact⟨_,hsb,.inl ⟨hno,rfl,rfl⟩⟩
  have S:=h7;obtain rfl:bb=true:=by
   cases hb9:bb with
   |false=>rw[hb9]at S;exact absurd S.1.1 ae
   |true=>rfl
  obtain⟨u,he,rfl⟩:=M rfl;have hle:=Hb he;rw[he]at d;simp only at d;rw[if_pos ⟨by have h9:=S.1.2;rw[xP J]at h9;simpa using h9,S.2⟩]at d;refine wk_ (qn_ (ws_ (wr_ (e_ mv (e_ ldv (e_ mv (e_ ixa (e_ (lel (hy:=r)) (e_ mv ?_)))))))));refine e_ (PM rfl rfl rfl) ?_;refine gW (λh8=>?_) λh8=>?_
  ·have s:i+1=c.length:=by have h9:=h8;omega
   rw[if_pos s]at d;refine gk (k:=bm_ (k:=go ?_));refine gR ?_;exact⟨_,hsb,.inr ⟨tb,e,_,d,a8,rfl,rfl⟩⟩
  have a0:¬i+1=c.length:=by have h9:=h8;omega
  rw[if_neg a0]at d;refine go ?_;refine s_ (qM (fi:= []) (ca:= [pA R]) (vs:= [_,_]) rfl rfl (QI (sl:=e) (b:=R) (hs:=tb) (i:=i+1) (h:=u) a8)) ?_;rintro _ _ (⟨w,n,rfl,rfl⟩|⟨n,rfl,rfl⟩)
  ·rw[n]at d;simp only at d;have hl1:=tU n;obtain⟨hg1,hg2⟩:=tV n a8;refine gk (k:=fM (k:=gk (k:=ep 4 105 (k:=λh9=>gk (k:=edq)) (q:=go ?_))));refine gW (λh10=>?_) λh10=>?_
   ·rw[if_pos (ET cg)]at d;refine ws_ (wr_ (e_ fla (e_ ldv (e_ mv (e_ lnn (e_ isb (e_ mv (e_ isb ?_))))))));refine e_ (dW 18446744073709551616 rfl rfl rfl (c.length-2-i) a8 a8) ?_;refine e_ igt (sp_ mv (k:=λh11=>?_) (m:=λh11=>?_))
    ·have N:c.length-2-i<A:=by have h9:=h11;omega
     rw[if_pos N]at d;refine gk (k:=ift (k:=?_));refine gR ?_;exact⟨_,hsb,.inl ⟨d,rfl,rfl⟩⟩
    have hsm:¬c.length-2-i<A:=bE;rw[if_neg hsm]at d;refine go ?_;refine eg_ (ew rfl a8) (go ?_);refine sg_ (qM (fi:= []) (ca:= [pA R]) (vs:= [_,_]) rfl rfl (QI (sl:=e) (b:=R) (hs:=w) (i:=i+1+A) (h:=u) a8)) (k:=?_);rintro _ _ (⟨T,l,rfl,rfl⟩|⟨l,rfl,rfl⟩)
    ·rw[l]at d;simp only at d;have hl2:=tU l;obtain⟨hg3,hg4⟩:=tV l a8;have a3:=zt l hg1;refine gk (k:=fM (k:=go ?_));refine lN ((i+1,T,max (max g (h0:Int)) (u:Int),u)) ?_
     exact⟨a8,a8,d,a3,λj k hk=>cH⟩
    rw[l]at d;refine gk (k:=ift (k:=go ?_));refine gR ?_;exact⟨_,hsb,.inl ⟨d,rfl,rfl⟩⟩
   rw[if_neg (by rw[Lz cg];decide)]at d;refine go ?_;refine lN ((i+1,w,max (max g (h0:Int)) (u:Int),u)) ?_
   try dsimp only
   exact⟨a8,a8,d,hg1,λj k hk=>by rcases hg2 j k hk with h9|h9;omega;have:=hkb j k h9;omega⟩
  rw[n]at d;refine gk (k:=ift (k:=go ?_));refine gR ?_;exact⟨_,hsb,.inl ⟨d,rfl,rfl⟩⟩
 exact absurd h4 a8
theorem Sm [hg:Glb G H] [hia:Isa H] [hp:il H a p] [hpc:pk H a p] (d:Bz p):SC G prog 26 [.agg (prV a p.all).toArray] H (λv g=>((gA p=none∧v=.tuple #[.agg #[.int .i64 0,.int .i64 0],G.err 20])∨(∃(tb:Hs) (n b:Int),gA p=some tb∧v=.tuple #[.agg #[.int .i64 n,.int .i64 b],.nilIface]))∧g=H):=by
 refine sWk func26 ?_;refine gk (k:=bxx (k:=λb1=>?_));refine alc (k:=λb2=>?_);refine go ?_;refine c1_ rfl (JR d) ?_;rintro _ _ (⟨hno,rfl,rfl⟩|⟨tb,sl,b,f,c,rfl,rfl⟩)
 ·refine e_ mv (e_ exr (e_ exr (e_ asn (e_ asn (on_ (qn_ (ws_ (ws_ (wr_ (e_ mv ?_))))))))));refine e_ (yQ rfl) ?_;refine gW (λh1=>?_) λh1=>?_
  ·refine go ?_;refine wD [2] (λk H=>(k=1→dQ H 16 [G.err 20])) (af_ 0 (q:=ea λH hH=>bld []) (k:=?_));refine go ?_;refine aS 2 rfl (ej rfl rfl rfl) ?_;rintro _ _ ⟨rfl,rfl⟩;refine gk (k:=aZ (gR ?_));exact⟨_,hsb,.inl ⟨hno,rfl⟩,rfl⟩
  exact absurd h1 ae
 have e:hsI tb≠ []:=by intro h9;rw[hsI,List.map_eq_nil_iff]at h9;rw[h9]at c;exact Nat.lt_irrefl _ c
 refine e_ mv (e_ exr (e_ exr (e_ asn (e_ asn (on_ (qn_ (ws_ (ws_ (wr_ (e_ mv ?_))))))))));refine e_ (sH rfl e) ?_;refine gW (λh2=>?_) λh2=>?_
 ·exact absurd h2 ae
 refine wk_ (qn_ (ws_ (wr_ (e_ mv (e_ lnn (e_ mv (e_ (bld [(0,_),(1,_)]) (gR ?_))))))));exact⟨_,hsb,.inr ⟨tb,_,_,f,rfl⟩,rfl⟩
end
end Go.Sx
