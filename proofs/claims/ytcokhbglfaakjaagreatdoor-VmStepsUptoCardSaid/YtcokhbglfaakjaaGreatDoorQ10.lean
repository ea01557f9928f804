import Derived.Test.YtcokhbglfaakjaaGreatDoorQ9
set_option linter.all false
set_option maxHeartbeats 0
namespace Go.Sx
open Go Go.Proofs Tryz
set_option maxRecDepth 100000
section
variable {G:dJ}{H:dD}
def eEn:Enc En:=⟨λe=>[.string e.key,.int .i64 ((e.docs:Nat):Int),.int .i64 ((e.tot:Nat):Int),.int .i64 ((e.at_:Nat):Int),.int .i64 ((e.size:Nat):Int)],5,true,λ_=>rfl,λp v h=>by simp at h;rcases h with rfl|rfl|rfl|rfl|rfl <;> rfl,ae,λh=>aK,ae⟩
instance {e:En}:kV eEn e (.agg [.string e.key,.int .i64 ((e.docs:Nat):Int),.int .i64 ((e.tot:Nat):Int),.int .i64 ((e.at_:Nat):Int),.int .i64 ((e.size:Nat):Int)].toArray):=⟨rfl⟩
instance {s:ByteArray}{a b c d:Nat}:gP eEn (.agg [.string s,.int .i64 ((a:Nat):Int),.int .i64 ((b:Nat):Int),.int .i64 ((c:Nat):Int),.int .i64 ((d:Nat):Int)].toArray) ⟨s,a,b,c,d⟩:=⟨rfl⟩
def jG (e:En):List Nat:= [e.docs,e.tot,e.at_,e.size]
def L8 (e:En):List Value:=(jG e).map λn=>Value.int .i64 ((n:Nat):Int)
theorem zp {e:En}{i x:Nat}(h:(jG e)[i]? =some x):(L8 e)[i]? =some (iN x):=by rw[L8,Xd,h];rfl
theorem QF {s:ByteArray}{a b c d:Nat}:SC G prog 254 [.agg #[.string s,iN a,iN b,iN c,iN d]] H (λv e=>v=.agg (L8 ⟨s,a,b,c,d⟩).toArray∧e=H):=by
 refine sWk func254 ?_;refine gk (k:=bxx (k:=λb1=>?_));refine alc (k:=λb2=>?_);refine on_ (qn_ (ws_ (wr_ (e_ fla (e_ ldv (e_ fla (e_ ldv (e_ fla (e_ ldv (e_ fla (e_ ldv ?_)))))))))));refine e_ (zM [iN a,iN b,iN c,iN d] rfl rfl) ?_;exact gZ
theorem FY {a b:ByteArray}(ha:a.size≤1000000000000) (hb:b.size≤1000000000000):SC G prog 259 [.string a,.string b] H (λv d=>v=iN (eY (dC a) (dC b))∧d=H):=by
 have hal:=dI a;have hbl:=dI b;refine sWk func259 ?_;refine gk (k:=e8 Nat (λy=>y≤a.size∧y≤b.size∧∀j,j<y→at0 (dC a) j=at0 (dC b) j) (λy=>[(5,iN y)]) [(0,_),(1,_)] (λy=>[]) _ (λy=>a.size-y) (0) (h0:=?_) (k:=?_))
 ·exact⟨Yl _,Yl _,λj h=>a8⟩
 rintro k ⟨hk1,hk2,hkj⟩
 try dsimp only[Yd,Ye]at*
 refine go ?_;refine dX dN (as_ 0 (q:=mv) (k:=as_ 1 (q:=mv) (k:=as_ 2 (q:=xO) (k:=as_ 3 (q:=ilt) (k:=?_)))));refine fH 4 rfl rfl aa rfl (ey mv) (λh1=>?_) (λh1=>?_)
 ·replace h1:=nrm h1;refine at2 5 (q:=mv) (k:=at2 6 (q:=mv) (k:=at2 7 (q:=xO) (k:=at2 8 (q:=ilt) (k:=as_ 9 (q:=pkt) (k:=?_)))));refine fH 10 rfl rfl aa rfl (ey mv) (λh2=>?_) (λh2=>?_)
  ·replace h2:=nrm h2;refine gW (λh3=>?_) λh3=>?_
   ·have c:∀j,j<k+1→at0 (dC a) j=at0 (dC b) j:=λj hj=>by
     by_cases h9:j<k
     ·exact hkj j h9
     ·obtain rfl:j=k:=by omega
      omega
    refine go ?_;refine lN (k+1) ?_
    exact⟨a8,a8,c⟩
   have hend:k=(dC a).length∨k=(dC b).length∨at0 (dC a) k≠at0 (dC b) k:=.inr (.inr a8);refine gR ?_;exact⟨_,hsb,cJ,rfl⟩
  replace h2:=nrm h2;have hend:k=(dC a).length∨k=(dC b).length∨at0 (dC a) k≠at0 (dC b) k:=.inr (.inl a8);refine gk (k:=fM (k:=go ?_));refine gR ?_;exact⟨_,hsb,cJ,rfl⟩
 replace h1:=nrm h1;have hend:k=(dC a).length∨k=(dC b).length∨at0 (dC a) k≠at0 (dC b) k:=.inl a8;refine go ?_;refine gk (k:=fM (k:=go ?_));refine gR ?_;exact⟨_,hsb,cJ,rfl⟩
theorem O0 {s:SV}{l:List En} [hs:Sl H s eEn l] (hl:l.length≤16) (hsm:lV l):SC G prog 255 [s.val] H (λv F=>∃A:SV,v=A.val∧F=Row A eB (fe [] l)::H):=by
 refine sWk func255 ?_;refine go ?_;refine c0_ rfl iM ?_;rintro _ _ ⟨d,rfl,rfl⟩;refine e_ asn (on_ (qn_ (ws_ (wr_ (e_ asn (on_ (qn_ (ws_ (ws_ (wr_ ?_))))))))));rw[show Wr d []=Wr d (fe [] (l.take 0))from rfl];refine gk (k:=e8 (Nat×ByteArray) (λy=>y.1≤l.length∧dC y.2=nk [] (l.take y.1)∧y.2.size≤1000) (λy=>[(4,.string y.2),(13,iN y.1)]) [(3,_),(11,_),(12,_)] (λy=>[Wr d (fe [] (l.take y.1))]) _ (λy=>l.length-y.1) ((0,⟨#[]⟩)) (h0:=?_) (k:=?_))
 ·exact⟨Yl _,rfl,Yl _⟩
 rintro⟨i,q⟩ ⟨hi,E,hqs⟩
 try dsimp only[Yd,Ye]at*
 refine gW (λh1=>?_) λh1=>?_
 ·obtain⟨e,he⟩:=gE l i;have t:=hsm e (Yj he);have hsh:=n6 (dC q) (dC e.key);have u:=dI e.key;have hpl:=oW (p:= []) (AB hsm i);rw[Yg]at hpl;have hen:=Di (prev:=dC q) t;obtain⟨f,b⟩:=ex (fe [] (l.take i));rw[←b];rw[←b]at hpl;have hu1:=gb (n:=eY (dC q) (dC e.key)) (k:=6) a8 a8;have hu2:=gb (n:=(dC e.key).length-eY (dC q) (dC e.key)) (k:=6) a8 a8;refine gk (k:=alc (k:=λb6=>?_));refine go ?_;refine d2_ rfl (FY a8 a8) (e_ asn (on_ (qn_ (ws_ (wr_ (e_ mv (e_ mv ?_)))))));refine e_ ((ad)) ?_;refine d2_ rfl (gl _ a8 a8) (on_ (qn_ (ws_ (wr_ (e_ mv (e_ fla (e_ ldv (e_ mv (e_ (I0 (a:=eY (dC q) (dC e.key))) ?_)))))))));refine d2_ rfl (Jj _ aj (by rw[ByteArray.size_extract];omega)) ?_;rw[show uv (e.key.extract (eY (dC q) (dC e.key)) e.key.size).size++dC (e.key.extract (eY (dC q) (dC e.key)) e.key.size)=uv ((dC e.key).length-eY (dC q) (dC e.key))++(dC e.key).drop (eY (dC q) (dC e.key))from by rw[vB,ByteArray.size_extract,u,Nat.min_self]];obtain⟨g,c⟩:=ex (f++uv (eY (dC q) (dC e.key))++(uv ((dC e.key).length-eY (dC q) (dC e.key))++(dC e.key).drop (eY (dC q) (dC e.key))));have hp2l:g.length≤f.length+1100:=by rw[c];simp only[Ya,Yo];omega
  rw[←c];refine go ?_;refine d1_ rfl QF ?_;rw[show Wr d g=Wr d (g++((jG e).take 0).flatMap uv)from aq];refine gk (k:=e8 Nat (λy=>y≤4) (λy=>[(33,iN y)]) [(3,_),(6,_),(11,_),(12,_),(13,_),(32,_)] (λy=>[Wr d (g++((jG e).take y).flatMap uv)]) _ (λy=>4-y) (0) (h0:=?_) (k:=?_))
  ·exact Yl _
  rintro m hm
  try dsimp only[Yd,Ye]at*
  refine gW (λh2=>?_) λh2=>?_
  ·obtain⟨x,hx⟩:∃x,(jG e)[m]? =some x:=⟨_,Yi (by show _<4;omega)⟩;have r:=zp hx;have hxl:x<1099511627776:=by
    have:=Yj hx;simp only[jG,Xo,S9,or_false]at this;rcases this with rfl|rfl|rfl|rfl <;> omega
   have h:((jG e).take (m+1)).flatMap uv=((jG e).take m).flatMap uv++uv x:=by rw[dK hx];simp
   have hfl:(((jG e).take m).flatMap uv).length≤24:=by
    have h4:∀y∈jG e,(uv y).length≤6:=λy hy=>by
     simp only[jG,Xo,S9,or_false]at hy;rcases hy with rfl|rfl|rfl|rfl <;> exact gb a8 a8
    have h5:∀z:List Nat,(∀y∈z,(uv y).length≤6)→(z.flatMap uv).length≤6*z.length:=by
     intro z
     induction z with
     |nil=>intro _;simp
     |cons y z ih=>intro B;have:=ih (λw C=>B w (Xa _ C));have:=B y aq;simp only[Vx,Ya,Yb];omega
    have:=h5 ((jG e).take m) (λy hy=>h4 y (Yq hy));rw[Yg]at this;omega
   refine wk_ (qn_ (ws_ (wb_ (ws_ (wr_ ?_)))));refine e_ (zL m rfl rfl rfl a8 r) ?_;refine e_ asn (on_ (qn_ (wr_ (e_ mv (e_ mv ?_)))));refine e_ ((ad)) ?_;refine d2_ rfl (gl x a8 aj) ?_;rw[Yf,←h];refine go ?_;refine lN (m+1) ?_
   try dsimp only
   omega
  obtain rfl:m=4:=a8;rw[show g++((jG e).take 4).flatMap uv=fe [] (l.take (i+1))from by rw[qe he,←E,oX,c,b];simp[jG]];refine go ?_;refine lN ((i+1,e.key)) ?_
  exact⟨a8,(sW he _).symm,a8⟩
 obtain rfl:i=l.length:=a8;rw[Xn];have hpl:=oW (p:= []) hsm;refine go ?_;refine c1_ rfl (kK a8) ?_;rintro _ _ ⟨j,rfl,rfl⟩;refine gR ?_;exact⟨_,hsb,j,rfl,rfl⟩
end
theorem Wj {G:dJ}{H:dD}{s:SV}{l:List En} [hs:Sl H s eEn l] (hl:l.length≤100000000) (a:w9 l):SC G prog 219 [s.val] H (λv E=>∃z:SV,v=.tuple #[z.val,.nilIface]∧E=Row z eB (iC l)::H):=by
 have hsm:=xF a;have g:=qf hsm;have hbk:16*gO l≤l.length+15:=cS;refine sWk func219 ?_;refine go ?_;refine gk (k:=e8 Nat (λy=>y≤l.length) (λy=>[(15,iN y)]) [(0,_),(13,_),(14,_)] (λy=>[]) _ (λy=>l.length-y) (0) (h0:=?_) (k:=?_))
 ·exact Yl _
 rintro i hi
 try dsimp only[Yd,Ye]at*
 refine gW (λh1=>?_) λh1=>?_
 ·obtain⟨e,he⟩:=gE l i;obtain⟨k1,k2,k3,k4,k5,k6⟩:=a.1 e (Yj he);refine gk (k:=alc (k:=λb5=>?_));refine gk (k:=ep 5 28 (k:=λh2=>gk (k:=edq)) (q:=go ?_));refine wi_ (k:=λh3=>?_) (m:=λh3=>?_)
  ·exact absurd h3 a8
  refine go ?_;refine d1_ rfl QF (gk (k:=e8 Nat (λy=>y≤4) (λy=>[(32,iN y)]) [(0,_),(13,_),(14,_),(15,_),(31,_)] (λy=>[]) _ (λy=>4-y) (0) (h0:=?_) (k:=?_)))
  ·exact Yl _
  rintro m hm
  try dsimp only[Yd,Ye]at*
  refine gW (λh4=>?_) λh4=>?_
  ·obtain⟨x,hx⟩:∃x,(jG e)[m]? =some x:=⟨_,Yi (by show _<4;omega)⟩;have j:=zp hx;have hxl:x≤2147483647:=by
    have:=Yj hx;simp only[jG,Xo,S9,or_false]at this;rcases this with rfl|rfl|rfl|rfl <;> omega
   refine wk_ (qn_ (ws_ (wb_ (ws_ (wr_ ?_)))));refine e_ (zL m rfl rfl rfl a8 j) ?_;refine e_ asn (on_ (qn_ (ws_ (wr_ (e_ mv (e_ ilt (e_ mv (ep 3 40 (k:=λh5=>eg_ mv (eg_ igt (e_ pkf (on_ edq)))) (q:=on_ (qn_ (wi_ (k:=λh6=>?_) (m:=λh6=>?_))))))))))))
   ·exact absurd h6 a8
   refine go ?_;refine lN (m+1) ?_
   try dsimp only
   omega
  refine go ?_;refine lN (i+1) ?_
  try dsimp only
  omega
 refine gk (k:=e8 Nat (λy=>1≤y) (λy=>[(8,iN y)]) [(0,_)] (λy=>[]) _ (λy=>l.length-y) (1) (h0:=?_) (k:=?_))
 ·exact Xl _
 rintro i hi
 try dsimp only[Yd,Ye]at*
 refine gW (λC=>?_) λC=>?_
 ·obtain⟨e,he⟩:=gE l i;obtain⟨d,hd⟩:=gE l (i-1);have c:=a.2 (i-1) d e hd (by rw[Q7 hi];exact he);refine go ?_;refine dX dN (as_ 0 (q:=mv) (k:=as_ 1 (q:=mv) (k:=as_ 2 (q:=ixa) (k:=as_ 3 (q:=fle) (k:=as_ 4 (q:=lfl) (k:=as_ 5 (q:=mv) (k:=as_ 6 (q:=mv) (k:=as_ 7 (q:=isb) (k:=as_ 8 (q:=ixa) (k:=as_ 9 (q:=fle) (k:=as_ 10 (q:=lfl) (k:=?_))))))))))));refine dS 11 rfl rfl aa rfl (ey Zt) ?_;refine gW (λh8=>?_) λh8=>?_
  ·exact absurd c h8
  refine go ?_;refine lN (i+1) ?_
  try dsimp only
  omega
 refine go ?_;refine c0_ rfl iM ?_;rintro _ _ ⟨u,rfl,rfl⟩;refine e_ asn (on_ (qn_ (ws_ (wr_ (e_ mv (e_ mv (e_ lnn ?_)))))));refine e_ ((ad)) ?_;refine d2_ rfl (gl l.length a8 aq) (go ?_);refine c0_ rfl iM ?_;rintro _ _ ⟨w,rfl,rfl⟩;refine e_ asn (on_ (qn_ (ws_ (ws_ (wr_ ?_)))));obtain⟨hd,b⟩:=ex ([]++uv l.length);have hhl:hd.length≤6:=by rw[b];exact gb a8 a8
 rw[←b,show Wr u hd=Wr u (hd++(eH l 0).1)from by simp[eH],show Wr w []=Wr w (eH l 0).2 from rfl];refine gk (k:=e8 Nat (λy=>y≤gO l) (λy=>[(11,iN (16*y))]) [(0,_),(9,_),(10,_)] (λy=>[Wr u (hd++(eH l y).1),Wr w (eH l y).2]) _ (λy=>gO l-y) (0) (h0:=?_) (k:=?_))
 ·exact Yl _
 rintro k hk
 try dsimp only[Yd,Ye]at*
 refine gW (λh9=>?_) λh9=>?_
 ·have c:16*k<l.length:=by omega
  have hkb:k<gO l:=cS;obtain⟨t,r⟩:=g k;have hblen:=ri l k;have f:=qN hsm k;have hbl:=oW (p:= []) f;have hu:=gb (n:=(fe [] (gB l k)).length) (k:=6) a8 a8;refine wk_ (qn_ (ws_ (wb_ (ws_ (wr_ (e_ mv (e_ mv (e_ mv (e_ iad (e_ mv (e_ lnn ?_)))))))))));refine e_ (oh rfl rfl) ?_;refine kJ H rfl (16*k) (min (16*k+16) l.length) ⟨_,_,rfl,(aT)⟩ ⟨_,_,rfl,(aT)⟩ a8 aP rfl (λB A=>?_);rw[BQ]at A;haveI ib2:Sl H B eEn (gB l k):=A;refine c1_ rfl (O0 (l:=gB l k) a8 f) ?_;rintro _ _ ⟨s84,rfl,rfl⟩;refine e_ asn (on_ (qn_ (ws_ (wr_ (e_ mv (e_ mv (e_ lnn ?_)))))));refine e_ ((ad)) ?_;refine d2_ rfl (gl _ a8 aj) (go ?_);refine d2_ rfl (Eb a8 a8) (on_ (bn_ (qn_ (wr_ ?_))));rw[show hd++(eH l k).1++uv (fe [] (gB l k)).length=hd++(eH l (k+1)).1 from by simp[eH],show(eH l k).2++fe [] (gB l k)=(eH l (k+1)).2 from rfl,show((16*k:Nat):Int)+16=((16*(k+1):Nat):Int)from a8];refine go ?_;refine lN (k+1) ?_
  try dsimp only
  omega
 obtain rfl:k=gO l:=by unfold gO at*;omega
 obtain⟨t,r⟩:=g (gO l);refine go ?_;refine c1_ rfl (kK a8) ?_;rintro _ _ ⟨s95,rfl,rfl⟩;refine d2_ rfl (Eb aj a8) ?_;rw[show hd++(eH l (gO l)).1++(eH l (gO l)).2=iC l from by rw[b];simp[iC]];have hDl:=IV hsm a8;refine go ?_;refine c1_ rfl (kK a8) ?_;rintro _ _ ⟨h,rfl,rfl⟩;refine gR ?_;exact⟨_,hsb,h,rfl,rfl⟩
section
variable {G:dJ}{H:dD}{b:Nat}{fs:List FV}{xs:List Nat}
theorem YW {R:dD} [hr:Rem H Wr b xs R]:SC G prog 217 [pA b] H (λv a=>v=iN xs.length∧a=Wr b xs::R):=by
 refine xi hr λs=>?_;refine sWk func217 ?_;refine go ?_;exact gZ
theorem Rt {R:dD} [hr:Rem H Wr b xs R]:SC G prog 166 [pA b] H (λv a=>v=.tuple #[]∧a=Wr b []::R):=by
 refine xi hr λs=>?_;refine sWk func166 ?_;exact gZ
theorem C7 {v:Val}(hf:fs.length≤1000000) (hv:v.2.size≤3000000):(gD fs v).length≤v.2.size+20:=by
 have h1:(ig fs (dC v.1)).getD 0≤fs.length:=by
  cases h:ig fs (dC v.1)with
  |none=>simp
  |some i=>obtain⟨p,hp,_⟩:=rM h;have:=(Yk.1 hp).1;simp;omega
 have h2:=gb (n:=(ig fs (dC v.1)).getD 0) (k:=6) a8 a8;have h3:=gb (n:=v.2.size) (k:=6) a8 a8;simp only[gD,Ya,dI];omega
theorem pC (hf:fs.length≤1000000):∀{vs:List Val},(∀v∈vs,v.2.size≤3000000)→(vs.flatMap (gD fs)).length≤vsz vs
 | [],_=>aq
 |v::vs,h=>by
  have h1:=C7 hf (h v aq);have h2:=pC hf (λu a=>h u (Xa _ a));simp only[Vx,Ya,vsz,Xs,Vv]at h2⊢;omega
theorem kX (hf:fs.length≤1000000):∀{ds:List Doc},(∀d∈ds,d.2.length≤100000000∧∀v∈d.2,v.2.size≤3000000)→(gm fs ds).length≤10*ds.length+dsz ds
 | [],_=>by simp[gm]
 |d::ds,h=>by
  have h1:=pC hf (h d aq).2;have h2:=kX hf (λu a=>h u (Xa _ a));have h3:=gb (n:=d.2.length) (k:=6) (by have:=(h d aq).1;omega) a8;simp only[gm,tx,Vx,Ya,dsz,Xs,Vv,Yb]at h2⊢;omega
theorem NF {g:Nat}{fv dv:SV}{B A:Value}{l:List (Int×SV)}{ds:List Doc} [hg:dQ H g [fv.val,dv.val,B,A]] [hf:Sl H fv eF fs] [hd:Sl H dv eD l] (z:gK H l ds) (q:fs.length≤1000000) (hn:ds.length≤100000) (L:∀d∈ds,d.2.length≤100000000∧∀v∈d.2,v.2.size≤3000000) (hz:dsz ds≤30000000) (R:∀d∈ds,∀v∈d.2,∃k,ig fs (dC v.1)=some k):
 SC G prog 168 [pA g] H (λv U=>∃s:SV,v=s.val∧U=Row s eB (gm fs ds)::H):=by
 have N:=z.1;refine sWk func168 ?_;refine go ?_;refine c0_ rfl iM ?_;rintro _ _ ⟨r,rfl,rfl⟩;refine e_ asn (on_ (qn_ (ws_ (ws_ (wr_ ?_)))));rw[show Wr r []=Wr r (gm fs (ds.take 0))from rfl];refine gk (k:=e8 Nat (λy=>y≤l.length) (λy=>[(16,iN y)]) [(0,_),(3,_),(14,_),(15,_)] (λy=>[Wr r (gm fs (ds.take y))]) _ (λy=>l.length-y) (0) (h0:=?_) (k:=?_))
 ·exact Yl _
 rintro i hi
 try dsimp only[Yd,Ye]at*
 refine gW (λh1=>?_) λh1=>?_
 ·obtain⟨d,s,vs,hli,x,hsl⟩:=z.get (i:=i) a8;have e:=Yj x;obtain⟨K,m⟩:=L _ e;have J:=rP e;have c:=kX (fs:=fs) (ds:=ds.take i) q (λd hd=>L d (Yq hd));have hdz:=Fx ds i;rw[Yg]at c;simp only at K m J;obtain⟨a,h⟩:=ex (gm fs (ds.take i));rw[←h]at c⊢;have t:gm fs (ds.take (i+1))=a++uv vs.length++vs.flatMap (gD fs):=by rw[dK x,h];simp[gm,tx]
  have S:=gb (n:=vs.length) (k:=6) a8 a8;refine gk (k:=alc (k:=λb5=>?_));refine sto (k:=on_ (qn_ (ws_ (wr_ (e_ mv (e_ fla (e_ ldv (e_ lnn ?_))))))));refine e_ ((ad)) ?_;refine d2_ rfl (gl _ a8 a8) (on_ (qn_ (ws_ (wr_ ?_))));rw[show Wr r (a++uv vs.length)=Wr r (a++uv vs.length++(vs.take 0).flatMap (gD fs))from aq];refine gk (k:=e8 Nat (λy=>y≤vs.length) (λy=>[(29,iN y)]) [(0,_),(3,_),(14,_),(15,_),(16,_),(27,_),(28,_)] (λy=>[Wr r (a++uv vs.length++(vs.take y).flatMap (gD fs))]) _ (λy=>vs.length-y) (0) (h0:=?_) (k:=?_))
  ·exact Yl _
  rintro j hj
  try dsimp only[Yd,Ye]at*
  refine gW (λh2=>?_) λh2=>?_
  ·obtain⟨v,hv⟩:=gE vs j;have hvs:=m v (Yj hv);have hvl:=pC (fs:=fs) (vs:=vs.take j) q (λu S=>m u (Yq S));have hvz2:=wR vs j;obtain⟨E,p⟩:=ex (a++uv vs.length++(vs.take j).flatMap (gD fs));have hp2l:E.length≤100000000:=by rw[p];simp only[Ya];omega
   have w:a++uv vs.length++(vs.take (j+1)).flatMap (gD fs)=E++gD fs v:=by rw[p,dK hv];simp
   rw[←p];refine gk (k:=alc (k:=λT=>?_));refine go ?_;refine wD [6] (λk H=>(k=2→dQ H g [fv.val,dv.val,B,A])∧(k=3→dQ H g [fv.val,dv.val,B,A])∧(k=5→dQ H T [.string v.1,.string v.2])) (aF 0 (k:=aF 1 (k:=?_)));refine aN 2 rfl (λH hH=>bM) ?_;refine aN 3 rfl (λH hH=>by have hN:=hH.2.1 rfl;exact lds) ?_;refine aF 4 (k:=?_);refine go ?_;refine aS 6 rfl (lU (vs:= [_,_]) rfl (Wh a8)) ?_;rintro _ _ ⟨k,b,rfl,hkb,rfl⟩;refine gk (k:=aZ (qn_ (ws_ (wr_ ?_))));obtain⟨F,f⟩:=R _ e v (Yj hv);obtain rfl:F=k:=by
    rcases hkb with⟨_,h9⟩|⟨_,h9⟩
    ·rw[f]at h9;exact Xk h9
    ·rw[f]at h9;cases h9
   obtain⟨pf,M,_⟩:=rM f;have hkl:=(Yk.1 M).1;have hu2:=gb (n:=F) (k:=6) a8 a8;refine e_ mv (e_ mv ?_);refine e_ ((ad)) ?_;refine d2_ rfl (gl _ a8 a8) (go ?_);refine d2_ rfl (Jj _ aj a8) ?_;rw[show E++uv F++(uv v.2.size++dC v.2)=a++uv vs.length++(vs.take (j+1)).flatMap (gD fs)from by rw[w,gD,f];simp];refine go ?_;refine lN (j+1) ?_
   try dsimp only
   omega
  obtain rfl:j=vs.length:=a8;rw[Xn,←t];refine go ?_;refine lN (i+1) ?_
  try dsimp only
  omega
 obtain rfl:i=l.length:=a8;rw[show ds.take l.length=ds from by rw[N,Xn]];have c:=kX (fs:=fs) (ds:=ds) q L;refine go ?_;refine c1_ rfl (kK a8) ?_;rintro _ _ ⟨C,rfl,rfl⟩;refine gR ?_;exact⟨_,hsb,C,rfl,rfl⟩
end
section
variable {ds:List Doc}{fs:List FV}
theorem oI {α:Type} [DecidableEq α]:∀{l m:List α},l.Nodup→(∀x∈l,x∈m)→l.length≤m.length
 | [],_,_,_=>Yl _
 |a::l,m,hn,h=>by
  obtain⟨h1,h2⟩:=U1.1 hn;have h3:=oI (m:=m.erase a) h2 λx hx=>(List.mem_erase_of_ne (λe=>h1 (by rw[←e];exact hx))).2 (h x (Xa _ hx));have h4:=h a aq;rw[List.length_erase_of_mem h4]at h3;have:=List.length_pos_of_mem h4;simp only[Yb];omega
theorem zj (rs:List nQ) (i:Nat):(eV (rs.take i)).length≤(eV rs).length:=by
 conv=>rhs;rw[←Vd i rs,eV,S5,Ya]
 exact Nat.le_add_right _ _
structure mg (fs:List FV) (ds:List Doc):Prop where
 chk:iK fs=true
 few:ds.length≤4096
 pos:o8 (ds.map (·.1))=false
 up:rise (ds.map (·.1))=true
 ids:∀d∈ds,d.1<1099511627776
 vals:∀d∈ds,jv fs d.2=0
 size:dsz ds≤30000000
 toks:(fU fs ds).length≤2000000
theorem zE:∀{vs:List Val},lO fs vs=0→∀v∈vs,vW fs v=0
 | [],_,v,hv=>by simp at hv
 |u::vs,h,v,hv=>by
  rw[lO]at h
  split at h
  ·rename_i h0;rcases Xo.1 hv with rfl|hv
   ·exact h0
   ·exact zE h v hv
  ·rename_i h0;exact absurd h h0
theorem np {vs:List Val}(h:jv fs vs=0):vs.length≤64∧∀v∈vs,v.2.size≤4096∧∃k,ig fs (dC v.1)=some k:=by
 rw[jv]at h
 split at h
 ·cases h
 ·split at h
  ·cases h
  ·refine⟨a8,λv hv=>?_⟩;have h1:=zE h v hv;rw[vW]at h1
   split at h1
   ·cases h1
   ·rename_i k hk
    split at h1
    ·cases h1
    ·exact⟨a8,k,hk⟩
theorem mg.flen (h:mg fs ds):fs.length≤16:=(jx h.chk).1.2
theorem mg.q (h:mg fs ds):∀d∈ds,d.2.length≤100000000∧∀v∈d.2,v.2.size≤3000000:=λd hd=>by
 obtain⟨h1,h2⟩:=np (h.vals d hd);exact⟨a8,λv hv=>by have:=(h2 v hv).1;omega⟩
theorem mg.fd (h:mg fs ds):∀d∈ds,∀v∈d.2,∃k,ig fs (dC v.1)=some k:=λd hd v hv=>((np (h.vals d hd)).2 v hv).2
theorem Jd (w:List Nat):∀(i:Nat) (a:Option Nat) (out:List Tok),gj w i=(a,out)→∀(j:Nat) (t:Tok),out[j]? =some t→t.pos=j
 | 0,a,out,h,j,t,ht=>by cases h;simp at ht
 |i+1,a,out,h,j,t,ht=>by
  obtain⟨d,c,h0⟩:∃d c,gj w i=(d,c):=⟨_,_,rfl⟩;have e:=Jd w i d c h0;cases hin:inW w i with
  |true=>
   cases d with
   |none=>rw[mP h0 hin]at h;cases h;exact e j t ht
   |some b=>rw[uG h0 hin]at h;cases h;exact e j t ht
  |false=>
   cases d with
   |none=>rw[rp h0 hin]at h;cases h;exact e j t ht
   |some b=>
    rw[rq h0 hin]at h;cases h
    by_cases hj:j<c.length
    ·rw[Yv hj]at ht;exact e j t ht
    ·rw[Yu a8]at ht;have f:j-c.length=0:=by
            have:=(Yk.1 ht).1;simp at this;omega
     rw[f]at ht;simp at ht;subst ht;show c.length=j;omega
theorem uH (w:List Nat) {j:Nat}{t:Tok}(h:(gy w)[j]? =some t):t.pos=j:=Jd w _ _ _ rfl j t h
def oa (l:List Tok):Prop:=l.Pairwise λa b=>a.pos<b.pos
theorem E8 (w:List Nat):oa (gy w):=by
 rw[oa,T4];intro i j hi hj hij;have h1:=uH w (Yi hi);have h2:=uH w (Yi hj);omega
theorem xR {p:FV}{t u:Tok}(h:me p t=some u):u.pos=t.pos:=by
 rw[me]at h
 split at h
 ·split at h
  ·obtain rfl:=Xk h;rfl
  ·cases h
 ·cases h
theorem HJ (p:FV) (w:List Nat):oa (fF p w)∧∀t∈fF p w,t.pos<ir p w+1:=by
 rw[fF,ir]
 split
 ·rename_i hk
  constructor
  ·rw[oa,List.pairwise_filterMap];refine(E8 w).imp fun{a b} h u hu v hv=>?_;rw[xR hu,xR hv];exact h
  ·intro t c;obtain⟨t0,h0,hk⟩:=List.mem_filterMap.1 c;obtain⟨j,hj⟩:=Vo h0;have:=(Yk.1 hj).1;rw[xR hk,uH w hj];omega
 ·split
  ·split
   ·exact⟨by simp[oa],λt c=>by simp at c;subst c;simp⟩
   ·exact⟨by simp[oa],λt c=>by simp at c⟩
  ·split
   ·split
    ·exact⟨by simp[oa],λt c=>by simp at c;subst c;simp⟩
    ·exact⟨by simp[oa],λt c=>by simp at c⟩
   ·exact⟨by simp[oa],λt c=>by simp at c⟩
theorem D5 (p:FV) (vs:List Val):∀(i b:Nat) (out:List Tok),gM p vs i=(b,out)→oa out∧∀t∈out,t.pos<b
 | 0,b,out,h=>by cases h;exact⟨by simp[oa],aq⟩
 |i+1,b,out,h=>by
  obtain⟨e,d,h0⟩:∃e d,gM p vs i=(e,d):=⟨_,_,rfl⟩;obtain⟨g,f⟩:=D5 p vs i e d h0;rw[gM,h0]at h
  split at h
  ·cases h;exact⟨g,f⟩
  ·rename_i v hv
   split at h
   ·cases h;obtain⟨m,l⟩:=HJ p (dC v.2)
    constructor
    ·rw[oa,Uj];refine⟨g,U8.2 (m.imp fun{a c} hac=>?_),λa ha c hc=>?_⟩
     ·show a.pos+e<c.pos+e;omega
     ·obtain⟨n,hc0,rfl⟩:=Xt.1 hc;have:=f a ha;show a.pos<n.pos+e;omega
    ·intro t ht;rcases Xm.1 ht with ht|ht
     ·have:=f t ht;show t.pos<e+_;omega
     ·obtain⟨k,j,rfl⟩:=Xt.1 ht;have:=l k j;show k.pos+e<e+(ir p (dC v.2)+16);omega
   ·cases h;exact⟨g,f⟩
theorem yd (fs:List FV) (k:Nat) (vs:List Val):oa (eZ fs k vs)∧∀t∈eZ fs k vs,t.pos<vsz vs:=by
 unfold eZ
 split
 ·rename_i p hp;obtain⟨h1,h2⟩:=D5 p vs vs.length _ _ rfl;have h3:=(B7 p vs vs.length _ _ rfl).1;rw[Xn]at h3;exact⟨h1,λt a=>Q6 (h2 t a) h3⟩
 ·exact⟨by simp[oa],aq⟩
theorem wm (a b:List Tri) (k:List Nat):ofK (a++b) k=ofK a k++ofK b k:=by simp[ofK]
theorem rQ {f:Nat}:∀{l:List Doc}{k:Nat}{t:Tri},t∈gN fs f k l→∃j d u,l[j]? =some d∧u∈eZ fs f d.2∧t=(dC (tZ f (eG u.text)),k+j,u.pos)
 | [],k,t,h=>by simp[gN]at h
 |d::l,k,t,h=>by
  rcases Xm.1 h with h|h
  ·obtain⟨u,a,rfl⟩:=Xt.1 h;exact⟨0,d,u,rfl,a,rfl⟩
  ·obtain⟨j,b,u,h1,h2,h3⟩:=rQ h;exact⟨j+1,b,u,h1,h2,by rw[h3,V0,Nat.add_comm 1 j]⟩
theorem Dr (fs:List FV) (f:Nat):∀(l:List Doc) (k:Nat),(gN fs f k l).Pairwise λa b=>ltP a.2 b.2
 | [],_=>by simp[gN]
 |d::l,k=>by
  rw[gN,Uj];refine⟨U8.2 ((yd fs f d.2).1.imp fun{a b} h=>.inr ⟨rfl,h⟩),Dr fs f l (k+1),λa ha b c=>?_⟩;obtain⟨u,hu,rfl⟩:=Xt.1 ha;obtain⟨j,d',u',h1,h2,rfl⟩:=rQ c;exact .inl (by show k<k+1+j;omega)
theorem xu {n:Nat}{t:Tri}(h:t∈pL fs ds n):∃f j d u,f<n∧ds[j]? =some d∧u∈eZ fs f d.2∧t=(dC (tZ f (eG u.text)),j,u.pos):=by
 obtain⟨f,a,h⟩:=U4.1 h;obtain⟨j,d,u,h1,h2,h3⟩:=rQ h;exact⟨f,j,d,u,List.mem_range.1 a,h1,h2,by rw[h3,Vw]⟩
theorem AK (fs:List FV) (ds:List Doc) (k:List Nat):∀n,n≤256→(ofK (pL fs ds n) k).Pairwise ltP
 | 0,_=>by simp[pL,ofK]
 |n+1,h=>by
  rw[uU,wm,Uj];refine⟨AK fs ds k n a8,?_,λa ha b g=>?_⟩
  ·exact U8.2 ((Dr fs n ds 0).filter _)
  ·exfalso;obtain⟨f,j,d,u,h1,h2,h3,h4⟩:=xu (wk ha);obtain⟨j',d',e,h5,h6,i⟩:=rQ (wk g);have c:dC (tZ f (eG u.text))=dC (tZ n (eG e.text)):=((congrArg (λz:Tri=>z.1) h4).symm).trans (congrArg (λz:Tri=>z.1) i);simp only[rR]at c;have:=(List.cons.inj c).1;omega
theorem mg.goodT (h:mg fs ds):yF (fU fs ds):=by
 have hf:=h.flen;refine⟨λk=>AK fs ds k fs.length a8,by have:=h.toks;omega,λt a=>?_⟩;obtain⟨f,j,d,u,h1,h2,h3,rfl⟩:=xu a;have hs:=vY h3;have hp:=(yd fs f d.2).2 u h3;have hv:=rP (Yj h2);have hj:=(Yk.1 h2).1;have hz:=h.size;have hfew:=h.few;have hl:(dC (tZ f (eG u.text))).length=1+u.text.length:=by rw[rR,Yb,dI,j9];omega
 refine⟨bJ,bJ,λx hx=>lZ _ x hx,bJ,bJ⟩
end
section
variable {ds:List Doc}{e:En}{fs:List FV}{k:List Nat}{ts:List Tri}
theorem G8:∀(ts:List Tri) (a:List (List Nat)),a.Nodup→(a.map λk=>(ofK ts k).length).sum≤ts.length
 | [],a,_=>by
  have:∀a:List (List Nat),(a.map λk=>(ofK [] k).length).sum=0:=by
   intro a;induction a with
   |nil=>rfl
   |cons k a ih=>
      rw[Xs,Vv,ih];rfl
  rw[this];exact Yl _
 |t::ts,a,hn=>by
  have h1:=G8 ts a hn;have h2:∀a:List (List Nat),a.Nodup→(a.map λk=>(ofK (t::ts) k).length).sum≤(a.map λk=>(ofK ts k).length).sum+(if t.1∈a then 1 else 0):=by
   intro a
   induction a with
   |nil=>intro _;simp
   |cons k a ih=>
    intro hn;obtain⟨h3,h4⟩:=U1.1 hn;have h5:=ih h4;simp only[Xs,Vv,Xo]
    by_cases he:t.1=k
    ·have h6:(ofK (t::ts) k).length=(ofK ts k).length+1:=by simp[ofK,he]
     rw[if_neg (by rw[he];exact h3)]at h5;rw[h6,if_pos (.inl he)];omega
    ·have h6:(ofK (t::ts) k).length=(ofK ts k).length:=by simp[ofK,he]
     rw[h6]
     by_cases hm:t.1∈a
     ·rw[if_pos hm]at h5;rw[if_pos (.inr hm)];omega
     ·rw[if_neg hm]at h5;rw[if_neg (by rintro(h|h);exact he h;exact hm h)];omega
  have h3:=h2 a hn;simp only[Yb]
  split at h3 <;> omega
theorem xl {ks:List (List Nat)}(h:tm ks):ks.Nodup:=List.Pairwise.imp (R:=λa b=>a<b) (S:=λa b=>a≠b) (fun{a b} hab e=>ni a (by rw[←e]at hab;exact hab)) h
theorem OZ (h:k∈ts.map (·.1)):1≤(ofK ts k).length:=by
 obtain⟨t,a,rfl⟩:=Xt.1 h;have:t.2∈ofK ts t.1:=Xt.2 ⟨t,List.mem_filter.2 ⟨a,Ys rfl⟩,rfl⟩;exact List.length_pos_of_mem this
theorem H8 (h:yF ts) (hk:k∈ts.map (·.1)):(eO (jI (ofK ts k))).length≤86*(ofK ts k).length:=by
 obtain⟨h1,h2,h3⟩:=oP h (k:=k);obtain⟨h4,h5⟩:=rK (ofK ts k);have h6:=h.few;have h7:=zO h2 a8;have h8:=OZ hk;omega
theorem uV (h:yF ts):(eV (eE ts)).length≤86*ts.length:=by
 have b:∀a:List (List Nat),(∀k∈a,k∈ts.map (·.1))→(eV (a.map λk=>(k,jI (ofK ts k)))).length≤86*(a.map λk=>(ofK ts k).length).sum:=by
  intro a
  induction a with
  |nil=>intro _;simp[eV]
  |cons k a ih=>
   intro hk;have h1:=ih λx hx=>hk x (Xa _ hx);have h2:=H8 h (hk k aq);simp only[eV,Xs,Vx,Ya,Vv]at h1⊢;omega
 have h1:=b (oA (ts.map (·.1))) λk hk=>(lJ _ _).1 hk;have h2:=G8 ts _ (xl (kN (ts.map (·.1))));rw[eE];omega
theorem tJ (ts:List Tri):(eE ts).length≤ts.length:=by
 have h:=oI (l:=oA (ts.map (·.1))) (m:=ts.map (·.1)) (xl (kN _)) λx hx=>(lJ _ _).1 hx;rw[eE,Yh]
 simpa using h
theorem tK {i:Nat}{p:nQ}(h:(eE ts)[i]? =some p):p.1∈ts.map (·.1)∧p.2=jI (ofK ts p.1)∧(oA (ts.map (·.1)))[i]? =some p.1:=by
 rw[eE,Xd]at h;cases hk:(oA (ts.map (·.1)))[i]? with
 |none=>rw[hk]at h;cases h
 |some k=>
  rw[hk]at h;obtain rfl:=Xk h;exact⟨(lJ _ _).1 (Yj hk),rfl,rfl⟩
theorem yh {rs:List nQ}{n i:Nat}(h:(j8 n rs)[i]? =some e):∃p,rs[i]? =some p∧e=⟨eG p.1,p.2.length,ec p.2,n+(eV (rs.take i)).length,(eO p.2).length⟩:=by
 have hi:=(Yk.1 h).1;rw[ka]at hi;have h2:=oV (n:=n) (Yi hi);rw[h]at h2;exact⟨_,Yi hi,Xk h2⟩
theorem vg (h:yF ts) (hk:k∈ts.map (·.1)):dC (eG k)=k∧1≤k.length∧k.length≤65:=by
 obtain⟨t,a,rfl⟩:=Xt.1 hk;obtain⟨h1,h2,h3,_⟩:=h.small t a;exact⟨fD h3,h2,h1⟩
theorem H6 (h:yF ts) (hf:ts.length≤2000000):w9 (j8 0 (eE ts)):=by
 constructor
 ·intro e he;obtain⟨i,hi⟩:=Vo he;obtain⟨p,hp,rfl⟩:=yh hi;obtain⟨h1,h2,_⟩:=tK hp;obtain⟨_,h3,h4⟩:=vg h h1;obtain⟨h5,h6⟩:=rK (ofK ts p.1);have h7:=AN ts p.1;have h8:=H8 h h1;have h9:=uV h;have h10:=zj (eE ts) i;rw[←h2]at h5 h6 h8;have hsz:=j9 p.1;refine⟨bJ,bJ,bJ,bJ,bJ,bJ⟩
 ·intro i a b ha d;obtain⟨p,hp,rfl⟩:=yh ha;obtain⟨q,c,rfl⟩:=yh d;obtain⟨h1,_,h2⟩:=tK hp;obtain⟨h3,_,h4⟩:=tK c;simp only[(vg h h1).1,(vg h h3).1];have h5:=T4.1 (kN (ts.map (·.1)));have h6:=h5 i (i+1) (Yk.1 h2).1 (Yk.1 h4).1 a8;rw[(Yk.1 h2).2,(Yk.1 h4).2]at h6;exact h6
theorem PT {prev:List Nat}(h1:e.key.size≤65) (h:e.docs<1099511627776∧e.tot<1099511627776∧e.at_<1099511627776∧e.size<1099511627776):(oX prev e).length≤101:=by
 have h0:=n6 prev (dC e.key);have hb:=dI e.key;have h1:=gb (n:=eY prev (dC e.key)) (k:=6) a8 a8;have h2:=gb (n:=(dC e.key).length-eY prev (dC e.key)) (k:=6) a8 a8;have h3:=gb (n:=e.docs) (k:=6) h.1 a8;have h4:=gb (n:=e.tot) (k:=6) h.2.1 a8;have h5:=gb (n:=e.at_) (k:=6) h.2.2.1 a8;have h6:=gb (n:=e.size) (k:=6) h.2.2.2 a8;simp only[oX,Ya,Yo];omega
theorem Df:∀{l:List En}{p:List Nat},(∀e∈l,e.key.size≤65)→lV l→(fe p l).length≤101*l.length
 | [],_,_,_=>by simp[fe]
 |e::r,p,hk,h=>by
  have h1:=PT (prev:=p) (hk e aq) (h e aq).2;have h2:=Df (p:=dC e.key) (λx hx=>hk x (Xa _ hx)) (λx hx=>h x (Xa _ hx));simp only[fe,Ya,Yb];omega
theorem Dw {l:List En}(h:w9 l) (hn:l.length<1099511627776):(iC l).length≤2000+110*l.length:=by
 have b:=xF h;have a:∀k,(eH l k).2.length≤1616*k:=by
  intro k
  induction k with
  |zero=>simp[eH]
  |succ k ih=>
   have h3:=Df (p:= []) (l:=gB l k) (λe he=>(h.1 e (DK he)).2.1) (qN b k);have h4:=ri l k;simp only[eH,Ya];omega
 have h1:=(qf b (gO l)).1;have h2:=a (gO l);have h3:=gb (n:=l.length) (k:=6) hn a8;have h5:16*gO l≤l.length+15:=cS;simp only[iC,Ya];omega
theorem AT (fs:List FV) (h:dsz ds≤30000000) (f:Nat):∀x∈eL fs ds f,x<1099511627776:=by
 intro x hx;obtain⟨d,hd,rfl⟩:=Xt.1 hx;have:=oU fs f d.2;have:=rP hd;omega
theorem oK {fs:List FV}{ds:List Doc}(h:dsz ds≤30000000) (hn:ds.length≤4096):∀n,(nX fs ds n).length≤20490*n
 | 0=>by simp[nX]
 |n+1=>by
  have h1:=oK (fs:=fs) h hn n;have h2:=kY (AT fs h n) (by rw[eL,Yh];omega);rw[show(eL fs ds n).length=ds.length from du]at h2;have e:nX fs ds (n+1)=nX fs ds n++ff (eL fs ds n):=by simp[nX,X9]
  rw[e,Ya];omega
theorem Ls (h:dsz ds≤30000000) (n:Nat):∀x∈nX fs ds n,x<256:=by
 intro x hx;obtain⟨f,_,hx⟩:=U4.1 hx;exact sU (AT fs h f) x hx
theorem Cq:∀(l:List Int) (n:Int),∀x∈iQ n l,x<256
 | [],_,x,hx=>by simp[iQ]at hx
 |y::l,n,x,hx=>by
  rw[iQ]at hx;rcases Xm.1 hx with hx|hx
  ·exact kz _ x hx
  ·exact Cq l _ x hx
theorem mg.blocks (h:mg fs ds):(∀q∈oC fs ds,0<q.1∧q.1<256∧∀x∈q.2,x<256)∧(fN (oC fs ds)).length≤1000000000∧w9 (j8 0 (eE (fU fs ds)))∧(eV (eE (fU fs ds))).length≤2147483647:=by
 have b:=h.goodT;have g:=h.toks;have c:=h.size;have hn:=h.few;have hfl:=h.flen;have f:=H6 b g;have h1:=uV b;have h2:=tJ (fU fs ds);have h3:=Dw f (by rw[ka];omega);rw[ka]at h3;have h4:=Dj h.chk;have h5:=oK (fs:=fs) c hn fs.length;have h6:=kX (fs:=fs) (ds:=ds) a8 h.q;have j:=rB (l:=ds.map (·.1)) h.pos (λx hx=>bU);rw[Yh]at j;have h8:=gb (n:=ds.length) (k:=6) a8 a8;have hI:(pU ds).length≤10*4096+6:=by rw[pU,Ya];omega
 refine⟨?_,?_,f,a8⟩
 ·intro q e;simp only[oC,Xo,S9,or_false]at e;rcases e with rfl|rfl|rfl|rfl|rfl|rfl
  ·exact⟨aq,aq,PU h.chk⟩
  ·refine⟨aq,aq,λx hx=>?_⟩;rcases Xm.1 hx with hx|hx
   ·exact kz _ x hx
   ·exact Cq _ _ x hx
  ·exact⟨aq,aq,Ls c _⟩
  ·exact⟨aq,aq,Dx _⟩
  ·refine⟨aq,aq,λx hx=>?_⟩;obtain⟨p,hp,hx⟩:=U4.1 hx;obtain⟨i,hi⟩:=Vo hp;obtain⟨_,h9,_⟩:=tK hi;rw[h9]at hx;exact Dk (oP b).2.1 x hx
  ·refine⟨aq,aq,λx hx=>?_⟩;obtain⟨d,_,hx⟩:=U4.1 hx;rcases Xm.1 hx with hx|hx
   ·exact kz _ x hx
   ·obtain⟨v,_,hx⟩:=U4.1 hx;rcases Xm.1 hx with hx|hx
    ·exact kz _ x hx
    ·rcases Xm.1 hx with hx|hx
     ·exact kz _ x hx
     ·exact lZ _ x hx
 ·have a:∀n,n<1099511627776→(uv n).length≤6:=λn hn=>gb hn a8;simp only[fN,oC,Vx,List.flatMap_nil,Ya,Yc,uk];have u1:=a (Bh fs).length a8;have u2:=a (pU ds).length a8;have u3:=a (nX fs ds fs.length).length a8;have u4:=a (iC (j8 0 (eE (fU fs ds)))).length a8;have u5:=a (eV (eE (fU fs ds))).length a8;have u6:=a (gm fs ds).length a8;omega
end
section
variable {H R:dD}{e:EG}{es:List EG}{i:Nat}
def ot:Prop:=∀(G:dJ) (H R:dD) (s:SV) (ss:List ByteArray),mh H s eS ss R→ss.length≤1000000000→SC G prog 215 [s.val] H (λv H'=>v=.tuple #[]∧∃ss':List ByteArray,ss'.Perm ss∧(ss'.map dC).Pairwise (λa b=>¬b<a)∧H'=Row s eS ss'::R)
theorem vM:∀{l:List (List Nat)},l.Nodup→l.Pairwise (λa b=>¬b<a)→tm l
 | [],_,_=>List.Pairwise.nil
 |a::l,hn,h=>by
  obtain⟨h1,h2⟩:=U1.1 hn;obtain⟨h3,h4⟩:=Vl.1 h;refine Vl.2 ⟨λb c=>?_,vM h2 h4⟩
  by_cases hlt:a<b
  ·exact hlt
  ·exact absurd (v7 hlt (λe=>h1 (e ▸ c))) (h3 b c)
theorem Wn (hr:nR H (Cl egH es) R) (he:es[i]? =some e):Sl H e.s ePo (e.l.map pgV):=
 ee (gJ hr (Bj he)) inferInstance
theorem Gt (hr:nR H (Cl egH es) R) (he:es[i]? =some e):su H (e.l.map pgV) (e.l.map pgP):=by
 refine⟨aq,λj p q hp a=>?_⟩;rw[Xd]at hp a;cases hj:e.l[j]? with
 |none=>rw[hj]at hp;cases hp
 |some x=>
  rw[hj]at hp a;obtain rfl:=Xk hp;obtain rfl:=Xk a;exact⟨rfl,show Sl H x.s eI (dT x.pos)from ee (gJ hr ((Bj he).trans (dH.drop (rD hj)))) inferInstance⟩
theorem RV {G:dJ}{g r:Nat}{v1 v2 v3:Value}{c:List Tri} [hg0:Glb G R] [hv:dQ R g [v1,v2,v3,.map (some r)]] [hr:Rem H kl r c R] (hS:ot) (Y:yF c) (b2:w9 (j8 0 (eE c))) (hpl:(eV (eE c)).length≤2147483647):SC G prog 162 [pA g] H (λv H'=>∃a b:SV,v=.tuple #[a.val,b.val,.nilIface]∧H'=Row a eB (iC (j8 0 (eE c)))::Row b eB (eV (eE c))::R):=by
 have hfew:=Y.few;refine sWk func162 ?_;refine ws_ (wr_ (e_ asn (e_ asn (e_ asn (on_ (qn_ (ws_ (wr_ ?_))))))));refine Gz hr λes f=>?_;have b3:=vf f;have hkl:(kvs es).length≤c.length:=by
  have h1:=oI (m:=c.map (·.1)) f.nodup λx hx=>(f.keys x).1 hx
  simpa [pe,kvs] using h1
 refine e_ mv (e_ nck (e_ fla (e_ ldv ?_)));refine e_ (PO rfl) ?_;refine s_ (gn eS ⟨#[]⟩ rfl rfl 0 (kvs es).length rfl rfl rfl a8 a8 a8) ?_;rintro _ _ ⟨a6,rfl,hs24n,hs24c,rfl⟩;refine go ?_;refine s_ (K4 rfl) ?_;rintro _ _ ⟨it,rfl,rfl⟩;refine gk (k:=e8 ((List ByteArray)×SV) (λy=>y.1.Nodup∧∀k∈y.1,k∈(kvs es).map (·.1)) (λy=>[(5,y.2.val)]) [(0,_),(29,_)] (λy=>[Rg (r,it) (kvs es,y.1),Row y.2 eS y.1]) _ (λy=>(kvs es).length-y.1.length) (([],a6)) (h0:=?_) (k:=?_))
 ·try dsimp only
  exact⟨List.nodup_nil,λk hk=>by simp at hk⟩
 rintro⟨d,s⟩ ⟨F,J⟩
 try dsimp only[Yd,Ye]at*
 refine go ?_;refine s_ (O5 (r:=r) rfl) ?_;rintro _ _ (⟨i,k,v,V,b5,rfl,rfl⟩|⟨a2,rfl,rfl⟩)
 ·have A:(d++ [k]).Nodup:=List.nodup_append.2 ⟨F,aq,λa ha b hb=>by simp at hb;subst hb;rintro rfl;exact b5 ha⟩;have B:∀x∈d++ [k],x∈(kvs es).map (·.1):=λx hx=>by
   rcases Xm.1 hx with hx|hx
   ·exact J x hx
   ·simp at hx;subst hx;exact Xt.2 ⟨_,Yj V,rfl⟩
  have hdl:=oI A B;rw[Ya,Yh,Ul]at hdl;refine gk (k:=ift (k:=wk_ (qn_ (wb_ (ws_ (wr_ ?_))))));refine e_ (Ms (q:=(kvs es,d++ [k])) (r:=r) (it:=it) rfl rfl V) ?_;refine gk (k:=fS eS (k:=λs36=>?_));refine app (k:=λa5=>?_);refine go ?_;refine ln_ ((d++ [k],a5)) (h2:=?_) (k:=?_)
  ·try dsimp only
   rw[Ya,Ul];omega
  exact⟨A,B⟩
 have hdl:=oI F J;rw[Yh]at hdl;have b0:d.Perm ((kvs es).map (·.1)):=(List.perm_ext_iff_of_nodup F b3).2 λx=>⟨J x,λhx=>by obtain⟨p,hp,rfl⟩:=Xt.1 hx;exact a2 p hp⟩;refine gk (k:=fM (k:=go ?_));refine eu (Qu (r:=r) (it:=it) inferInstance dH.refl) ?_;refine go ?_;refine c1_ rfl (hS G _ _ s d inferInstance a8) ?_;rintro _ _ ⟨rfl,h,b1,E,rfl⟩;have w:=b1.trans b0;have hksl:h.length=(kvs es).length:=by rw[w.length_eq,Yh]
 have X:h.map dC=oA (c.map (·.1)):=by
  refine xm (vM ?_ E) (kN _) λx=>?_
  ·have h1:=(w.map dC).nodup_iff.2 (by have h2:=f.nodup;rw[rV]at h2;simpa [Function.comp_def] using h2);exact h1
  ·rw[lJ,←f.keys,rV,(w.map dC).mem_iff];simp[Function.comp_def]
 have S:(eE c).length=h.length:=by rw[eE,Yh,←X,Yh]
 have a7:∀{i:Nat}{q:ByteArray},h[i]? =some q→(eE c)[i]? =some (dC q,jI (ofK c (dC q))):=fun{i q} hq=>by rw[eE,Xd,←X,Xd,hq];rfl
 have b7:=ka (eE c) 0;refine go ?_;refine c0_ rfl iM ?_;rintro _ _ ⟨bw,rfl,rfl⟩;refine go ?_;refine s_ (gn eEn ⟨⟨#[]⟩,0,0,0,0⟩ rfl rfl 0 h.length rfl rfl rfl a8 a8 a8) ?_;rintro _ _ ⟨C,rfl,hs43n,hs43c,rfl⟩;refine e_ asn (on_ (qn_ (ws_ (ws_ (wr_ ?_)))));rw[show Row C eEn (List.replicate 0 (⟨⟨#[]⟩,0,0,0,0⟩:En))=Row C eEn ((j8 0 (eE c)).take 0)from rfl,show Wr bw []=Wr bw (eV ((eE c).take 0))from rfl];refine gk (k:=e8 (Nat×SV) (λy=>y.1≤h.length) (λy=>[(8,y.2.val),(46,iN y.1)]) [(0,_),(7,_),(44,_),(45,_)] (λy=>[Row y.2 eEn ((j8 0 (eE c)).take y.1),Wr bw (eV ((eE c).take y.1))]) _ (λy=>h.length-y.1) ((0,C)) (h0:=?_) (k:=?_))
 ·exact Yl _
 rintro⟨i,u⟩ hi
 try dsimp only[Yd,Ye]at*
 refine gW (λh1=>?_) λh1=>?_
 ·obtain⟨q,hq⟩:=gE h i;have t:=a7 hq;have l:=oV (n:=0) t;have a9:q∈(kvs es).map (·.1):=w.mem_iff.1 (Yj hq);have z:=oP Y (k:=dC q);have j:(eV ((eE c).take (i+1))).length≤(eV (eE c)).length:=zj _ _;rw[qR t,Ya]at j;rw[Vw]at l;simp only at l j;refine go ?_;refine s_ (Cc rfl rfl) ?_;rintro _ _ ⟨rfl,(⟨m,e,he,b8,rfl⟩|⟨hno,rfl⟩)⟩
  ·have Z:=f.vals _ (Yj (uC he));simp only[b8]at Z;rw[←Z]at t l j z;refine e_ asn (on_ (qn_ (ws_ (wr_ ?_))));haveI hsle:=Wn (H:=Cl egH es::R) inferInstance he;have M:(e.l.map pgV).length=(e.l.map pgP).length:=aq;have b6:=Gt (H:=Cl egH es::R) inferInstance he;have hvl:(e.l.map pgV).length=e.l.length:=aq;have hgs:=z.2.1.1;refine go ?_;refine c1_ rfl (Sg (Gt inferInstance he) z.1 z.2.1 a8) ?_;rintro _ _ ⟨s58,rfl,rfl⟩;refine e_ mv (e_ exr (e_ exr (e_ asn (e_ asn (on_ (qn_ (ws_ (ws_ (wr_ (e_ mv ?_))))))))));refine e_ (dL rfl) ?_;refine gk (k:=fM (k:=go ?_));refine d1_ rfl YW (e_ mv (e_ lnn (e_ (bld [(0,_),(1,_),(3,_),(4,_)]) (alc (k:=λK=>?_)))));refine sto (k:=on_ (qn_ (ws_ (ws_ (wr_ ?_)))));rw[show Vr K [.string q,iN ((e.l.map pgV).length),.int .i64 0,iN ((eV ((eE c).take i)).length),iN ((eO (e.l.map pgP)).length)]=Vr K [.string q,iN ((e.l.map pgP).length),iN (ec ((e.l.map pgP).take 0)),iN ((eV ((eE c).take i)).length),iN ((eO (e.l.map pgP)).length)]from by rw[M];rfl];refine gk (k:=e8 Nat (λy=>y≤(e.l.map pgV).length) (λy=>[(74,iN y)]) [(0,_),(7,_),(8,_),(12,_),(14,_),(44,_),(45,_),(46,_),(72,_),(73,_)] (λy=>[Vr K [.string q,iN ((e.l.map pgP).length),iN (ec ((e.l.map pgP).take y)),iN ((eV ((eE c).take i)).length),iN ((eO (e.l.map pgP)).length)]]) _ (λy=>(e.l.map pgV).length-y) (0) (h0:=?_) (k:=?_))
   ·exact Yl _
   rintro m hm
   try dsimp only[Yd,Ye]at*
   refine gW (λh2=>?_) λh2=>?_
   ·obtain⟨lp,U⟩:=gE e.l m;have b4:(e.l.map pgV)[m]? =some (lp.d,lp.s):=by rw[Xd,U];rfl
    have T:(e.l.map pgP)[m]? =some (lp.d,lp.pos):=by rw[Xd,U];rfl
    haveI hslp:Sl (Cl egH es::R) lp.s eI (dT lp.pos):=(b6.2 m _ _ b4 T).2;have hil:=eJ lp.pos;have N:=ry T;simp only at N;have htl:ec ((e.l.map pgP).take (m+1))≤ec (e.l.map pgP):=by
     conv=>rhs;rw[←Vd (m+1) (e.l.map pgP),m6]
     exact Nat.le_add_right _ _
    refine gk (k:=alc (k:=λb16=>?_));refine sto (k:=on_ (qn_ (wr_ (e_ fla (e_ ldv (e_ fla (e_ ldv (e_ lnn ?_))))))));refine e_ (evq iad (congrArg (Value.int .i64) (show _=((ec ((e.l.map pgP).take (m+1)):Nat):Int)from a8))) (go ?_);refine lN (m+1) ?_
    try dsimp only
    omega
   obtain rfl:m=(e.l.map pgV).length:=a8;rw[show(e.l.map pgP).take (e.l.map pgV).length=e.l.map pgP from by rw[M,Xn]];have a1:eG (dC q)=q:=jW _;rw[a1]at l;have a0:=dK l;have htkl:((j8 0 (eE c)).take i).length≤h.length:=az;refine gk (k:=fS eEn (k:=λs88=>?_));refine app (k:=λa4=>?_);rw[←a0];refine go ?_;refine d2_ rfl (Eb a8 a8) ?_;rw[show eV ((eE c).take i)++eO (e.l.map pgP)=eV ((eE c).take (i+1))from(qR t).symm];refine go ?_;refine lN ((i+1,a4)) ?_
   try dsimp only
   omega
  exact absurd a9 hno
 obtain rfl:i=h.length:=a8;rw[show(j8 0 (eE c)).take h.length=j8 0 (eE c)from by rw[←S,←b7,Xn],show(eE c).take h.length=eE c from by rw[←S,Xn]];refine go ?_;refine c1_ rfl (Wj a8 b2) ?_;rintro _ _ ⟨a3,rfl,rfl⟩;refine go ?_;refine c1_ rfl (kK a8) ?_;rintro _ _ ⟨L,rfl,rfl⟩;refine gR ?_;exact⟨_,hsb,a3,L,rfl,rfl⟩
end
section
variable {G:dJ}{H R:dD}{ds:List Doc}{fs:List FV}{l:List (Int×SV)}{s:SV}{zs:List (SV×List Nat)}
theorem SA [hg:Glb G H] [hs:Sl H s eF fs] (hc:iK fs=true):SC G prog 161 [.agg #[s.val]] H (λv b=>∃a:SV,v=.tuple #[a.val,.nilIface]∧b=Row a eB (Bh fs)::H):=
 (Ol (fs:=fs) (by have:=jx hc;omega) (λf c=>by have:=((jx hc).2 f c).1;omega)).mono λv b h=>by
   rcases h with⟨h,_⟩|⟨_,h⟩
   ·rw[hc]at h;cases h
   ·exact h
theorem HC {b:Nat}{xs:List Nat}{l:List Int} [hg:Glb G R] [hr:Rem H Wr b xs R] [Sl R s eI l] (hn:xs.length≤100000000000) (hm:l.length≤10000000000) (hl:∀x∈l,x≤9223372036854775807) (h1:o8 l=false) (h2:rise l=true):SC G prog 164 [pA b,s.val] H (λv a=>v=.nilIface∧a=Wr b (xs++(uv l.length++iQ (-1) l))::R):=
 (Nq hn hm hl).mono λv a h=>by
   rcases h with⟨h,_⟩|⟨_,h,_⟩|⟨_,_,h⟩
   ·rw[h1]at h;cases h
   ·rw[h2]at h;cases h
   ·exact h
theorem Ra {i:Nat}{z:SV×List Nat}(hr:nR H (Cl lnH zs) R) (h:zs[i]? =some z):Sl H z.1 eI (dT z.2):=ee (gJ hr (GI h)) inferInstance
theorem gK.less {H':dD}(hs:dH H' H) (h:gK H l ds):gK H' l ds:=⟨h.1,λi p q hp a=>by
 obtain⟨h1,h2⟩:=h.2 i p q hp a;exact⟨h1,ee hs h2⟩⟩
def qw (k:Nat):List SV→List (Nat×SV)
 | []=>[]
 |s::l=>(k,s)::qw (k+1) l
theorem BT:∀(l:List SV) (k:Nat),(qw k l).length=l.length
 | [],_=>rfl
 |s::l,k=>by simp[qw,BT l]
theorem BU:∀{l:List SV}{k i:Nat}{s:SV},l[i]? =some s→(qw k l)[i]? =some (k+i,s)
 | [],_,_,_,h=>aK
 |q::l,k,0,s,h=>bI
 |q::l,k,i+1,s,h=>by
  rw[Xc]at h;rw[qw,Xc,BU h];congr 2;omega
theorem YR {a b c d e f:SV}{p q r s t u:List Nat} [h1:Sl H a eB p] [h2:Sl H b eB q] [h3:Sl H c eB r] [h4:Sl H d eB s] [h5:Sl H e eB t] [h6:Sl H f eB u]:sy H (qw 1 [a,b,c,d,e,f]) [(1,p),(2,q),(3,r),(4,s),(5,t),(6,u)]:=⟨rfl,λi x y hx hy=>by
 match i,hx,hy with
 | 0,hx,hy=>simp[qw]at hx hy;subst hx;subst hy;exact⟨rfl,h1⟩
 | 1,hx,hy=>simp[qw]at hx hy;subst hx;subst hy;exact⟨rfl,h2⟩
 | 2,hx,hy=>simp[qw]at hx hy;subst hx;subst hy;exact⟨rfl,h3⟩
 | 3,hx,hy=>simp[qw]at hx hy;subst hx;subst hy;exact⟨rfl,h4⟩
 | 4,hx,hy=>simp[qw]at hx hy;subst hx;subst hy;exact⟨rfl,h5⟩
 | 5,hx,hy=>simp[qw]at hx hy;subst hx;subst hy;exact⟨rfl,h6⟩
 |n+6,hx,hy=>simp[qw]at hx⟩
theorem RW {R2:dD}{g r:Nat}{fv dv lv:SV} [hg0:Glb G R] [Tab R 27 oc] [Tab R 25 mA] [hv:dQ R g [fv.val,dv.val,lv.val,.map (some r)]] [hf:Sl R fv eF fs] [hd:Sl R dv eD l] [hl:Sl R lv eSV (zs.map (·.1))] [hz:nR R (Cl lnH zs) R2] [hr:Rem H kl r (fU fs ds) R] (hS:ot) (a:mg fs ds) (t:gK R l ds) (hzs:zs.map (·.2)=(List.range fs.length).map (eL fs ds)):SC G prog 115 [pA g] H (λv H'=>∃s:SV,v=.tuple #[s.val,.nilIface]∧H'=Row s eB (Ck fs ds)::R):=by
 have S:=t.1;have hfl:=a.flen;have j:=a.few;obtain⟨Z,Y,X,V⟩:=a.blocks;have J:∀x∈ds.map (·.1),x<1099511627776:=λx hx=>by obtain⟨d,hd,rfl⟩:=Xt.1 hx;exact a.ids d hd
 have f:(ds.map (·.1)).length=l.length:=by rw[Yh,S]
 have hzl:zs.length=fs.length:=by have:=congrArg List.length hzs;simpa using this
 have hzml:(zs.map (·.1)).length=fs.length:=by rw[Yh,hzl]
 have c:=a.size;refine SC.rem (h:=hr) ?_;refine sWk func115 ?_;refine go ?_;refine c1_ rfl (SA a.chk) ?_;rintro _ _ ⟨C,rfl,rfl⟩;refine e_ mv (e_ exr (e_ exr (e_ asn (e_ asn (on_ (qn_ (ws_ (ws_ (wr_ (e_ mv ?_))))))))));refine e_ (dL rfl) ?_;refine gk (k:=fM (k:=go ?_));refine c1_ rfl (RV (r:=r) hS a.goodT X V) ?_;rintro _ _ ⟨sa,sb,rfl,rfl⟩;refine e_ mv (e_ exr (e_ exr (e_ exr (e_ asn (e_ asn (e_ asn (on_ (qn_ (ws_ (ws_ (wr_ (e_ mv ?_))))))))))));refine e_ (dL rfl) ?_;refine gk (k:=fM (k:=go ?_));refine s_ (gn eI 0 rfl rfl _ _ rfl rfl rfl a8 a8 a8) ?_;rintro _ _ ⟨m,rfl,hs45n,hs45c,rfl⟩;refine e_ asn (on_ (qn_ (ws_ (ws_ (wr_ ?_)))));rw[show Row m eI (List.replicate l.length (0:Int))=Row m eI (gx (ds.map (·.1)) 0 0)from by rw[mW,f]];refine gk (k:=e8 Nat (λy=>y≤l.length) (λy=>[(51,iN y)]) [(0,_),(4,_),(6,_),(7,_),(8,_),(49,_),(50,_)] (λy=>[Row m eI (gx (ds.map (·.1)) 0 y)]) _ (λy=>l.length-y) (0) (h0:=?_) (k:=?_))
 ·exact Yl _
 rintro i hi
 try dsimp only[Yd,Ye]at*
 refine gW (λh1=>?_) λh1=>?_
 ·obtain⟨d,s,vs,hli,U,N⟩:=t.get (i:=i) a8;have hg1:(ds.map (·.1))[i]? =some d:=by rw[Xd,U];rfl
  have hfll:=kG (full:=ds.map (·.1)) (z:=(0:Int)) (i:=i) a8;refine gk (k:=alc (k:=λb10=>?_));refine go ?_;refine s_ (et (i:=i) rfl rfl rfl a8) ?_;rintro _ _ ⟨rfl,rfl⟩;rw[oT hg1];refine go ?_;refine lN (i+1) ?_
  try dsimp only
  omega
 obtain rfl:i=l.length:=a8;rw[show gx (ds.map (·.1)) 0 l.length=ds.map (·.1)from by rw[←f,nu]];refine go ?_;refine c0_ rfl iM ?_;rintro _ _ ⟨bw,rfl,rfl⟩;refine go ?_;refine d2_ rfl (HC aq a8 (λx hx=>by have:=J x hx;omega) a.pos a.up) ?_;rw[show []++(uv (ds.map (·.1)).length++iQ (-1) (ds.map (·.1)))=pU ds from by rw[pU,Yh];rfl];have hIl:(pU ds).length≤50000:=by
  have h1:=rB a.pos (λx hx=>by have:=J x hx;omega);have h2:=gb (n:=ds.length) (k:=6) a8 a8;rw[pU,Ya];omega
 refine e_ asn (on_ (qn_ (ws_ (wr_ (e_ mv ?_)))));refine e_ (dL rfl) ?_;refine gk (k:=fM (k:=go ?_));refine c1_ rfl (kK a8) ?_;rintro _ _ ⟨B,rfl,rfl⟩;refine go ?_;refine d1_ rfl Rt ?_;rw[show Wr bw []=Wr bw (nX fs ds 0)from rfl];refine go ?_;refine e8 Nat (λy=>y≤fs.length) (λy=>[(78,iN y)]) [(0,_),(4,_),(6,_),(7,_),(11,_),(13,_),(76,_),(77,_)] (λy=>[Wr bw (nX fs ds y)]) _ (λy=>fs.length-y) (0) (h0:=?_) (k:=?_)
 ·exact Yl _
 rintro i hi
 try dsimp only[Yd,Ye]at*
 refine gW (λh2=>?_) λh2=>?_
 ·obtain⟨z,p⟩:=gE zs i;have hz1:(zs.map (·.1))[i]? =some z.1:=by rw[Xd,p];rfl
  have K:z.2=eL fs ds i:=by
   have h1:=congrArg (·[i]?) hzs;simp only[Xd,p,Ur (by omega:i<fs.length),Vs,Option.some.injEq]at h1;exact h1
  haveI hzs2:Sl R z.1 eI (dT (eL fs ds i)):=K ▸ Ra hz p;have T:=oK (fs:=fs) c j i;refine go ?_;refine d2_ rfl (Av a8 (by rw[eL,Yh];omega) (AT fs c i) (λ_=>by rw[eL,Yh];omega)) ?_;rw[show nX fs ds i++ff (eL fs ds i)=nX fs ds (i+1)from by simp[nX,X9]];refine e_ asn (on_ (qn_ (ws_ (wr_ (e_ mv ?_)))));refine e_ (dL rfl) ?_;refine gk (k:=fM (k:=go ?_));refine lN (i+1) ?_
  try dsimp only
  omega
 obtain rfl:i=fs.length:=a8;have T:=oK (fs:=fs) c j fs.length;refine go ?_;refine c1_ rfl (kK a8) ?_;rintro _ _ ⟨A,rfl,rfl⟩;refine go ?_;refine c1_ rfl (NF (t.less hsb) a8 a8 a.q c a.fd) ?_;rintro _ _ ⟨w,rfl,rfl⟩;refine s_ (ek eSV [C,B,A,sa,sb,w] bH rfl ax) ?_;rintro _ _ ⟨s97,rfl,rfl⟩;refine eu (dH.nilRow (e:=eK) dH.refl) ?_;obtain⟨b,q⟩:=ex ([C,B,A,sa,sb,w]);have N:b.length=6:=by rw[q];rfl
 have L:=BT b 1;rw[←q,show Row SV.nil eK []=Row SV.nil eK ((qw 1 b).take 0)from rfl];refine gk (k:=e8 (Nat×SV) (λy=>y.1≤b.length) (λy=>[(17,y.2.val),(99,iN y.1)]) [(97,_),(98,_)] (λy=>[Row y.2 eK ((qw 1 b).take y.1)]) _ (λy=>b.length-y.1) ((0,SV.nil)) (h0:=?_) (k:=?_))
 ·exact Yl _
 rintro⟨i,u⟩ hi
 try dsimp only[Yd,Ye]at*
 refine gW (λh3=>?_) λh3=>?_
 ·obtain⟨x,hx⟩:=gE b i;have M:=dK (BU (k:=1) hx);have htkl:((qw 1 b).take i).length≤6:=az;refine wk_ (qn_ (ws_ (wb_ (ws_ (wr_ (e_ mv (e_ ixa (e_ lel (e_ asn (e_ asn (on_ (qn_ (wr_ ?_)))))))))))));refine e_ mv (e_ mv (e_ iad ?_));refine e_ (dW 256 rfl rfl rfl (1+i) a8 a8) ?_;refine e_ mv (e_ (bld [(0,_),(1,_)]) (fS eK (k:=λs110=>?_)));refine app (k:=λF=>?_);rw[←M];refine go ?_;refine lN ((i+1,F)) ?_
  try dsimp only
  omega
 obtain rfl:i=b.length:=a8;rw[show(qw 1 b).take b.length=qw 1 b from by rw[←L,Xn],q];refine go ?_;refine c2_ rfl (YD (bl:=oC fs ds) 83 ae ae YR Z Y (by simp[oC])) ?_;rintro _ _ ⟨E,rfl,rfl⟩;refine gR ?_;exact⟨_,hsb,E,rfl,rfl⟩
end
section
variable {G:dJ}{H:dD}{ds:List Doc}{fs:List FV}
def o6 (fs:List FV):Int→List Doc→Nat
 |_, []=>0
 |la,d::r=>if d.1<0∨1099511627776≤d.1 then 8 else if d.1≤la then 4 else if jv fs d.2=0 then o6 fs d.1 r else jv fs d.2
def sg (fs:List FV) (ds:List Doc):Nat:=if iK fs=false then 11 else if 4096<ds.length then 3 else o6 fs (-1) ds
theorem DD:∀{ds:List Doc}{la:Int},o6 fs la ds=0→(∀d∈ds,0≤d.1∧d.1<1099511627776∧jv fs d.2=0)∧(∀d,ds.head? =some d→la<d.1)∧rise (ds.map (·.1))=true
 | [],_,_=>⟨aq,aq,rfl⟩
 |d::r,la,h=>by
  rw[o6]at h
  split at h
  ·cases h
  ·split at h
   ·cases h
   ·split at h
    ·rename_i h1 h2 h3;obtain⟨c,b,a⟩:=DD h;refine⟨λe he=>?_,λe he=>by simp at he;subst he;omega,?_⟩
     ·rcases Xo.1 he with rfl|he
      ·exact⟨a8,a8,h3⟩
      ·exact c e he
     ·rw[Xs,oE];refine⟨λy hy=>?_,a⟩;rw[List.head?_map]at hy;cases hr:r.head? with
      |none=>rw[hr]at hy;cases hy
      |some e=>rw[hr]at hy;obtain rfl:=Xk hy;exact b e hr
    ·rename_i h3;exact absurd h h3
theorem qg (h:sg fs ds=0) (c:dsz ds≤30000000) (e:(fU fs ds).length≤2000000):mg fs ds:=by
 rw[sg]at h
 split at h
 ·cases h
 ·split at h
  ·cases h
  ·rename_i h1 h2;obtain⟨a,i2,b⟩:=DD h;refine⟨dt,a8,?_,b,λd hd=>(a d hd).2.1,λd hd=>(a d hd).2.2,c,e⟩;rw[mX];intro i x hx;rw[Xd]at hx;cases hd:ds[i]? with
   |none=>rw[hd]at hx;cases hx
   |some d=>rw[hd]at hx;obtain rfl:=Xk hx;exact(a d (Yj hd)).1
theorem Sa {s c:SV}{vs:List Val} [hg:Glb G H] [hf:Sl H s eF fs] [hv:Sl H c eVl vs] (hn:fs.length≤1000000) (b:∀f∈fs,f.name.size≤1000000000) (a:vs.length≤1000000000) (e:∀v∈vs,v.2.size≤1000000000):SC G prog 113 [.agg #[s.val],c.val] H (λv d=>d=H∧((jv fs vs=0∧v=.nilIface)∨(jv fs vs≠0∧∃k,k<24∧v=G.err k))):=
 (We hn b a e).mono λv d ⟨h1,h2⟩=>⟨h2,by
   subst h1
   by_cases h:jv fs vs=0
   ·exact .inl ⟨h,by rw[h];rfl⟩
   ·refine .inr ⟨h,?_⟩;unfold YF;rw[if_neg h]
    split
    ·exact⟨0,ae,rfl⟩
    ·split
     ·exact⟨4,ae,rfl⟩
     ·split
      ·exact⟨11,ae,rfl⟩
      ·exact⟨12,ae,rfl⟩⟩
theorem JY {fv dv:SV}{l:List (Int×SV)} [hg:Glb G H] [Tab H 27 oc] [Tab H 25 mA] [hf:Sl H fv eF fs] [hd:Sl H dv eD l] [Spc H] (hT:kh G) (E:ot) (h:gK H l ds) (x:fs.length≤1000000) (n:∀f∈fs,f.name.size≤1000000000) (hn:ds.length≤1000000000) (C:∀d∈ds,d.2.length≤1000000000∧∀v∈d.2,v.2.size≤1000000000) (A:dsz ds≤30000000) (B:(fU fs ds).length≤2000000):
 SC G prog 46 [.agg #[fv.val],dv.val] H (λv z=>(sg fs ds=0∧∃s:SV,v=.tuple #[s.val,.nilIface]∧z=Row s eB (Ck fs ds)::H)∨(sg fs ds≠0∧∃k,k<24∧v=.tuple #[.slice none 0 0,G.err k]∧z=H)):=by
 have w:=h.1;refine sWk func46 ?_;refine gk (k:=bxx (k:=λb2=>?_));refine go ?_;refine c1_ rfl (AF (fs:=fs) a8 (λf hf=>by have:=n f hf;omega)) ?_;rintro _ _ ⟨rfl,(⟨hc,rfl⟩|⟨hc,rfl⟩)⟩
 ·refine e_ asn (on_ (qn_ (ws_ (wr_ (e_ mv ?_)))));refine e_ (eg rfl) ?_;refine gk (k:=ift (k:=gR ?_));exact⟨_,hsb,.inr ⟨by rw[sg,if_pos hc];decide,0,ae,rfl,rfl⟩⟩
 refine e_ asn (on_ (qn_ (ws_ (wr_ (e_ mv ?_)))));refine e_ (dL rfl) ?_;refine gk (k:=fM (k:=gW (λh1=>?_) (λh1=>?_)))
 ·have b:sg fs ds=3:=by rw[sg,if_neg (by rw[hc];decide),if_pos a8]
  refine go ?_;refine dX dN (gR ?_);exact⟨_,hsb,.inr ⟨by rw[b];decide,4,ae,rfl,rfl⟩⟩
 have b:sg fs ds=o6 fs (-1) ds:=by rw[sg,if_neg (by rw[hc];decide),if_neg a8]
 refine go ?_;refine gk (k:=e8 (Nat×Int) (λy=>y.1≤l.length∧o6 fs (-1) ds=o6 fs y.2 (ds.drop y.1)) (λy=>[(7,.int .i64 y.2),(22,iN y.1)]) [(1,_),(2,_),(20,_),(21,_)] (λy=>[]) _ (λy=>l.length-y.1) ((0, -1)) (h0:=?_) (k:=?_))
 ·exact⟨Yl _,rfl⟩
 rintro⟨i,la⟩ ⟨hi,a⟩
 try dsimp only[Yd,Ye]at*
 refine gW (λh2=>?_) λh2=>?_
 ·obtain⟨d,s,vs,hli,p,hsl⟩:=h.get (i:=i) a8;obtain⟨m,j⟩:=C _ (Yj p);rw[eh p,o6]at a;simp only at m j a;refine gk (k:=alc (k:=λb9=>?_));refine gk (k:=ep 4 34 (k:=λh3=>gk (k:=edq)) (q:=go ?_));refine gW (λh4=>?_) λh4=>?_
  ·rw[if_pos a8]at a;refine go ?_;refine dX dN (go ?_);refine rT (k:=?_);exact⟨_,hsb,.inr ⟨by rw[b,a];decide,1,ae,rfl,rfl⟩⟩
  rw[if_neg a8]at a;refine gW (λh5=>?_) λh5=>?_
  ·rw[if_pos a8]at a;refine go ?_;refine dX dN (go ?_);refine rT (k:=?_);exact⟨_,hsb,.inr ⟨by rw[b,a];decide,5,ae,rfl,rfl⟩⟩
  rw[if_neg a8]at a;refine go ?_;refine c2_ rfl (Sa x n m j) ?_;rintro _ _ ⟨rfl,(⟨e,rfl⟩|⟨e,k,hk,rfl⟩)⟩
  ·rw[if_pos e]at a;refine e_ asn (on_ (qn_ (ws_ (wr_ (e_ mv ?_)))));refine e_ (dL rfl) ?_;refine gk (k:=fM (k:=go ?_));refine lN ((i+1,d)) ?_
   exact⟨a8,a⟩
  rw[if_neg e]at a;refine e_ asn (on_ (qn_ (ws_ (wr_ (e_ mv ?_)))));refine e_ (eg rfl) ?_;refine gk (k:=ift (k:=go ?_));refine gR ?_;exact⟨_,hsb,.inr ⟨by rw[b,a];exact e,k,hk,rfl,rfl⟩⟩
 obtain rfl:i=l.length:=a8;rw[w,Vi]at a;have c:=qg (b.trans a) A B;have u:=c.size;have hfew:=c.few;refine go ?_;refine c2_ rfl (G5 (ds:=ds) hT (h.less hsb) c.flen a8 c.q u) ?_;rintro _ _ ⟨g,lv,r,zs,rfl,hzs,rfl⟩;refine c1_ rfl (RW (r:=r) (l:=l) (zs:=zs) (fs:=fs) (ds:=ds) E c (h.less hsb) hzs) ?_;rintro _ _ ⟨t,rfl,rfl⟩;refine gR ?_;exact⟨_,hsb,.inl ⟨b.trans a,t,rfl,rfl⟩⟩
end
abbrev yS:=ByteArray×Nat×Nat
def ltS (a b:yS):Prop:=dC a.1<dC b.1∨dC a.1=dC b.1∧(a.2.1<b.2.1∨a.2.1=b.2.1∧a.2.2<b.2.2)
section
variable {a b:yS}
def leS (a b:yS):Prop:=¬ltS b a
theorem Li {c:yS}(h:ltS a b) (d:ltS b c):ltS a c:=by
 rcases h with h|⟨h1,h2⟩
 ·rcases d with d|⟨h3,_⟩
  ·exact .inl (zw h d)
  ·exact .inl (h3 ▸ h)
 ·rcases d with d|⟨h3,h4⟩
  ·exact .inl (h1 ▸ d)
  ·exact .inr ⟨h1.trans h3,by rcases h2 with h2|h2 <;> rcases h4 with h4|h4 <;> omega⟩
theorem Lj (h:ltS a b):leS a b:=λc=>by
 have h9:=Li h c;rcases h9 with h9|⟨_,h9⟩
 ·exact ni _ h9
 ·omega
theorem Lt {c:yS}(h:leS a b) (g:leS b c):leS a c:=λd=>by
 by_cases hab:ltS a b
 ·exact g (Li d hab)
 ·
  have e:dC a.1=dC b.1:=by
   by_cases e:dC a.1=dC b.1
   ·exact e
   ·by_cases l:dC a.1<dC b.1
    ·exact absurd (.inl l) hab
    ·exact absurd (.inl (v7 l e)) h
  have j:a.2=b.2:=by
   have h1:¬(a.2.1<b.2.1∨a.2.1=b.2.1∧a.2.2<b.2.2):=λf=>hab (.inr ⟨e,f⟩);have h2:¬(b.2.1<a.2.1∨b.2.1=a.2.1∧b.2.2<a.2.2):=λf=>h (.inr ⟨e.symm,f⟩);exact Prod.ext a8 a8
  have i:a=b:=Prod.ext (jy.1 e) j;rw[i]at d;exact g d
structure J9 (l out av bv:List yS):Prop where
 perm:(out++(av++bv)).Perm l
 up:out.Pairwise leS
 low:∀x∈out,∀y∈av++bv,leS x y
 ua:av.Pairwise leS
 ub:bv.Pairwise leS
theorem J9.left {l out e c:List yS}(h:J9 l out (a::e) c) (f:∀b,c.head? =some b→ltS a b):J9 l (out++ [a]) e c:=by
 obtain⟨h1,h2⟩:=Vl.1 h.ua;have d:∀y∈c,leS a y:=by
  intro y hy;cases c with
  |nil=>simp at hy
  |cons b c=>
   have h3:=Lj (f b rfl);rcases Xo.1 hy with rfl|hy
   ·exact h3
   ·exact Lt h3 ((Vl.1 h.ub).1 y hy)
 refine⟨by simpa using h.perm,Uj.2 ⟨h.up,Uk ..,λx hx y hy=>?_⟩,λx hx y hy=>?_,h2,h.ub⟩
 ·simp at hy;subst hy;exact h.low x hx y aq
 ·rcases Xm.1 hx with hx|hx
  ·exact h.low x hx y (by rcases Xm.1 hy with hy|hy <;> simp[hy])
  ·simp at hx;subst hx;rcases Xm.1 hy with hy|hy
   ·exact h1 y hy
   ·exact d y hy
theorem J9.right {l out c e:List yS}(h:J9 l out c (b::e)) (ha:∀a,c.head? =some a→leS b a):J9 l (out++ [b]) c e:=by
 obtain⟨h1,h2⟩:=Vl.1 h.ub;have d:∀y∈c,leS b y:=by
  intro y hy;cases c with
  |nil=>simp at hy
  |cons a c=>
   have h3:=ha a rfl;rcases Xo.1 hy with rfl|hy
   ·exact h3
   ·exact Lt h3 ((Vl.1 h.ua).1 y hy)
 refine⟨?_,Uj.2 ⟨h.up,Uk ..,λx hx y hy=>?_⟩,λx hx y hy=>?_,h.ua,h2⟩
 ·refine List.Perm.trans ?_ h.perm;rw[Yf];exact List.Perm.append_left _ (by simpa using (List.perm_middle (a:=b) (l₁:=c) (l₂:=e)).symm)
 ·simp at hy;subst hy;exact h.low x hx y aq
 ·rcases Xm.1 hx with hx|hx
  ·exact h.low x hx y (by rcases Xm.1 hy with hy|hy <;> simp[hy])
  ·simp at hx;subst hx;rcases Xm.1 hy with hy|hy
   ·exact d y hy
   ·exact h1 y hy
end
section
variable {R:List nQ}{k:List Nat}
def pd (R:List nQ) (k:List Nat) (d p:Nat):List nQ:=match R.getLast? with
 |some q=>if q.1=k then R.dropLast++ [(k,fI q.2 d p)]else R++ [(k,fI [] d p)]
 |none=>[(k,fI [] d p)]
def nO (ts:List Tri):List nQ:=ts.foldl (λR t=>pd R t.1 t.2.1 t.2.2) []
theorem vj (a:List Tri) (t:Tri):nO (a++ [t])=pd (nO a) t.1 t.2.1 t.2.2:=by simp[nO]
theorem Ae {l:List Po}(d p:Nat):pd (R++ [(k,l)]) k d p=R++ [(k,fI l d p)]:=by simp[pd]
theorem DU {d p:Nat}(h:∀q,R.getLast? =some q→q.1≠k):pd R k d p=R++ [(k,fI [] d p)]:=by
 unfold pd
 split
 ·rename_i q a;rw[if_neg (h q a)]
 ·rename_i hn;rw[List.getLast?_eq_none_iff]at hn;subst hn;rfl
theorem y6:∀r:List Tri,(r.reverse.map (·.1)).Pairwise (λa b=>¬b<a)→rn (nO r.reverse) r.reverse
 | [],_=>⟨by simp[nO,tm],by simp[nO],by simp[nO]⟩
 |(k,d,p)::r,h=>by
  rw[List.reverse_cons]at h⊢;rw[Xp,Uj]at h;obtain⟨h1,_,h2⟩:=h;have c:=y6 r h1;rw[vj];generalize r.reverse=ts at*;generalize nO ts=R at*;have t:∀x∈ts.map (·.1),¬k<x:=λx hx=>h2 x hx k aq;rcases X4 R with rfl|⟨B,q,A⟩
  ·have hno:ts.map (·.1)= []:=by
     rcases hm:ts.map (·.1)with _|⟨a,l⟩
     ·first|rfl|exact hm
     ·have:=(c.keys a).2 (by rw[hm];simp);simp at this
   obtain rfl:ts= []:=List.map_eq_nil_iff.1 hno;exact⟨by simp[pd,tm],by simp[pd],λe he=>by simp[pd]at he;subst he;simp[ofK,jI]⟩
  ·obtain rfl:R=B++ [q]:=by simpa using A
   have hr:=c.rise;rw[Xp,tm,Uj]at hr;obtain⟨w,_,j⟩:=hr;have f:q.1∈ts.map (·.1):=(c.keys q.1).1 aq
   by_cases he:q.1=k
   ·obtain⟨s,y⟩:=q;simp only at he f j;subst he;rw[Ae];refine⟨?_,λx=>?_,λe hem=>?_⟩
    ·rw[Xp,tm,Uj];exact⟨w,Uk ..,j⟩
    ·have h3:=c.keys x;simp only[Xp,Xs,Ud,Xm,Vb]at h3⊢;rw[h3];exact⟨.inl,λn=>n.elim id λe=>e ▸ f⟩
    ·rcases Xm.1 hem with hem|hem
     ·have g:s≠e.1:=λn=>ni e.1 (by
       have h4:=j e.1 (Vj hem) s aq
       rwa [n]at h4)
      rw[nU g];exact c.vals e (Yy _ hem)
     ·simp at hem;subst hem;have h5:=c.vals (s,y) aq;simp only at h5⊢;rw[mG,mT,←h5]
   ·have i:q.1<k:=v7 (t _ f) (λe=>he e.symm);have m:k ∉ ts.map (·.1):=λhm=>by
     have h3:=(c.keys k).2 hm;rw[Xp,Xm]at h3;rcases h3 with h3|h3
     ·exact ni k (zw (j k h3 q.1 aq) i)
     ·simp at h3;exact he h3.symm
    rw[DU (λz u=>by simp at u;subst u;exact he)];refine⟨?_,λx=>?_,λe hem=>?_⟩
    ·rw[Xp,tm,Uj];refine⟨c.rise,Uk ..,λa ha b v=>?_⟩;simp at v;subst v;rw[Xp,Xm]at ha;rcases ha with ha|ha
     ·exact zw (j a ha q.1 aq) i
     ·simp at ha;subst ha;exact i
    ·have h3:=c.keys x;rw[Xp,Xm,h3];simp
    ·rcases Xm.1 hem with hem|hem
     ·have g:k≠e.1:=λn=>m (n ▸(c.keys e.1).1 (Vj hem));rw[nU g];exact c.vals e hem
     ·simp at hem;subst hem;simp only;rw[mG,mT,tQ m];rfl
theorem Iz {c:List Tri}(h:(c.map (·.1)).Pairwise (λa b=>¬b<a)):rn (nO c) c:=by
 have:=y6 c.reverse (by rwa [S0])
 rwa [S0]at this
theorem GH {a b:Nat×Nat}(h:¬ltP a b) (c:¬ltP b a):a=b:=by
 unfold ltP at h c;exact Prod.ext a8 a8
theorem Tq (a:List Tri):rn (eE a) a:=⟨by rw[xj];exact kN _,λk=>by rw[xj,lJ],λe he=>by
 obtain⟨k,_,rfl⟩:=Xt.1 he;rfl⟩
end
section
variable {H:dD}{g:PG}{l lp:List PG}{r:SV}
def eRw:Enc (Nat×ByteArray×SV):=⟨λp=>[.int .i64 ((p.1:Nat):Int),.string p.2.1,p.2.2.val],3,true,λ_=>rfl,λp v h=>by simp at h;rcases h with rfl|rfl|rfl <;> rfl,ae,λh=>aK,ae⟩
instance {p:Nat×ByteArray×SV}:kV eRw p (.agg [.int .i64 ((p.1:Nat):Int),.string p.2.1,p.2.2.val].toArray):=⟨rfl⟩
instance {f:Nat}{s:ByteArray}:gP eRw (.agg [.int .i64 ((f:Nat):Int),.string s,.slice none 0 0].toArray) (f,s,SV.nil):=⟨rfl⟩
instance {d:Nat}:gP ePo (.agg [.int .i64 ((d:Nat):Int),.slice none 0 0].toArray) (d,SV.nil):=⟨rfl⟩
structure RG where
 f:Nat
 e:EG
def rwV (z:RG):Nat×ByteArray×SV:=(z.f,z.e.key,z.e.s)
def rgH (z:RG):dD:=egH z.e
theorem Ot {l:List RG}{z:RG}:dH (Cl rgH (l++ [z])::H) (Row z.e.s ePo (z.e.l.map pgV)::Cl pgH z.e.l::Cl rgH l::H):=by
 have h:=lY (f:=rgH) (l:=l++ [z]) (i:=l.length) (x:=z) (H:=H) aq;rw[show(l++ [z]).take l.length=l from aq]at h;exact h.trans (dH.keep (dH.keep (dH.keep (dH.drop dH.refl))))
theorem Oq {l:List RG}(z:RG):dH (Row z.e.s ePo (z.e.l.map pgV)::Cl pgH z.e.l::Cl rgH l::H) (Cl rgH (l++ [z])::H):=o4 (f:=rgH) z
theorem OS {p:PG}:dH (Cl pgH (l++ [p])::H) (Row p.s eI (dT p.pos)::Cl pgH l::H):=by
 have h:=lY (f:=pgH) (l:=l++ [p]) (i:=l.length) (x:=p) (H:=H) aq;rw[show(l++ [p]).take l.length=l from aq]at h;exact h.trans (dH.keep (dH.keep (dH.drop dH.refl)))
theorem Kp {zs cs a:List RG}{z:RG}(h:cs=a++ [z]):dH (Cl rgH (zs++cs)::Row r eRw ((zs++cs).map rwV)::H) (Row z.e.s ePo (z.e.l.map pgV)::Cl pgH z.e.l::Cl rgH (zs++a)::Row r eRw ((zs++(a++ [z])).map rwV)::H):=by
 subst h;rw[←Yf];exact Ot
theorem KO (h:l=lp++ [g]):dH (Cl pgH l::Row r ePo (l.map pgV)::H) (Row g.s eI (dT g.pos)::Cl pgH lp::Row r ePo ((lp++ [g]).map pgV)::H):=by
 subst h;exact OS
theorem SW {d p:Nat}(h:g.d=d):fI ((lp++ [g]).map pgP) d p=lp.map pgP++ [(d,g.pos++ [p])]:=by simp[fI,pgP,h]
theorem SX {d p:Nat}(h:∀c,l.getLast? =some c→c.d≠d):fI (l.map pgP) d p=l.map pgP++ [(d, [p])]:=
 Af λr hr=>by
  rw[List.getLast?_map]at hr;cases hc:l.getLast? with
  |none=>rw[hc]at hr;cases hr
  |some c=>rw[hc]at hr;obtain rfl:=Xk hr;exact h c hc
def DB (R:List nQ):Nat:=(R.map λr=>r.2.length).sum
def Br (R:List nQ):Nat:=(R.map λr=>ec r.2).sum
theorem J6 (l:List Po) (d p:Nat):(fI l d p).length≤l.length+1∧ec (fI l d p)=ec l+1:=by
 rcases X4 l with rfl|⟨a,q,b⟩
 ·simp[fI,ec]
 ·obtain rfl:l=a++ [q]:=by simpa using b
  by_cases he:q.1=d
  ·rw[show fI (a++ [q]) d p=a++ [(d,q.2++ [p])]from by simp[fI,he]];simp[ec];omega
  ·rw[show fI (a++ [q]) d p=a++ [q]++ [(d, [p])]from by simp[fI,he]];simp[ec];omega
theorem N0 (R:List nQ) (k:List Nat) (d p:Nat):(pd R k d p).length≤R.length+1∧DB (pd R k d p)≤DB R+1∧Br (pd R k d p)=Br R+1:=by
 rcases X4 R with rfl|⟨a,q,b⟩
 ·simp[pd,DB,Br,fI,ec]
 ·obtain rfl:R=a++ [q]:=by simpa using b
  by_cases he:q.1=k
  ·rw[show pd (a++ [q]) k d p=a++ [(k,fI q.2 d p)]from by simp[pd,he]];have:=J6 q.2 d p;simp[DB,Br];omega
  ·rw[show pd (a++ [q]) k d p=a++ [q]++ [(k,fI [] d p)]from by simp[pd,he]];simp[DB,Br,fI,ec];omega
theorem M0 (a:List Tri):(nO a).length≤a.length∧DB (nO a)≤a.length∧Br (nO a)=a.length:=by
 have b:∀(r:List Tri),(nO r.reverse).length≤r.length∧DB (nO r.reverse)≤r.length∧Br (nO r.reverse)=r.length:=by
  intro r
  induction r with
  |nil=>simp[nO,DB,Br]
  |cons t r ih=>
   rw[List.reverse_cons,vj,Yb];have:=N0 (nO r.reverse) t.1 t.2.1 t.2.2;omega
 have:=b a.reverse
 rwa [S0,List.length_reverse]at this
theorem AV:∀{l:List Nat}{x:Nat},x∈l→x≤l.sum
 |y::l,x,h=>by
  rcases Xo.1 h with rfl|h
  ·simp
  ·have:=AV h;simp only[Vv];omega
theorem Gf {α:Type}{l:List α}(h:l≠ []):∃a x,l=a++ [x]:=by
 rcases X4 l with rfl|⟨a,x,hx⟩
 ·exact absurd rfl h
 ·exact⟨a,x,by simpa using hx⟩
end
section
variable {H:dD}{i:Nat}{z:RG}{zs:List RG}
theorem Gj (h:zs[i]? =some z):dH (Cl rgH zs::H) (Row z.e.s ePo (z.e.l.map pgV)::Cl pgH z.e.l::Cl rgH (zs.take i)::Cl rgH (zs.drop (i+1))::H):=lY (f:=rgH) h
theorem WG {R:dD}(hr:nR H (Cl rgH zs) R) (he:zs[i]? =some z):Sl H z.e.s ePo (z.e.l.map pgV):=
 ee (gJ hr (Gj he)) inferInstance
theorem WH {R:dD}(hr:nR H (Cl rgH zs) R) (he:zs[i]? =some z):su H (z.e.l.map pgV) (z.e.l.map pgP):=by
 refine⟨aq,λj p q hp a=>?_⟩;rw[Xd]at hp a;cases hj:z.e.l[j]? with
 |none=>rw[hj]at hp;cases hp
 |some x=>
  rw[hj]at hp a;obtain rfl:=Xk hp;obtain rfl:=Xk a;exact⟨rfl,show Sl H x.s eI (dT x.pos)from ee (gJ hr ((Gj he).trans (dH.drop (rD hj)))) inferInstance⟩
theorem su.less {H':dD}{l:List (Nat×SV)}{ps:List Po}(h:su H l ps) (hs:dH H' H):su H' l ps:=⟨h.1,λi p q hp a=>by
 obtain⟨h1,h2⟩:=h.2 i p q hp a;exact⟨h1,ee hs h2⟩⟩
end
def xJ (e:Nat):Int:=([11,8,1,2,3,4,5,6,7,9,10,12,13,14,15,16,17,18,19,20,21,22,23,24]:List Int).getD e (-1)
def Du (l:List Nat):Nat:=l.foldr (λx a=>x%128+128*a) 0
theorem zV (x:Nat) (l:List Nat):Du (x::l)=x%128+128*Du l:=rfl
theorem IT (l:List Nat):∀j,Du (l.drop j)≤Du l:=by
 induction l with
 |nil=>intro j;simp
 |cons x l ih=>
  intro j;cases j with
  |zero=>exact Xl _
  |succ j=>rw[U9,zV];have:=ih j;omega
theorem Cs:∀(l:List Nat) (i k x:Nat),(∀j y,j<k→l[j]? =some y→128≤y)→l[k]? =some x→i+k≤9→(i+k=9→x≤1)→x<128→¬(x=0∧0<i+k)→iz i l=.ok (Du (l.take (k+1)),k+1)
 | [],_,_,_,_,h,_,_,_,_=>aK
 |y::l,i,0,x,h1,h2,h3,h4,h5,h6=>by
  simp at h2;subst h2;rw[iz,if_neg a8,if_neg a8,if_neg a8];simp[Du,Xw h5]
 |y::l,i,k+1,x,h1,h2,h3,h4,h5,h6=>by
  have hy:=h1 0 y a8 rfl;have a:=Cs l (i+1) k x (λj z hj b=>h1 (j+1) z a8 (by simpa using b)) cD a8 a8 h5 a8;rw[iz,if_neg a8,if_pos hy,a];rfl
theorem xp:∀(l:List Nat) (i k x:Nat),(∀j y,j<k→l[j]? =some y→128≤y)→l[k]? =some x→i+k≤9→((i+k=9∧1<x)∨(x=0∧0<i+k))→iz i l=.error 3
 | [],_,_,_,_,h,_,_=>aK
 |y::l,i,0,x,h1,h2,h3,h4=>by
  simp at h2;subst h2;rw[iz]
  by_cases c:i=9∧1<y
  ·rw[if_pos c]
  ·rw[if_neg c,if_neg a8,if_pos a8]
 |y::l,i,k+1,x,h1,h2,h3,h4=>by
  have hy:=h1 0 y a8 rfl;have a:=xp l (i+1) k x (λj z hj b=>h1 (j+1) z a8 (by simpa using b)) cD a8 a8;rw[iz,if_neg a8,if_pos hy,a]
theorem xo:∀(l:List Nat) (i:Nat),(∀y∈l,128≤y)→i+l.length≤9→iz i l=.error 2
 | [],_,_,_=>rfl
 |y::l,i,h,hl=>by
  simp only[Yb]at hl;rw[iz,if_neg a8,if_pos (h y aq),xo l (i+1) (λz a=>h z (by simp[a])) a8]
theorem Ct:∀(l:List Nat) (i e:Nat),iz i l=.error e→e=2∨e=3
 | [],i,e,h=>by rw[iz]at h;cases h;exact .inl rfl
 |x::r,i,e,h=>by
  rw[iz]at h
  split at h
  ·cases h;exact .inr rfl
  ·split at h
   ·split at h
    ·cases h
    ·rename_i e' he;cases h;exact Ct r (i+1) e he
   ·split at h
    ·cases h;exact .inr rfl
    ·cases h
def ZF (p:Nat):Except Nat (Nat×Nat)→Value
 | .error e=>.tuple #[.int .u64 0,.int .i64 ((p:Nat):Int),.int .i64 (xJ e)]
 | .ok (v,n)=>.tuple #[.int .u64 ((v:Nat):Int),.int .i64 ((p+n:Nat):Int),.int .i64 0]
theorem Kq {G:dJ}{H:dD}{s:SV}{xs:List Nat}{p:Nat} [Sl H s eB xs] (hn:xs.length≤100000000000) (hp:p≤xs.length) (n:∀x∈xs,x<256):SC G prog 93 [s.val,iN p] H (λv t=>v=ZF p (iz 0 (xs.drop p))∧t=H):=by
 obtain⟨r,hr⟩:=ex (xs.drop p);have c:∀x∈r,x<256:=λx hx=>n x (Yp (hr ▸ hx));have hrl:r.length=xs.length-p:=by rw[hr,Yo]
 have e:∀j,r[j]? =xs[p+j]? :=λj=>by rw[hr,Xh]
 rw[←hr];refine sWk func93 ?_;refine go ?_;refine wl_ Nat (λk=>k≤r.length∧k≤9∧∀j y,j<k→r[j]? =some y→128≤y) (λk=>[(0,s.val),(1,iN p),(7,iN k)]) (λ_=>H) (λk=>10-k) (0) (h0:=?_) (k:=?_)
 ·exact⟨Yl _,a8,λj y h=>absurd h (Up _)⟩
 rintro k ⟨hk,hk9,a⟩
 try dsimp only at*
 refine gW (λh1=>?_) λh1=>?_
 ·have g:=xo r 0 (λy hy=>by obtain⟨j,hj⟩:=Vh.1 hy;exact a j y (by have:=(Yk.1 hj).1;omega) hj) a8;refine go ?_;refine rT (k:=?_);exact⟨_,dH.refl,by rw[g];rfl,rfl⟩
 obtain⟨x,hx⟩:=gE r k;have hxb:=c x (Yj hx);have hx':xs[p+k]? =some x:=by rw[←e];exact hx
 refine wk_ (qn_ (ws_ (wr_ (e_ mv (e_ mv (e_ mv (e_ iad ?_)))))));refine e_ (er rfl rfl (p+k) a8 a8) ?_;refine e_ (gT rfl bH bH x hx') ?_;refine e_ asn (on_ (qn_ (ws_ (wr_ (e_ mv (e_ iad (e_ asn (on_ (qn_ (ws_ ?_))))))))));refine Qz ([(0,s.val),(1,iN p),(7,.int .i64 (((k:Nat):Int)+1)),(8,.int .u8 ((x:Nat):Int)),(31,.bool (decide (k=9∧1<x)))]) ?_ ?_
 ·refine wr_ (e_ mv (e_ ieq (sp_ mv (k:=λh2=>?_) (m:=λh2=>?_))))
  ·refine gk (k:=ctt)
  refine gk (k:=ctt)
 refine wi_ (k:=λh3=>?_) (m:=λh3=>?_)
 ·have hbad:=xp r 0 k x a hx a8 a8;refine go ?_;refine rT (k:=?_);exact⟨_,dH.refl,cE,rfl⟩
 refine gW (λh4=>?_) λh4=>?_
 ·refine ws_ ?_;refine Qz ([(0,s.val),(1,iN p),(7,.int .i64 (((k:Nat):Int)+1)),(8,.int .u8 ((x:Nat):Int)),(40,.bool (decide (x=0∧0<k)))]) ?_ ?_
  ·refine wr_ (e_ mv (e_ ieq (sp_ mv (k:=λh5=>?_) (m:=λh5=>?_))))
   ·refine gk (k:=ctt)
   refine gk (k:=ctt)
  refine wi_ (k:=λh6=>?_) (m:=λh6=>?_)
  ·have hbad:=xp r 0 k x a hx a8 a8;refine go ?_;refine rT (k:=?_);exact⟨_,dH.refl,cE,rfl⟩
  have b:=Cs r 0 k x a hx a8 a8 a8 a8;obtain⟨p1,p2,p3,p4,p5,p6⟩:=k7 r 0 _ _ c a8 b;have l:=IT (r.take (k+1));refine gk (k:=bm_ (k:=go ?_));refine gk (k:=wl_ (Nat×Nat) (λy=>y.1≤k+1∧y.2=Du ((r.take (k+1)).drop y.1)) (λy=>[(0,s.val),(1,iN p),(7,.int .i64 (((k:Nat):Int)+1)),(9,uN y.2),(10,.int .i64 ((y.1:Int)-1))]) (λ_=>H) (λy=>y.1) ((k+1,0)) (hs:=?_) (h0:=?_) (k:=?_))
  ·rw[show((k+1:Nat):Int)-1=((k:Nat):Int)+1-1 from a8];repeat (first|exact Sub.nil|refine Sub.cons rfl ?_)
  ·try dsimp only
   refine⟨Xl _,?_⟩;rw[Vn az];rfl
  rintro⟨j,v⟩ ⟨hj,hv⟩
  try dsimp only at*
  refine gW (λq=>?_) λq=>?_
  ·obtain⟨d,rfl⟩:∃d,j=d+1:=⟨j-1,a8⟩;obtain⟨z,f⟩:=gE r d;have hz2:=c z (Yj f);have hz':xs[p+d]? =some z:=by rw[←e];exact f
   have i:Du ((r.take (k+1)).drop d)=z%128+128*v:=by
    rw[eh (show(r.take (k+1))[d]? =some z by rw[Vp a8];exact f),zV,hv]
   have hdl:=l d;refine wk_ (qn_ (ws_ (wb_ (wr_ (e_ mv ?_)))));refine e_ (nZ 18446744073709551616 rfl rfl rfl rfl 128 v rfl rfl) ?_;refine e_ mv (e_ mv (e_ mv (e_ iad ?_)));refine e_ (er rfl rfl (p+d) a8 a8) ?_;refine e_ (gT rfl bH bH z hz') ?_;refine e_ (mw rfl rfl z 128 rfl rfl a8) ?_;refine e_ ((ad)) ?_;refine e_ (lk 18446744073709551616 rfl rfl rfl rfl _ _ rfl rfl) ?_;rw[show(128*v%18446744073709551616+z%128)%18446744073709551616=z%128+128*v from a8];refine go ?_;refine ln_ ((d,z%128+128*v)) (h3:=?_) (k:=?_)
   ·(try rw[show((d+1:Nat):Int)-1-1=(d:Int)-1 from a8]);repeat (first|exact Sub.nil|refine Sub.cons rfl ?_)
   exact⟨a8,i.symm⟩
  obtain rfl:j=0:=a8;refine go ?_;refine gR ?_;exact⟨_,dH.refl,by rw[b,hv,show(p:Int)+(((k:Nat):Int)+1)=((p+(k+1):Nat):Int)from a8];rfl,rfl⟩
 refine go ?_;refine lN (k+1) ?_
 try dsimp only
 refine⟨a8,a8,λj y hj hy=>?_⟩;rcases Uq (V9 hj)with h|rfl
 ·exact a j y h hy
 ·rw[hx]at hy;cases hy;omega
theorem Pa {e:Nat}(h:e=2∨e=3):xJ e≠0:=by rcases h with rfl|rfl <;> decide
theorem Qj {G:dJ}{H:dD}{s s2:SV}{xs ys:List Nat} [Sl H s eB xs] [Sl H s2 eB ys] (hx:∀x∈xs,x<256) (hy:∀x∈ys,x<256):SC G prog 118 [s.val,s2.val] H (λv a=>v=.bool (decide (xs=ys))∧a=H):=by
 refine sWk func118 ?_;refine ws_ (wr_ (e_ asn (on_ (qn_ (ws_ (wr_ (e_ mv ?_)))))));refine e_ (fx rfl) ?_;refine e_ mv ?_;refine e_ (fx rfl) ?_;refine e_ (qc rfl rfl) ?_;refine gR ?_;exact⟨_,dH.refl,by rw[fD hx,fD hy];rfl,rfl⟩
class Ja (G:dJ):Prop where
 out:G.eT=437
theorem Qg:∃k,prog.info? 437=some k∧k.comparable=true:=by
 have h:(prog.info? 437).map (·.comparable)=some true:=aa;cases hk:prog.info? 437 with
 |none=>rw[hk]at h;cases h
 |some k=>rw[hk]at h;exact⟨k,rfl,bA⟩
section
variable {G:dJ}{t:Tm}{H:dD}{dst:Option Tmp}{ty:TypeId}{pos:String}{after:Array Edge}{g:Option (Nat×Bool)}
theorem fb {T U:TypeId}{x y:Operand}{i j:Nat}{a:Array (String×TypeId)} [he:Ja G] [hT:Und prog T (.interface a)] [b:Glb G H] [h1:kx i] [h2:kx j] (hx:evo t x=some (G.err i)) (hy:evo t y=some (G.err j)):Ev G prog ⟨dst,.binOp .eql T x y U,ty,pos,after,g⟩ t H (.bool (decide (i=j))):=
 haveI:Und prog G.eT (.pointer 462):=⟨by rw[he.out];exact underlying437⟩
 Fu (by rw[he.out];exact Qg) ae b.inj hx hy
end
def Lf (e:Nat):Int:=if 15≤e∧e<24 then xJ e else -1
theorem Le:∀e:Fin 24,(e.val≠2∧e.val≠3∧e.val≠4∧e.val≠5∧e.val≠6∧e.val≠7∧e.val≠8∧e.val≠1∧e.val≠9∧e.val≠10∧e.val≠0∧e.val≠11∧e.val≠12∧e.val≠13∧e.val≠14)→Lf e.val=xJ e.val:=ae
theorem Pg {G:dJ}{H:dD} [hg:Glb G H] [Ja G] (e:Nat) [he:kx e]:SC G prog 24 [G.err e] H (λv b=>v=.int .i64 (Lf e)∧b=H):=by
 refine sWk func24 ?_;refine ws_ (wr_ (e_ asn (on_ (qn_ (ws_ (ws_ (wr_ (e_ mv (on_ (qn_ (wb_ (ws_ (wr_ ?_)))))))))))));refine e_ ldv ?_;refine e_ (fb rfl rfl) ?_;refine gW (λh1=>?_) λh1=>?_
 ·refine gR ?_;exact⟨_,dH.refl,aE,rfl⟩
 refine ws_ (wr_ (e_ ldv ?_));refine e_ (fb rfl rfl) ?_;refine gW (λh2=>?_) λh2=>?_
 ·refine gR ?_;exact⟨_,dH.refl,aE,rfl⟩
 refine ws_ (wr_ (e_ ldv ?_));refine e_ (fb rfl rfl) ?_;refine gW (λh3=>?_) λh3=>?_
 ·refine gR ?_;exact⟨_,dH.refl,aE,rfl⟩
 refine ws_ (wr_ (e_ ldv ?_));refine e_ (fb rfl rfl) ?_;refine gW (λh4=>?_) λh4=>?_
 ·refine gR ?_;exact⟨_,dH.refl,aE,rfl⟩
 refine ws_ (wr_ (e_ ldv ?_));refine e_ (fb rfl rfl) ?_;refine gW (λh5=>?_) λh5=>?_
 ·refine gR ?_;exact⟨_,dH.refl,aE,rfl⟩
 refine ws_ (wr_ (e_ ldv ?_));refine e_ (fb rfl rfl) ?_;refine gW (λh6=>?_) λh6=>?_
 ·refine gR ?_;exact⟨_,dH.refl,aE,rfl⟩
 refine ws_ (wr_ (e_ ldv ?_));refine e_ (fb rfl rfl) ?_;refine gW (λa=>?_) λa=>?_
 ·refine gR ?_;exact⟨_,dH.refl,aE,rfl⟩
 refine ws_ (wr_ (e_ ldv ?_));refine e_ (fb rfl rfl) ?_;refine gW (λh8=>?_) λh8=>?_
 ·refine gR ?_;exact⟨_,dH.refl,aE,rfl⟩
 refine ws_ (wr_ (e_ ldv ?_));refine e_ (fb rfl rfl) ?_;refine gW (λh9=>?_) λh9=>?_
 ·refine gR ?_;exact⟨_,dH.refl,aE,rfl⟩
 refine gR ?_;exact⟨_,dH.refl,by rw[Lf,if_neg (by have:=he.out;omega)];rfl,rfl⟩
theorem EK {G:dJ}{H:dD} [hg:Glb G H] [Ja G] (e:Nat) [he:kx e]:SC G prog 10 [G.err e] H (λv g=>v=.int .i64 (xJ e)∧g=H):=by
 refine sWk func10 ?_;refine ws_ (wr_ (e_ asn (on_ (qn_ (ws_ (ws_ (wr_ (e_ mv (on_ (qn_ (wb_ (ws_ (wr_ ?_)))))))))))));refine e_ (ny rfl) ?_;refine gk (k:=ir_ (k:=λh1=>?_) (m:=λh1=>?_))
 ·cases h1
 refine ws_ (wr_ (e_ ldv ?_));refine e_ (fb rfl rfl) ?_;refine gW (λh2=>?_) λh2=>?_
 ·refine gR ?_;exact⟨_,dH.refl,aE,rfl⟩
 refine ws_ (wr_ (e_ ldv ?_));refine e_ (fb rfl rfl) ?_;refine gW (λh3=>?_) λh3=>?_
 ·refine gR ?_;exact⟨_,dH.refl,aE,rfl⟩
 refine ws_ (wr_ (e_ ldv ?_));refine e_ (fb rfl rfl) ?_;refine gW (λh4=>?_) λh4=>?_
 ·refine gR ?_;exact⟨_,dH.refl,aE,rfl⟩
 refine ws_ (wr_ (e_ ldv ?_));refine e_ (fb rfl rfl) ?_;refine gW (λh5=>?_) λh5=>?_
 ·refine gR ?_;exact⟨_,dH.refl,aE,rfl⟩
 refine ws_ (wr_ (e_ ldv ?_));refine e_ (fb rfl rfl) ?_;refine gW (λh6=>?_) λh6=>?_
 ·refine gR ?_;exact⟨_,dH.refl,aE,rfl⟩
 refine ws_ (wr_ (e_ ldv ?_));refine e_ (fb rfl rfl) ?_;refine gW (λf=>?_) λf=>?_
 ·refine gR ?_;exact⟨_,dH.refl,aE,rfl⟩
 refine ws_ (wr_ (e_ ldv ?_));refine e_ (fb rfl rfl) ?_;refine gW (λh8=>?_) λh8=>?_
 ·refine gR ?_;exact⟨_,dH.refl,aE,rfl⟩
 refine ws_ (wr_ (e_ ldv ?_));refine e_ (fb rfl rfl) ?_;refine gW (λh9=>?_) λh9=>?_
 ·refine gR ?_;exact⟨_,dH.refl,aE,rfl⟩
 refine ws_ (wr_ (e_ ldv ?_));refine e_ (fb rfl rfl) ?_;refine gW (λh10=>?_) λh10=>?_
 ·refine gR ?_;exact⟨_,dH.refl,aE,rfl⟩
 refine ws_ (wr_ (e_ ldv ?_));refine e_ (fb rfl rfl) ?_;refine gW (λh11=>?_) λh11=>?_
 ·refine gR ?_;exact⟨_,dH.refl,aE,rfl⟩
 refine ws_ (wr_ (e_ ldv ?_));refine e_ (fb rfl rfl) ?_;refine gW (λh12=>?_) λh12=>?_
 ·refine gR ?_;exact⟨_,dH.refl,aE,rfl⟩
 refine ws_ (wr_ (e_ ldv ?_));refine e_ (fb rfl rfl) ?_;refine gW (λd=>?_) λd=>?_
 ·refine gR ?_;exact⟨_,dH.refl,aE,rfl⟩
 refine ws_ (wr_ (e_ ldv ?_));refine e_ (fb rfl rfl) ?_;refine gW (λc=>?_) λc=>?_
 ·refine gR ?_;exact⟨_,dH.refl,aE,rfl⟩
 refine ws_ (wr_ (e_ ldv ?_));refine e_ (fb rfl rfl) ?_;refine gW (λb=>?_) λb=>?_
 ·refine gR ?_;exact⟨_,dH.refl,aE,rfl⟩
 refine ws_ (wr_ (e_ ldv ?_));refine e_ (fb rfl rfl) ?_;refine gW (λa=>?_) λa=>?_
 ·refine gR ?_;exact⟨_,dH.refl,aE,rfl⟩
 refine go ?_;refine d1_ rfl (Pg e) (gR ?_);exact⟨_,dH.refl,by rw[Le ⟨e,y8 he.out⟩ bJ];rfl,rfl⟩
theorem Tg {G:dJ}{H:dD} [hg:Glb G H]:SC G prog 10 [.nilIface] H (λv a=>v=.int .i64 0∧a=H):=by
 refine sWk func10 ?_;refine ws_ (wr_ (e_ asn (on_ (qn_ (ws_ (ws_ (wr_ (e_ mv (on_ (qn_ (wb_ (ws_ (wr_ ?_)))))))))))));refine e_ (iB rfl) ?_;refine gk (k:=ir_ (k:=λh1=>?_) (m:=λh1=>?_))
 ·exact gZ
 cases h1
theorem yD.one {H:dD}{a b:SV}{x:List Nat}{y:List Int}(ha:Sl H a eB x) (c:Sl H b eI y):yD H [(a,b)] [(x,y)]:=
 (yD.nil (F:=H)).snoc a b x y (λ_ _ h=>h) (λ_ _ h=>h) ha c
theorem yD.ext {F c:dD}{l:List (SV×SV)}{ps:Pcs}(h:yD F l ps) (e:∀(s:SV) (b:List Nat),Sl F s eB b→Sl c s eB b) (a:∀(s:SV) (b:List Int),Sl F s eI b→Sl c s eI b):yD c l ps:=
 ⟨h.1,λi p q hp d=>⟨e _ _ (h.2 i p q hp d).1,a _ _ (h.2 i p q hp d).2⟩⟩
end Go.Sx
