import Derived.Test.YtjhdcheijnegnaaGreatDoorQ22
set_option linter.all false
set_option maxHeartbeats 0
namespace Go.Sx
open Go Go.Proofs Tryz
set_option maxRecDepth 100000
section
variable {G:cJ}{H:cG}{b:Nat}{fs:List FV}{xs:List Nat}
theorem OP {R:cG} [hr:Rem H Wr b xs R]:SC G prog 238 [pA b] H (λv a=>v=iN xs.length∧a=Wr b xs::R):=by
 refine sR hr λs=>?_;refine sWk func238 ?_;refine go ?_;exact gZ
theorem Ki {R:cG} [hr:Rem H Wr b xs R]:SC G prog 158 [pA b] H (λv a=>v=.tuple #[]∧a=Wr b []::R):=by
 refine sR hr λs=>?_;refine sWk func158 ?_;exact gZ
theorem xh {v:Val}(hf:fs.length≤1000000) (hv:v.2.size≤3000000):(fa fs v).length≤v.2.size+20:=by
 have h1:(fJ fs (cF v.1)).getD 0≤fs.length:=by
  cases h:fJ fs (cF v.1)with
  |none=>simp
  |some i=>obtain⟨p,hp,_⟩:=o5 h;have:=(Yk.1 hp).1;simp;omega
 have h2:=eA (n:=(fJ fs (cF v.1)).getD 0) (k:=6) a8 a8;have h3:=eA (n:=v.2.size) (k:=6) a8 a8;simp only[fa,Ya,cI];omega
theorem mj (hf:fs.length≤1000000):∀{vs:List Val},(∀v∈vs,v.2.size≤3000000)→(vs.flatMap (fa fs)).length≤vsz vs
 | [],_=>ak
 |v::vs,h=>by
  have h1:=xh hf (h v ak);have h2:=mj hf (λu a=>h u (Xa _ a));simp only[Vp,Ya,vsz,Xn,Vn]at h2⊢;omega
theorem jd (hf:fs.length≤1000000):∀{ds:List Doc},(∀d∈ds,d.2.length≤100000000∧∀v∈d.2,v.2.size≤3000000)→(eJ fs ds).length≤10*ds.length+dsz ds
 | [],_=>by simp[eJ]
 |d::ds,h=>by
  have h1:=mj hf (h d ak).2;have h2:=jd hf (λu a=>h u (Xa _ a));have h3:=eA (n:=d.2.length) (k:=6) (by have:=(h d ak).1;omega) a8;simp only[eJ,pg,Vp,Ya,dsz,Xn,Vn,Yb]at h2⊢;omega
theorem HB {g:Nat}{fv dv:SV}{B A:Value}{l:List (Int×SV)}{ds:List Doc} [hg:cY H g [fv.val,dv.val,B,A]] [hf:Sl H fv eF fs] [hd:Sl H dv eD l] (z:ew H l ds) (q:fs.length≤1000000) (hn:ds.length≤100000) (L:∀d∈ds,d.2.length≤100000000∧∀v∈d.2,v.2.size≤3000000) (hz:dsz ds≤30000000) (S:∀d∈ds,∀v∈d.2,∃k,fJ fs (cF v.1)=some k):
 SC G prog 160 [pA g] H (λv V=>∃s:SV,v=s.val∧V=Row s eB (eJ fs ds)::H):=by
 have N:=z.1;refine sWk func160 ?_;refine go ?_;refine c0_ rfl ga ?_;rintro _ _ ⟨r,rfl,rfl⟩;refine e_ asn (on_ (qn_ (ws_ (ws_ (wr_ ?_)))));rw[show Wr r []=Wr r (eJ fs (ds.take 0))from rfl];refine gk (k:=wl2_ Nat (λy=>y≤l.length) (λy=>[(16,iN y)]) [(0,_),(3,_),(14,_),(15,_)] (λy=>[Wr r (eJ fs (ds.take y))]) _ (λy=>l.length-y) (0) (h0:=?_) (k:=?_))
 ·exact Yl _
 rintro i hi
 try dsimp only[Yd,Ye]at*
 refine gW (λh1=>?_) λh1=>?_
 ·obtain⟨d,s,vs,hli,x,hsl⟩:=z.get (i:=i) a8;have e:=Yj x;obtain⟨K,m⟩:=L _ e;have J:=pS e;have c:=jd (fs:=fs) (ds:=ds.take i) q (λd hd=>L d (Yq hd));have hdz:=Ad ds i;rw[Yg]at c;simp only at K m J;obtain⟨a,h⟩:=ex (eJ fs (ds.take i));rw[←h]at c⊢;have t:eJ fs (ds.take (i+1))=a++uv vs.length++vs.flatMap (fa fs):=by rw[cL x,h];simp[eJ,pg]
  have T:=eA (n:=vs.length) (k:=6) a8 a8;refine gk (k:=alc (k:=λb5=>?_));refine sto (k:=on_ (qn_ (ws_ (wr_ (e_ mv (e_ fla (e_ ldv (e_ lnn ?_))))))));refine e_ ((ab)) ?_;refine d2_ rfl (eH _ a8 a8) (on_ (qn_ (ws_ (wr_ ?_))));rw[show Wr r (a++uv vs.length)=Wr r (a++uv vs.length++(vs.take 0).flatMap (fa fs))from ak];refine gk (k:=wl2_ Nat (λy=>y≤vs.length) (λy=>[(29,iN y)]) [(0,_),(3,_),(14,_),(15,_),(16,_),(27,_),(28,_)] (λy=>[Wr r (a++uv vs.length++(vs.take y).flatMap (fa fs))]) _ (λy=>vs.length-y) (0) (h0:=?_) (k:=?_))
  ·exact Yl _
  rintro j hj
  try dsimp only[Yd,Ye]at*
  refine gW (λh2=>?_) λh2=>?_
  ·obtain⟨v,hv⟩:=gE vs j;have hvs:=m v (Yj hv);have hvl:=mj (fs:=fs) (vs:=vs.take j) q (λu T=>m u (Yq T));have hvz2:=so vs j;obtain⟨E,p⟩:=ex (a++uv vs.length++(vs.take j).flatMap (fa fs));have hp2l:E.length≤100000000:=by rw[p];simp only[Ya];omega
   have w:a++uv vs.length++(vs.take (j+1)).flatMap (fa fs)=E++fa fs v:=by rw[p,cL hv];simp
   rw[←p];refine gk (k:=alc (k:=λU=>?_));refine go ?_;refine wD [6] (λk H=>(k=2→cY H g [fv.val,dv.val,B,A])∧(k=3→cY H g [fv.val,dv.val,B,A])∧(k=5→cY H U [.string v.1,.string v.2])) (aF 0 (k:=aF 1 (k:=?_)));refine aN 2 rfl (λH hH=>bB) ?_;refine aN 3 rfl (λH hH=>by have hN:=hH.2.1 rfl;exact lds) ?_;refine aF 4 (k:=?_);refine go ?_;refine aS 6 rfl (dy (vs:= [_,_]) rfl (Nq a8)) ?_;rintro _ _ ⟨k,b,rfl,R,rfl⟩;refine gk (k:=aZ (qn_ (ws_ (wr_ ?_))));obtain⟨F,f⟩:=S _ e v (Yj hv);obtain rfl:F=k:=by
    rcases R with⟨_,h9⟩|⟨_,h9⟩
    ·rw[f]at h9;exact Xo h9
    ·rw[f]at h9;cases h9
   obtain⟨pf,M,_⟩:=o5 f;have hkl:=(Yk.1 M).1;have hu2:=eA (n:=F) (k:=6) a8 a8;refine e_ mv (e_ mv ?_);refine e_ ((ab)) ?_;refine d2_ rfl (eH _ a8 a8) (go ?_);refine d2_ rfl (DC _ ai a8) ?_;rw[show E++uv F++(uv v.2.size++cF v.2)=a++uv vs.length++(vs.take (j+1)).flatMap (fa fs)from by rw[w,fa,f];simp];refine go ?_;refine lN (j+1) ?_
   try dsimp only
   omega
  obtain rfl:j=vs.length:=a8;rw[Xk,←t];refine go ?_;refine lN (i+1) ?_
  try dsimp only
  omega
 obtain rfl:i=l.length:=a8;rw[show ds.take l.length=ds from by rw[N,Xk]];have c:=jd (fs:=fs) (ds:=ds) q L;refine go ?_;refine c1_ rfl (iW a8) ?_;rintro _ _ ⟨C,rfl,rfl⟩;refine gR ?_;exact⟨_,hsb,C,rfl,rfl⟩
end
end Go.Sx
