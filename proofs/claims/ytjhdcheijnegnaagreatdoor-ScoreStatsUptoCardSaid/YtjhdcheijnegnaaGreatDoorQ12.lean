import Derived.Test.YtjhdcheijnegnaaGreatDoorQ8
set_option linter.all false
set_option maxHeartbeats 0
namespace Go.Sx
open Go Go.Proofs Tryz
set_option maxRecDepth 100000
section
variable {G:cJ}{H:cG}{q:ByteArray}
theorem B5 (hq:q.size≤1000000000):SC G prog 347 [.string q] H (λv l=>v=.string (lT q)∧l=H):=by
 have hl:=cI q;have hfl:=kl (cF q);refine sWk func347 ?_;refine go ?_;refine s_ (fK eB rfl) ?_;rintro _ _ ⟨g,rfl,rfl⟩;refine gk (k:=wl2_ (SV×Nat) (λy=>y.2≤q.size) (λy=>[(3,y.1.val),(4,iN y.2)]) [(0,_)] (λy=>[Row y.1 eB ((lU (cF q)).take y.2)]) _ (λy=>q.size-y.2) ((g,0)) (h0:=?_) (k:=?_))
 ·exact Yl _
 rintro⟨s,i⟩ hi
 try dsimp only[Yd,Ye]at*
 refine gW (λh1=>?_) λh1=>?_
 ·have d:i<(cF q).length:=by omega
  have htk:((lU (cF q)).take i).length=i:=ar;refine wk_ (qn_ (ws_ (wb_ (ws_ (wr_ (e_ asn (on_ (qn_ (ws_ (ws_ (wr_ (e_ mv (e_ mv ?_)))))))))))));refine e_ ixs (on_ (qn_ (wb_ (mf [(16,.bool (isV (at0 (cF q) i)))] [16,17,18,19,20,21] ?_ ?_))))
  ·refine gW (λh2=>?_) λh2=>?_
   ·refine gk (k:=jne (hs:=.cons (by first|exact rfl|exact jb (by refine bq ?_;simp[isV];omega)) (.nil)))
   refine gW (λh3=>?_) λh3=>?_
   ·refine gk (k:=jne (hs:=.cons (by first|exact rfl|exact jb (by refine bq ?_;simp[isV];omega)) (.nil)))
   refine gW (λh4=>?_) λh4=>?_
   ·refine gk (k:=jne (hs:=.cons (by first|exact rfl|exact jb (by refine bq ?_;simp[isV];omega)) (.nil)))
   refine gW (λj=>?_) λj=>?_
   ·refine gk (k:=jne (hs:=.cons (by first|exact rfl|exact jb (by refine bq ?_;simp[isV];omega)) (.nil)))
   refine gk (k:=jne (hs:=.cons (by first|exact rfl|exact jb (by refine bq ?_;simp[isV];omega)) (.nil)))
  refine wi_ (k:=λh6=>?_) (m:=λh6=>?_)
  ·have hk:=mK d (b:=true) (by rw[vAt,h6];all_goals rfl);refine gk (k:=fX eB (k:=λe=>?_));refine app (k:=λa=>?_)
   first
   |rw[show(118:Nat)=vc true from rfl,←hk]
   |rw[show(99:Nat)=vc false from rfl,←hk]
   refine go ?_;refine lN ((a,i+1)) ?_
   try dsimp only
   omega
  have f:=h6;refine gW (λh=>?_) λh=>?_
  ·refine ws_ (wr_ (e_ mv (e_ igt (e_ mv (cQ 7 33 (k:=λh8=>eg_ mv (eg_ mv (eg_ isb (eg_ ixa (eg_ (lel (hy:=A4 a8 a8)) (gk (k:=edq))))))) (q:=gW (λh9=>?_) (λh9=>?_)))))))
   ·obtain⟨c1,c2⟩:=h9;have hk:=mK d (b:=true) (by rw[vAt,f,Ys (show at0 (cF q) i=121 from a8),Ys (show 0<i from a8),Km.1 (by omega:vc ((vow (cF q)).getD (i-1) false)=99)];all_goals rfl);refine gk (k:=fX eB (k:=λe=>?_));refine app (k:=λa=>?_)
    first
    |rw[show(118:Nat)=vc true from rfl,←hk]
    |rw[show(99:Nat)=vc false from rfl,←hk]
    refine go ?_;refine lN ((a,i+1)) ?_
    try dsimp only
    omega
   have hk:=mK d (b:=false) (by
    rw[vAt,f];rcases h9 with c|c
    ·rw[Yr (show ¬0<i from a8)];simp
    ·have:(vow (cF q)).getD (i-1) false=true:=by
      cases hb:(vow (cF q)).getD (i-1) false with
      |true=>rfl
      |false=>exact absurd (by rw[Km.2 hb];all_goals rfl) c
     rw[this];simp)
   refine gk (k:=fX eB (k:=λe=>?_));refine app (k:=λa=>?_)
   first
   |rw[show(118:Nat)=vc true from rfl,←hk]
   |rw[show(99:Nat)=vc false from rfl,←hk]
   refine go ?_;refine lN ((a,i+1)) ?_
   try dsimp only
   omega
  have hk:=mK d (b:=false) (by rw[vAt,f,Yr (show ¬at0 (cF q) i=121 from a8)];all_goals rfl);refine gk (k:=fX eB (k:=λe=>?_));refine app (k:=λa=>?_)
  first
  |rw[show(118:Nat)=vc true from rfl,←hk]
  |rw[show(99:Nat)=vc false from rfl,←hk]
  refine go ?_;refine lN ((a,i+1)) ?_
  try dsimp only
  omega
 obtain rfl:i=q.size:=a8;refine we_ (qe_ (le_ (bh_ (qn_ (ws_ (wr_ (e_ mv ?_)))))));refine e_ (dX rfl) ?_;refine gR ?_;refine⟨_,hsb,?_,rfl⟩;rw[←hl,Xq a8];all_goals rfl
theorem xI (g:q.size≤1000000000):SC G prog 303 [.string q] H (λv h=>v=.int .i64 (gj (cF q):Nat)∧h=H):=by
 have hl:=cI q;have hfl:=cI (lT q);have hfs:=kM q;refine sWk func303 ?_;refine go ?_;refine d1_ rfl (B5 g) (go ?_);refine gk (k:=wl2_ (Nat×Nat) (λy=>1≤y.1∧(y.1≤q.size∨y.1=1)∧y.2=l8 (vow (cF q)) y.1) (λy=>[(4,iN y.2),(5,iN y.1)]) [(3,_)] (λy=>[]) _ (λy=>q.size-y.1) ((1,0)) (h0:=?_) (k:=?_))
 ·exact⟨Xj _,.inr rfl,(nV _).symm⟩
 rintro⟨i,m⟩ ⟨h1i,hi,b⟩
 try dsimp only[Yd,Ye]at*
 have hm:=tg (vow (cF q)) i;refine gW (λh1=>?_) λh1=>?_
 ·have hlt:i<q.size:=by omega
  have a:l8 (vow (cF q)) (i+1)=l8 (vow (cF q)) i+(bif (vow (cF q)).getD (i-1) false&&!((vow (cF q)).getD i false)then 1 else 0):=by rw[l8,Ys (show 0<i from a8),Vt]
  have e:=pO (q:=q) (i:=i-1) a8;have d:=pO (q:=q) (i:=i) a8;refine gk (k:=cQ 5 24 (k:=λh2=>gk (k:=edq)) (q:=go ?_));refine gW (λh3=>?_) λh3=>?_
  ·obtain⟨c1,c2⟩:=h3;rw[MP.1 (by omega:vc ((vow (cF q)).getD (i-1) false)=118),Km.1 (by omega:vc ((vow (cF q)).getD i false)=99)]at a;refine go ?_;refine lN ((i+1,m+1)) ?_
   try dsimp only
   refine⟨a8,a8,?_⟩;rw[a,b];all_goals rfl
  have f:((vow (cF q)).getD (i-1) false&&!((vow (cF q)).getD i false))=false:=by
   rcases h3 with c|c
   ·cases hb:(vow (cF q)).getD (i-1) false with
    |false=>rfl
    |true=>rw[hb]at e;exact absurd (by rw[e];all_goals rfl) c
   ·cases hb:(vow (cF q)).getD i false with
    |true=>simp
    |false=>rw[hb]at d;exact absurd (by rw[d];all_goals rfl) c
  rw[f]at a;refine go ?_;refine lN ((i+1,m)) ?_
  try dsimp only
  refine⟨a8,a8,?_⟩;rw[a,b];all_goals rfl
 refine gR ?_;refine⟨_,hsb,?_,rfl⟩;rw[gj,b];rcases Uc q.size with h0|h0
 ·obtain rfl:i=1:=by omega
  rw[hl,h0,nV];all_goals rfl
 ·obtain rfl:i=q.size:=by omega
  rw[hl];all_goals rfl
theorem JX (d:q.size≤1000000000):SC G prog 304 [.string q] H (λv g=>v=.bool (oO (cF q))∧g=H):=by
 have hv:=ey (cF q);have hl:=cI q;have hfl:=cI (lT q);have hfs:=kM q;refine sWk func304 ?_;refine go ?_;refine d1_ rfl (B5 d) (gk (k:=wl2_ Nat (λy=>y≤q.size∧∀j,j<y→(vow (cF q))[j]? =some false) (λy=>[(4,iN y)]) [(3,_)] (λy=>[]) _ (λy=>q.size-y) (0) (h0:=?_) (k:=?_)))
 ·exact⟨Yl _,λj hj=>absurd hj (Up _)⟩
 rintro i ⟨hi,a⟩
 try dsimp only[Yd,Ye]at*
 refine gW (λh1=>?_) λh1=>?_
 ·have c:=pO (q:=q) (i:=i) a8;have b:=il (w:=cF q) (i:=i) a8;refine gW (λh2=>?_) λh2=>?_
  ·rw[MP.1 (by omega:vc ((vow (cF q)).getD i false)=118)]at b;refine gR ?_;exact⟨_,hsb,by rw[oO,yT b];all_goals rfl,rfl⟩
  have f:(vow (cF q)).getD i false=false:=by
   cases hb:(vow (cF q)).getD i false with
   |false=>rfl
   |true=>rw[hb]at c;exact absurd (by rw[c];all_goals rfl) h2
  rw[f]at b;refine go ?_;refine lN (i+1) ?_
  try dsimp only
  refine⟨a8,λj hj=>?_⟩
  by_cases e:j=i
  ·subst e;exact b
  ·exact a j a8
 refine gR ?_;exact⟨_,hsb,by rw[oO,vD (λj hj=>a j a8)];all_goals rfl,rfl⟩
theorem Iw (b:q.size≤1000000000):SC G prog 348 [.string q] H (λv f=>v=.bool (lu (cF q))∧f=H):=by
 have hv:=ey (cF q);have hl:=cI q;have hfl:=cI (lT q);have hfs:=kM q;refine sWk func348 ?_;refine go ?_;refine cZ cN (as_ 0 (q:=mv) (k:=as_ 1 (q:=igt) (k:=?_)));refine fU 2 rfl rfl aa rfl (df mv) (λh1=>?_) (λh1=>?_)
 ·replace h1:=nrm h1;have d:decide (2≤(cF q).length)=true:=Ys a8;refine at2 3 (q:=mv) (k:=at2 4 (q:=mv) (k:=at2 5 (q:=isb) (k:=at2 6 (q:=ixs) (k:=at2 7 (q:=mv) (k:=at2 8 (q:=mv) (k:=at2 9 (q:=isb) (k:=at2 10 (q:=ixs) (k:=at2 11 (q:=ieq) (k:=as_ 12 (q:=pkt) (k:=?_))))))))));refine fU 13 rfl rfl aa rfl (df mv) (λh2=>?_) (λh2=>?_)
  ·replace h2:=nrm h2;have c:decide (at0 (cF q) ((cF q).length-1)=at0 (cF q) ((cF q).length-2))=true:=Ys cm;have e:=pO (q:=q) (i:=q.size-1) a8;refine go ?_;refine fg 15 rfl rfl rfl rfl aa rfl (gi (vs:= [_]) rfl (B5 b)) ?_;refine gR ?_;refine⟨_,hsb,?_,rfl⟩;rw[lu,d,c,hl,e];cases(vow (cF q)).getD (q.size-1) false <;> rfl
  replace h2:=nrm h2;have a:lu (cF q)=false:=by rw[lu,Yr (show ¬at0 (cF q) ((cF q).length-1)=at0 (cF q) ((cF q).length-2)from cm)];simp
  refine gR ?_;exact⟨_,hsb,by rw[a];all_goals rfl,rfl⟩
 replace h1:=nrm h1;have a:lu (cF q)=false:=by rw[lu,Yr a8];all_goals rfl
 refine go ?_;refine gR ?_;exact⟨_,hsb,by rw[a];all_goals rfl,rfl⟩
theorem EO (a:q.size≤1000000000):SC G prog 307 [.string q] H (λv f=>v=.bool (gx (cF q))∧f=H):=by
 have hl:=cI q;have hfl:=cI (lT q);have hfs:=kM q;refine sWk func307 ?_;refine go ?_;refine gk (k:=dz 6 14 (k:=λh1=>gk (k:=edq)) (q:=gk (k:=dz 6 21 (k:=λh2=>gk (k:=edq)) (q:=gk (k:=dz 6 28 (k:=λh3=>gk (k:=edq)) (q:=gW (λh4=>?_) (λh4=>?_)))))))
 ·have d:gx (cF q)=false:=by
   rw[gx];rcases h4 with((c|c)|c)|c
   ·rw[Yr (show ¬3≤(cF q).length from a8)];all_goals rfl
   ·rw[Ys (show at0 (cF q) ((cF q).length-1)=119 from cm)];simp
   ·rw[Ys (show at0 (cF q) ((cF q).length-1)=120 from cm)];simp
   ·rw[Ys (show at0 (cF q) ((cF q).length-1)=121 from cm)];simp
  refine gR ?_;exact⟨_,hsb,by rw[d];all_goals rfl,rfl⟩
 have e:decide (3≤(cF q).length)=true:=Ys a8;have b:(decide (at0 (cF q) ((cF q).length-1)=119) ||decide (at0 (cF q) ((cF q).length-1)=120) ||decide (at0 (cF q) ((cF q).length-1)=121))=false:=by
  rw[hl];simp;omega
 refine go ?_;refine d1_ rfl (B5 a) (gk (k:=e_ zw (e_ np (gR ?_))));refine⟨_,hsb,?_,rfl⟩;rw[gx,e,b,hl,←CT a8];all_goals rfl
end
section
variable {G:cJ}{H:cG}{f:Bool}{k:Nat}{ps:List (ByteArray×ByteArray)}{q:ByteArray}{rs:List fN}{s:SV}
def eR:Enc (ByteArray×ByteArray):=⟨λp=>[.string p.1,.string p.2],2,true,λ_=>rfl,λp v h=>by simp at h;rcases h with rfl|rfl <;> rfl,ae,λh=>aI,ae⟩
instance {a b:ByteArray}:i6 eR (.agg [.string a,.string b].toArray) (a,b):=⟨rfl⟩
instance {a b:ByteArray}:kX eR (a,b) (.agg [.string a,.string b].toArray):=⟨rfl⟩
def jM (ps:List (ByteArray×ByteArray)) (rs:List fN):Prop:=ps.map (λp=>(cF p.1,cF p.2))=rs
theorem jM.length (h:jM ps rs):ps.length=rs.length:=by
 rw[←show ps.map (λp=>(cF p.1,cF p.2))=rs from h,Yh]
theorem jM.get (h:jM ps rs) (hk:k<rs.length):∃a b,ps[k]? =some (a,b)∧rs[k]? =some (cF a,cF b):=by
 subst h;rw[Yh]at hk;exact⟨(ps[k]).1,(ps[k]).2,Yi hk,by rw[Xd,Yi hk];all_goals rfl⟩
def ia (rs:List fN):List (ByteArray×ByteArray):=rs.map λr=>(dQ r.1,dQ r.2)
theorem lF (h:(rs.all λr=>(r.1.all λx=>decide (x<256))&&(r.2.all λx=>decide (x<256)))=true):jM (ia rs) rs:=by
 rw[jM,ia,Ut]
 conv=>rhs;rw[←P5 rs]
 apply T8;intro r hr;have h1:=V5.1 h r hr;rw[Xu]at h1;simp only[Function.comp,id];rw[ec λx hx=>Yt (V5.1 h1.1 x hx),ec λx hx=>Yt (V5.1 h1.2 x hx)]
def ll (rs:List fN) (q r e t:ByteArray) (f:Bool):Prop:=match dW rs (cF q)with
 |none=>f=false∧r=q∧e.size=0∧t.size=0
 |some R=>f=true∧cF e=R.1∧cF t=R.2∧cW (cF q) R.1=true∧cF r=ko (cF q) R.1∧r.size+e.size=q.size
theorem pD [hs:Sl H s eR ps] (hr:jM ps rs) (hq:q.size≤1000000000) (hn:rs.length≤1000) (l:∀r∈rs,r.1.length≤1000∧r.2.length≤1000):SC G prog 302 [.string q,s.val] H (λv L=>∃r e t f,v=.tuple #[.string r,.agg #[.string e,.string t],.bool f]∧ll rs q r e t f∧L=H):=by
 have hl:=cI q;have hsl:=hr.length;refine sWk func302 ?_;refine gk (k:=alc (k:=λb5=>?_));refine e_ asn (on_ (qn_ (ws_ (wr_ (e_ (bld []) (alc (k:=λC=>?_)))))));refine go ?_;refine gk (k:=wl2_ (Nat×ByteArray×ByteArray×Bool) (λy=>y.1≤rs.length∧(rs.take y.1).foldl (lK (cF q)) none=(bif y.2.2.2 then some (cF y.2.1,cF y.2.2.1)else none)∧(y.2.2.2=false→y.2.1.size=0∧y.2.2.1.size=0)∧(y.2.2.2=true→cW (cF q) (cF y.2.1)=true)∧y.2.1.size≤1000) (λy=>[(8,.bool y.2.2.2),(14,iN y.1)]) [(0,_),(5,_),(7,_),(12,_),(13,_)] (λy=>[Vr C [.string y.2.1,.string y.2.2.1]]) _ (λy=>rs.length-y.1) ((0,ByteArray.empty,ByteArray.empty,false)) (h0:=?_) (k:=?_))
 ·try dsimp only
  refine⟨Yl _,rfl,?_,?_,ae⟩ <;> simp
 rintro⟨n,e,t,f⟩ ⟨hnl,p,i,g,u⟩
 try dsimp only[Yd,Ye]at*
 refine gW (λh1=>?_) λh1=>?_
 ·obtain⟨a,b,hab,F⟩:=hr.get (k:=n) a8;obtain⟨A,z⟩:=l _ (Yj F);have hal:=cI a;have j:=cI e;have d:=pI (w:=cF q) F;rw[p]at d;simp only at A z;refine gk (k:=alc (k:=λb10=>?_));refine go ?_;refine d2_ rfl (iC a8 a8) (gk (k:=cQ 12 34 (k:=λh2=>gk (k:=dz 8 33 (k:=λh3=>gk (k:=edq)) (q:=gk (k:=edq)))) (q:=gW (λh4=>?_) (λh4=>?_))))
  ·obtain⟨B,J⟩:=h4;have x:lsC (cF q) (bif f then some (cF e,cF t)else none) (cF a,cF b)=true:=by
    cases f with
    |false=>simp only[lsC,cond_false,B,Vt]
    |true=>
     rcases J with c|c
     ·cases c
     ·simp only[lsC,cond_true,B,Vt];exact Ys a8
   rw[lK,x]at d;refine go ?_;refine lN ((n+1,a,b,true)) ?_
   try dsimp only
   exact⟨a8,d,λh=>by(cases h),λ_=>B,a8⟩
  have x:lsC (cF q) (bif f then some (cF e,cF t)else none) (cF a,cF b)=false:=by
   rcases h4 with c|⟨c,J⟩
   ·simp only[lsC,c,Bool.false_and]
   ·have:f=true:=by simpa using c
    subst this;simp only[lsC,cond_true];rw[Yr a8];simp
  rw[lK,x]at d;refine go ?_;refine lN ((n+1,e,t,f)) ?_
  exact⟨a8,d,i,g,u⟩
 obtain rfl:n=rs.length:=a8;rw[Xq (Xj _)]at p;have j:=cI e;have hle:e.size≤q.size:=by
  cases f with
  |false=>have:=(i rfl).1;omega
  |true=>have:=kR (g rfl);omega
 refine go ?_;refine wD [11] (λk H=>(k=4→cY H C [.string e,.string t])∧(k=8→cY H C [.string e,.string t])) (aF 0 (k:=aF 1 (k:=aF 2 (k:=aF 3 (k:=?_)))));refine aN 4 rfl (λH hH=>aw) ?_;refine aF 5 (k:=aF 6 (k:=af_ 7 (q:=cU λH hH=>oF) (k:=?_)));refine aN 8 rfl (λH hH=>by have hN:=hH.2 rfl;exact lds) (go ?_);refine aS 11 rfl (db rfl rfl rfl) ?_;rintro _ _ ⟨rfl,rfl⟩;refine gk (k:=aZ (gR ?_));refine⟨_,hsb,q.extract 0 (q.size-e.size),e,t,f,rfl,?_,rfl⟩;have m:=cI (q.extract 0 (q.size-e.size));rw[fM,Yg]at m;rw[ll,dW,p];cases f with
 |false=>
  obtain⟨E,K⟩:=i rfl;refine⟨rfl,?_,E,K⟩;rw[←iw,fM,E,S0,Xq a8]
 |true=>exact⟨rfl,rfl,rfl,g rfl,by rw[fM,ko,hl,j],a8⟩
theorem pJ {r e t:ByteArray}(h:ll rs q r e t f):r.size≤q.size:=by
 rw[ll]at h;cases hl:dW rs (cF q)with
 |none=>rw[hl]at h;rw[h.2.1];exact Xj _
 |some R=>rw[hl]at h;have:=h.2.2.2.2.2;omega
theorem wb {r e t:ByteArray}(h:ll rs q r e t f) (hk:∀r∈rs,r.2.length≤k):t.size≤k:=by
 have a:=cI t;rw[ll]at h;cases hl:dW rs (cF q)with
 |none=>rw[hl]at h;have:=h.2.2.2;omega
 |some R=>rw[hl]at h;have:=hk R (l9 hl).1;rw[h.2.2.1]at a;omega
theorem qu {most:Nat} [hs:Sl H s eR ps] (hr:jM ps rs) (hq:q.size≤100000000) (i:rs.length≤1000) (a:∀r∈rs,r.1.length≤1000∧r.2.length≤1000):SC G prog 306 [.string q,s.val,iN most] H (λv m=>∃r,v=.string r∧cF r=fx rs most (cF q)∧m=H):=by
 have hl:=cI q;refine sWk func306 ?_;refine go ?_;refine c2_ rfl (pD hr a8 i a) ?_;rintro _ _ ⟨r,e,t,f,rfl,hL,rfl⟩;have hrq:=pJ hL;have htk:=wb hL (λr h=>(a r h).2);refine gk (k:=alc (k:=λb8=>?_));refine gk (k:=cQ 5 23 (k:=λh1=>gk (k:=gA (vs:=[_]) (hc:=(xI a8)) (k:=gk (k:=edq)))) (q:=gW (λh2=>?_) (λh2=>?_)))
 ·obtain⟨rfl,c⟩:=h2;have b:fx rs most (cF q)=cF r++cF t:=by
   rw[ll]at hL;rw[fx];cases hl:dW rs (cF q)with
   |none=>rw[hl]at hL;cases hL.1
   |some R=>
    rw[hl]at hL;obtain⟨_,j,g,_,d,_⟩:=hL;simp only;rw[←d,←g,Ys a8];all_goals rfl
  refine gk (k:=e_ xC (gR ?_));exact⟨_,hsb,r++t,rfl,by rw[b,dR],rfl⟩
 have b:fx rs most (cF q)=cF q:=by
  rw[ll]at hL;rw[fx];cases hl:dW rs (cF q)with
  |none=>rfl
  |some R=>
   rw[hl]at hL;obtain⟨l,j,g,_,d,_⟩:=hL;subst l;rcases h2 with c|c
   ·cases c
   ·simp only;rw[←d,Yr a8];all_goals rfl
 refine gR ?_;exact⟨_,hsb,q,rfl,b.symm,rfl⟩
theorem Ir (hq:q.size≤100000000):SC G prog 305 [.string q] H (λv t=>∃r,v=.string r∧cF r=kf (cF q)∧t=H):=by
 have hl:=cI q;refine sWk func305 ?_;refine ws_ (wr_ (e_ asn (on_ (qn_ (ws_ (wb_ (mf [(3,.bool (cW (cF q) (cF ⟨#[97,116]⟩) ||cW (cF q) (cF ⟨#[98,108]⟩) ||cW (cF q) (cF ⟨#[105,122]⟩)))] [3,4,5,6,7,8,9] ?_ ?_)))))))
 ·refine go ?_;refine d2_ rfl (iC a8 ae) (gW (λh1=>?_) (λh1=>?_))
  ·refine gk (k:=jne (hs:=.cons cx (.nil)))
  refine go ?_;refine d2_ rfl (iC a8 ae) (gW (λh2=>?_) (λh2=>?_))
  ·refine gk (k:=jne (hs:=.cons cx (.nil)))
  refine go ?_;refine d2_ rfl (iC a8 ae) (gk (k:=jne (hs:=.cons cx (.nil))))
 refine wi_ (k:=λh3=>?_) (m:=λh3=>?_)
 ·have a:(cW (cF q) [97,116] ||cW (cF q) [98,108] ||cW (cF q) [105,122])=true:=by simp only[Ub];exact h3
  refine ws_ (wr_ (e_ mv ?_));refine e_ (gU rfl rfl (by show q.size+1≤_;omega)) ?_;refine gR ?_;exact⟨_,hsb,q++⟨#[101]⟩,rfl,by rw[kf,a,dR];all_goals rfl,rfl⟩
 have a:(cW (cF q) [97,116] ||cW (cF q) [98,108] ||cW (cF q) [105,122])=false:=by simp only[Ue];exact h3
 refine go ?_;refine d1_ rfl (Iw a8) (gk (k:=cQ 4 19 (k:=λh4=>gk (k:=gA (vs:=[_,_]) (hc:=(iC a8 ae)) (k:=gk (k:=edq)))) (q:=gk (k:=cQ 4 24 (k:=λh5=>gk (k:=gA (vs:=[_,_]) (hc:=(iC a8 ae)) (k:=gk (k:=edq)))) (q:=gk (k:=cQ 4 29 (k:=λh6=>gk (k:=gA (vs:=[_,_]) (hc:=(iC a8 ae)) (k:=gk (k:=edq)))) (q:=gW (λf=>?_) (λf=>?_))))))))
 ·obtain⟨⟨⟨h,p⟩,n⟩,l⟩:=f;have s:=pV h;have hN:=(nY (w:=cF q) a8 108).symm.trans p;have e:=(nY (w:=cF q) a8 115).symm.trans n;have b:=(nY (w:=cF q) a8 122).symm.trans l;refine gk (k:=e_ oF (gR ?_));exact⟨_,hsb,q.extract 0 (q.size-1),rfl,by rw[iy,kf,a,h,hN,e,b];all_goals rfl,rfl⟩
 have g:(lu (cF q)&&!(decide (at0 (cF q) ((cF q).length-1)=108) ||decide (at0 (cF q) ((cF q).length-1)=115) ||decide (at0 (cF q) ((cF q).length-1)=122)))=false:=by
  cases hd:lu (cF q)with
  |false=>rfl
  |true=>
   have s:=pV hd;rcases f with((c|c)|c)|c
   ·rw[hd]at c;cases c
   ·rw[(nY (w:=cF q) a8 108).symm.trans c];all_goals rfl
   ·rw[(nY (w:=cF q) a8 115).symm.trans c];simp
   ·rw[(nY (w:=cF q) a8 122).symm.trans c];simp
 refine go ?_;refine d1_ rfl (xI a8) (gk (k:=cQ 3 42 (k:=λh8=>gk (k:=gA (vs:=[_]) (hc:=(EO a8)) (k:=gk (k:=edq)))) (q:=gW (λh9=>?_) (λh9=>?_))))
 ·obtain⟨m1,i⟩:=h9;refine ws_ (wr_ (e_ mv ?_));refine e_ (gU rfl rfl (by show q.size+1≤_;omega)) ?_;refine gR ?_;exact⟨_,hsb,q++⟨#[101]⟩,rfl,by rw[kf,a,g,Ys (show gj (cF q)=1 from a8),i,dR];all_goals rfl,rfl⟩
 have j:(decide (gj (cF q)=1)&&gx (cF q))=false:=by
  rcases h9 with d|d
  ·rw[Yr a8];all_goals rfl
  ·rw[d];simp
 refine gR ?_;exact⟨_,hsb,q,rfl,by rw[kf,a,g,j];all_goals rfl,rfl⟩
end
section
variable {G:cJ}{H:cG}{f:Bool}{q r:ByteArray}
theorem qt {l:List Nat}{k:Nat}(h:cF r=l) (hl:l.length≤(cF q).length+k):r.size≤q.size+k:=by
 rw[←cI r,←cI q,h];exact hl
theorem PM:jM (ia gT) gT:=lF ao
theorem PL:jM (ia jj) jj:=lF ao
theorem rp2:jM (ia ic) ic:=lF ao
theorem rp3:jM (ia iL) iL:=lF ao
theorem rp4:jM (ia eM) eM:=lF ao
theorem Fx {e t:ByteArray}(h:ll gT q r e t f):gH (cF q)=bif f then cF r++cF t else cF q:=by
 rw[ll]at h;rw[gH];cases hl:dW gT (cF q)with
 |none=>rw[hl]at h;obtain⟨rfl,_⟩:=h;rfl
 |some R=>rw[hl]at h;obtain⟨rfl,_,b,_,a,_⟩:=h;simp only;rw[←a,←b];all_goals rfl
theorem Fw {e t:ByteArray}(h:ll jj q r e t f):gw (cF q)=bif f&&decide (cF e= [101,101,100])then(bif decide (0<gj (cF r))then cF r++cF t else cF q)else bif f&&oO (cF r)then kf (cF r)else cF q:=by
 rw[ll]at h;rw[gw];cases hl:dW jj (cF q)with
 |none=>rw[hl]at h;obtain⟨rfl,_⟩:=h;rfl
 |some R=>rw[hl]at h;obtain⟨rfl,c,b,_,a,_⟩:=h;simp only;rw[←a,←b,←c,Vt,Vt]
theorem Lz (hq:q.size≤10000000):SC G prog 254 [.string q] H (λv z=>∃r,v=.string r∧cF r=iY (gw (gH (cF q)))∧z=H):=by
 refine sWk func254 ?_;refine ws_ (wr_ (e_ asn (on_ (qn_ (ws_ (wr_ (e_ mv (e_ (bld [(0,_),(1,_)]) (e_ (bld [(0,_),(1,_)]) (e_ (bld [(0,_),(1,_)]) (e_ (bld [(0,_),(1,_)]) ?_)))))))))));refine s_ (dt eR (ia gT) bA rfl ao) ?_;rintro _ _ ⟨s12,rfl,rfl⟩;refine c2_ rfl (pD PM a8 ae ae) ?_;rintro _ _ ⟨r1,e1,t1,f1,rfl,f,rfl⟩;have d:=Fx f;have z1:=pJ f;have y1:=wb (k:=10) f ae;refine e_ mv (e_ exr (e_ exr (e_ exr (alc (k:=λb4=>?_)))));refine e_ asn (sto (k:=e_ asn (on_ (qn_ (jS ByteArray (λy=>cF y=gH (cF q)) (λy=>[(0,.string y)]) [0,17,18,19,20,21] ?_ ?_)))))
 ·refine ws_ (wr_ (e_ mv (on_ (qn_ (wi_ (k:=λh1=>?_) (m:=λh1=>?_))))))
  ·rw[h1]at d;refine wr_ (e_ mv (e_ fla (e_ ldv (e_ xC (e_ asn (on_ (jnE _ (q:=?_))))))));rw[d,dR];all_goals rfl
  rw[h1]at d;refine wk_ (jnE _ (q:=?_));exact d.symm
 rintro u i
 try dsimp only[Yd,Ye]at*
 have z2:=qt i (mo _);refine ws_ (wr_ (e_ mv (e_ (bld [(0,_),(1,_)]) (e_ (bld [(0,_),(1,_)]) (e_ (bld [(0,_),(1,_)]) ?_)))));refine s_ (dt eR (ia jj) bA rfl ao) ?_;rintro _ _ ⟨s27,rfl,rfl⟩;refine c2_ rfl (pD PL a8 ae ae) ?_;rintro _ _ ⟨n,w,t2,x,rfl,e,rfl⟩;have a:=Fw e;have z3:=pJ e;have y2:=wb (k:=10) e ae;refine e_ mv (e_ exr (e_ exr (e_ exr (e_ asn (sto (k:=e_ asn (on_ (qn_ (jS ByteArray (λy=>cF y=gw (cF u)) (λy=>[(0,.string y)]) [0,32,33,34,35,36,37,38,39,40,41,42,43,44,45,46,47,48,49,50,51] ?_ ?_)))))))))
 ·refine ws_ (wr_ (e_ mv (e_ mv (cQ 4 37 (k:=λh2=>eg_ fla (eg_ ldv (eg_ np (e_ pkt (on_ edq))))) (q:=on_ (qn_ (wi_ (k:=λh3=>?_) (m:=λh3=>?_))))))))
  ·obtain⟨l,j⟩:=h3;rw[l,Vt,Ys (show cF w= [101,101,100]from j)]at a;refine ws_ (wr_ (e_ mv ?_));refine d1_ rfl (xI a8) (e_ igt (on_ (qn_ (wi_ (k:=λh4=>?_) (m:=λh4=>?_)))))
   ·rw[Ys (show 0<gj (cF n)from a8)]at a;refine wr_ (e_ mv (e_ fla (e_ ldv (e_ xC (e_ asn (on_ (jnE _ (q:=?_))))))));rw[a,dR];all_goals rfl
   rw[Yr (show ¬0<gj (cF n)from a8)]at a;refine wk_ (jnE _ (q:=?_));exact a.symm
  have hc:(x&&decide (cF w= [101,101,100]))=false:=by
   rcases h3 with c|c
   ·rw[c];all_goals rfl
   ·rw[Yr (show ¬cF w= [101,101,100]from c)];simp
  rw[hc,cond_false]at a;refine ws_ (wr_ (e_ mv (e_ mv (cQ 3 49 (k:=λh5=>eg_ mv (gA (vs:=[_]) (hc:=(JX a8)) (k:=e_ pkt (on_ edq)))) (q:=on_ (qn_ (wi_ (k:=λh6=>?_) (m:=λh6=>?_))))))))
  ·obtain⟨l,j⟩:=h6;rw[l,j]at a;refine wr_ (e_ mv ?_);refine c1_ rfl (Ir a8) ?_;rintro _ _ ⟨r3,rfl,p,rfl⟩;refine e_ asn (on_ (jnE _ (q:=?_)));rw[p,a];all_goals rfl
  have s:(x&&oO (cF n))=false:=by
   rcases h6 with c|c
   ·rw[c];all_goals rfl
   ·rw[c];simp
  rw[s]at a;refine wk_ (jnE _ (q:=?_));exact a.symm
 rintro b g
 try dsimp only[Yd,Ye]at*
 have z4:=qt g (mn _);have hul:=cI b;have hxz:=A7 b (b.size-1);refine ws_ (ws_ (wr_ (e_ mv ?_)));refine d2_ rfl (iC a8 ae) (e_ mv (cQ 7 61 (k:=λh7=>eg_ mv (eg_ mv (eg_ oe (eg_ (isb (h:=by omega)) (eg_ (oF (hj:=xN (by have:=kR ‹cW (cF b) (cF ⟨#[121]⟩)=true›;have h2:(cF ⟨#[121]⟩).length=1:=rfl;omega))) (gA (vs:=[_]) (hc:=(JX a8)) (k:=e_ pkt (on_ edq)))))))) (q:=on_ (qn_ (wi_ (k:=λt=>?_) (m:=λt=>?_))))))
 ·obtain⟨l,j⟩:=t;have k3:=kR l;have k4:(cF ⟨#[121]⟩).length=1:=rfl;rw[iy]at j;refine wr_ (e_ mv (e_ mv (e_ oe (e_ isb (e_ oF ?_)))));refine e_ (gU rfl rfl (by show(b.extract 0 (b.size-1)).size+1≤_;omega)) ?_;refine e_ asn (on_ (qn_ (ws_ (wr_ (e_ mv (e_ asn (on_ (qn_ (wt_ (rT (k:=?_)))))))))));exact⟨_,hsb,b.extract 0 (b.size-1)++⟨#[105]⟩,rfl,by rw[←i,←g,iY,show cW (cF b) [121]=true from l,j,dR,iy];all_goals rfl,rfl⟩
 have hc:(cW (cF b) [121]&&oO (dp (cF b)))=false:=by
  rcases t with c|c
  ·rw[show cW (cF b) [121]=false from c];all_goals rfl
  ·rw[iy]at c;rw[c];simp
 refine wk_ (qn_ (ws_ (wr_ (e_ mv (e_ asn (on_ (qn_ (wt_ (rT (k:=?_))))))))));exact⟨_,hsb,b,rfl,by rw[←i,←g,iY,hc];all_goals rfl,rfl⟩
theorem NU (hq:q.size≤10000000):SC G prog 256 [.string q] H (λv h=>∃r,v=.string r∧cF r=nh (cF q)∧h=H):=by
 have b:=A7 q (q.size-1);refine sWk func256 ?_;refine ws_ (wr_ (e_ asn (on_ (qn_ (jS ByteArray (λy=>cF y=gS (cF q)∧y.size≤q.size) (λy=>[(0,.string y)]) [0,3,4,5,6,7,8,9,10,11,12,13,14,15,16,17,18,19,20,21,22,23,24,25] ?_ ?_)))))
 ·refine go ?_;refine d2_ rfl (iC a8 ae) (gW (λh1=>?_) (λh1=>?_))
  ·have a:cW (cF q) [101]=true:=h1;have g:=kR h1;have f:(cF ⟨#[101]⟩).length=1:=rfl;have k5:=cI q;refine gk (k:=e_ oF (go ?_));refine d1_ rfl (xI a8) ?_;rw[iy];refine gk (k:=dz 8 24 (k:=λh2=>gk (k:=cQ 4 23 (k:=λh3=>gk (k:=gA (vs:=[_]) (hc:=(EO a8)) (k:=gk (k:=edq)))) (q:=gk (k:=edq)))) (q:=gW (λh4=>?_) (λh4=>?_)))
   ·rw[iy]at h4;have hc:(decide (1<gj (dp (cF q))) ||decide (gj (dp (cF q))=1)&&!gx (dp (cF q)))=true:=by
     rcases h4 with c|⟨c,c'⟩
     ·rw[Ys a8];all_goals rfl
     ·rw[Ys (show gj (dp (cF q))=1 from a8),c'];simp
    refine gk (k:=jnE _ (q:=?_));exact⟨by rw[gS,a,hc,iy];all_goals rfl,b⟩
   rw[iy]at h4;have hc:(decide (1<gj (dp (cF q))) ||decide (gj (dp (cF q))=1)&&!gx (dp (cF q)))=false:=by
    obtain⟨c,c'⟩:=h4;rw[Yr a8];rcases c' with c'|c'
    ·rw[Yr a8];all_goals rfl
    ·rw[c'];simp
   refine gk (k:=jnE _ (q:=?_));exact⟨by rw[gS,a,hc];all_goals rfl,Xj _⟩
  have a:cW (cF q) [101]=false:=h1;refine gk (k:=jnE _ (q:=?_));exact⟨by rw[gS,a];all_goals rfl,Xj _⟩
 rintro u ⟨d,hJz⟩
 try dsimp only[Yd,Ye]at*
 have hul:=cI u;refine go ?_;refine d2_ rfl (iC a8 ae) (gk (k:=cQ 4 32 (k:=λh5=>gk (k:=gA (vs:=[_]) (hc:=(xI a8)) (k:=gk (k:=edq)))) (q:=gW (λh6=>?_) (λh6=>?_))))
 ·obtain⟨e,c2⟩:=h6;have g:=kR e;have f:(cF ⟨#[108,108]⟩).length=2:=rfl;refine gk (k:=e_ oF (go ?_));refine gR ?_;exact⟨_,hsb,u.extract 0 (u.size-1),rfl,by rw[iy,nh,←d,show cW (cF u) [108,108]=true from e,Ys a8];all_goals rfl,rfl⟩
 have hN:(cW (gS (cF q)) [108,108]&&decide (1<gj (gS (cF q))))=false:=by
  rw[←d];rcases h6 with k|k
  ·rw[show cW (cF u) [108,108]=false from k];all_goals rfl
  ·rw[Yr a8];simp
 refine gR ?_;exact⟨_,hsb,u,rfl,by rw[nh,hN,d];all_goals rfl,rfl⟩
end
section
variable {G:cJ}{H:cG}{q:ByteArray}
theorem Ga {n:Nat}(h:n<19):∃a,(eM.map λr=>dQ r.1)[n]? =some a∧(ia eM).take (n+1)=(ia eM).take n++ [(a,⟨#[]⟩)]∧a.size≤10:=by
 have b:n<eM.length:=h;have h2:∀r∈eM,r.2= []∧r.1.length≤10:=ae;obtain⟨h3,h4⟩:=h2 _ (List.getElem_mem b);refine⟨dQ (eM[n]).1,by rw[Xd,Yi b];all_goals rfl,?_,by rw[gG];exact h4⟩;rw[Ua,ia,Xd,Yi b];simp only[Vd,S7,h3];all_goals rfl
theorem IG {r e t:ByteArray}{f:Bool}(h:ll eM q r e t f):kA (cF q)=bif f&&decide (cF e= [105,111,110])&&!cW (cF r) [115]&&!cW (cF r) [116]then cF q else fx eM 1 (cF q):=by
 rw[ll]at h;rw[kA];cases hl:dW eM (cF q)with
 |none=>rw[hl]at h;obtain⟨rfl,_⟩:=h;simp only[Bool.false_and,cond_false];rw[fx,hl]
 |some R=>rw[hl]at h;obtain⟨rfl,b,g2,_,a,_⟩:=h;simp only;rw[←a,←b,Vt]
theorem Iq (hq:q.size≤10000000):SC G prog 255 [.string q] H (λv E=>∃r,v=.string r∧cF r=kA (fx iL 0 (fx ic 0 (cF q)))∧E=H):=by
 refine sWk func255 ?_;refine ws_ (wr_ (e_ asn (on_ (qn_ (ws_ (wr_ (e_ mv (e_ (bld [(0,_),(1,_)]) (e_ (bld [(0,_),(1,_)]) (e_ (bld [(0,_),(1,_)]) (e_ (bld [(0,_),(1,_)]) (e_ (bld [(0,_),(1,_)]) (e_ (bld [(0,_),(1,_)]) ?_)))))))))))));refine e_ (bld [(0,_),(1,_)]) (e_ (bld [(0,_),(1,_)]) (e_ (bld [(0,_),(1,_)]) (e_ (bld [(0,_),(1,_)]) (e_ (bld [(0,_),(1,_)]) (e_ (bld [(0,_),(1,_)]) (e_ (bld [(0,_),(1,_)]) (e_ (bld [(0,_),(1,_)]) (e_ (bld [(0,_),(1,_)]) (e_ (bld [(0,_),(1,_)]) (e_ (bld [(0,_),(1,_)]) (e_ (bld [(0,_),(1,_)]) (e_ (bld [(0,_),(1,_)]) (e_ (bld [(0,_),(1,_)]) ?_)))))))))))));refine s_ (dt eR (ia ic) bA rfl ao) ?_;rintro _ _ ⟨s30,rfl,rfl⟩;refine c3_ rfl (qu (most:=0) rp2 a8 ae ae) ?_;rintro _ _ ⟨r1,rfl,d,rfl⟩;have z1:=qt d (iB (k:=10) ae _);refine e_ asn (on_ (qn_ (ws_ (wr_ (e_ mv (e_ (bld [(0,_),(1,_)]) (e_ (bld [(0,_),(1,_)]) (e_ (bld [(0,_),(1,_)]) (e_ (bld [(0,_),(1,_)]) (e_ (bld [(0,_),(1,_)]) (e_ (bld [(0,_),(1,_)]) (e_ (bld [(0,_),(1,_)]) ?_))))))))))));refine s_ (dt eR (ia iL) bA rfl ao) ?_;rintro _ _ ⟨s40,rfl,rfl⟩;refine c3_ rfl (qu (most:=0) rp3 a8 ae ae) ?_;rintro _ _ ⟨u,rfl,b,rfl⟩;have z2:=qt b (iB (k:=10) ae _);refine go ?_;refine s_ (fK eR rfl) ?_;rintro _ _ ⟨i,rfl,rfl⟩;refine go ?_;refine s_ (dt eS (eM.map λr=>dQ r.1) bA rfl ao) ?_;rintro _ _ ⟨s43,rfl,rfl⟩;refine gk (k:=wl2_ (SV×Nat) (λy=>y.2≤19) (λy=>[(3,y.1.val),(45,iN y.2)]) [(0,_),(43,_),(44,_)] (λy=>[Row y.1 eR ((ia eM).take y.2)]) _ (λy=>19-y.2) ((i,0)) (h0:=?_) (k:=?_))
 ·exact Yl _
 rintro⟨s,n⟩ w
 try dsimp only[Yd,Ye]at*
 refine gW (λh1=>?_) λh1=>?_
 ·have l:n<19:=by have h:=h1;rw[show(eM.map λr=>dQ r.1).length=19 from rfl]at h;omega
  obtain⟨a,ha,hk,haz⟩:=Ga l;have hl4:((ia eM).take n).length≤19:=by rw[Yg];exact Xi (Nat.min_le_left _ _) w
  refine wk_ (qn_ (ws_ (wb_ (ws_ (wr_ (e_ ixa (e_ lel (e_ asn (on_ (qn_ (wr_ (e_ mv (e_ mv ?_)))))))))))));refine e_ (bld [(0,_),(1,_)]) (fX eR (k:=λs52=>?_));refine app (k:=λg=>?_);rw[←hk];refine go ?_;refine lN ((g,n+1)) ?_
  try dsimp only
  omega
 obtain rfl:n=19:=by have h:=h1;rw[show(eM.map λr=>dQ r.1).length=19 from rfl]at h;omega
 have h4:(ia eM).take 19=ia eM:=rfl;rw[h4];refine go ?_;refine c2_ rfl (pD rp4 a8 ae ae) ?_;rintro _ _ ⟨e,p,t3,x,rfl,hL,rfl⟩;have f:=IG hL;have z3:=pJ hL;refine gk (k:=alc (k:=λb7=>?_));refine gk (k:=cQ 4 67 (k:=λh2=>gk (k:=eg_ np (gk (k:=edq)))) (q:=gk (k:=cQ 4 72 (k:=λh3=>gk (k:=gA (vs:=[_,_]) (hc:=(iC a8 ae)) (k:=gk (k:=edq)))) (q:=go ?_))));refine cQ 4 77 (k:=λh4=>gk (k:=gA (vs:=[_,_]) (hc:=(iC a8 ae)) (k:=gk (k:=edq)))) (q:=gW (λm=>?_) (λm=>?_))
 ·obtain⟨⟨⟨C,B⟩,A⟩,z⟩:=m;rw[C,Ys (show cF p= [105,111,110]from B),show cW (cF e) [115]=false from A,show cW (cF e) [116]=false from z]at f;refine gR ?_;exact⟨_,hsb,u,rfl,by rw[←d,←b,f];all_goals rfl,rfl⟩
 have hc:(x&&decide (cF p= [105,111,110])&&!cW (cF e) [115]&&!cW (cF e) [116])=false:=by
  rcases m with((c|c)|c)|c
  ·rw[c];all_goals rfl
  ·rw[Yr (show ¬cF p= [105,111,110]from c)];simp
  ·rw[show cW (cF e) [115]=true from c];simp
  ·rw[show cW (cF e) [116]=true from c];simp
 rw[hc]at f;refine go ?_;refine c3_ rfl (qu (most:=1) rp4 a8 ae ae) ?_;rintro _ _ ⟨t,rfl,j,rfl⟩;refine gR ?_;exact⟨_,hsb,t,rfl,by rw[j,←d,←b,f];all_goals rfl,rfl⟩
theorem JV (hq:q.size≤5000000):SC G prog 177 [.string q] H (λv w=>∃r,v=.string r∧cF r=iq (cF q)∧w=H):=by
 have hl:=cI q;have l:=A7 q (q.size-2);refine sWk func177 ?_;refine ws_ (wr_ (e_ asn (on_ (qn_ (jS ByteArray (λy=>cF y=jU (cF q)∧y.size≤q.size) (λy=>[(0,.string y)]) [0,4,5,6,7,8,9,10,11,12,13,14,15] ?_ ?_)))))
 ·refine gk (k:=cQ 3 10 (k:=λh1=>gk (k:=gA (vs:=[_,_]) (hc:=(iC a8 ae)) (k:=gk (k:=edq)))) (q:=gW (λh2=>?_) (λh2=>?_)))
  ·obtain⟨c1,t⟩:=h2;refine gk (k:=e_ oF (gk (k:=jnE _ (q:=?_))));exact⟨by rw[fM,jU,Ys a8,show cW (cF q) [39,115]=true from t,hl];all_goals rfl,l⟩
  have hc:(decide (2<(cF q).length)&&cW (cF q) [39,115])=false:=by
   rcases h2 with c|c
   ·rw[Yr a8];all_goals rfl
   ·rw[show cW (cF q) [39,115]=false from c];simp
  refine gk (k:=jnE _ (q:=?_));exact⟨by rw[jU,hc];all_goals rfl,Xj _⟩
 rintro u ⟨hub,hJz⟩
 try dsimp only[Yd,Ye]at*
 have hul:=cI u;refine gW (λh3=>?_) λh3=>?_
 ·have g:iq (cF q)=cF u:=by rw[iq,←hub,qY,Ys a8];all_goals rfl
  refine gR ?_;exact⟨_,hsb,u,rfl,g.symm,rfl⟩
 refine gk (k:=wl2_ Nat (λy=>y≤u.size∧∀j,j<y→ny (at0 (cF u) j)=true) (λy=>[(3,iN y)]) [(0,_)] (λy=>[]) _ (λy=>u.size-y) (0) (h0:=?_) (k:=?_))
 ·exact⟨Yl _,λj hj=>absurd hj (Up _)⟩
 rintro i ⟨hi,a⟩
 try dsimp only[Yd,Ye]at*
 refine gW (λh4=>?_) λh4=>?_
 ·refine gk (k:=dz 5 35 (k:=λh5=>gk (k:=edq)) (q:=go ?_));refine wi_ (k:=λh6=>?_) (m:=λh6=>?_)
  ·have p:ny (at0 (cF u) i)=false:=by simp only[ny,Vo,Xx];omega
   have g:iq (cF q)=cF u:=by rw[iq,←hub,qY,BO a8 p];simp
   refine gR ?_;exact⟨_,hsb,u,rfl,g.symm,rfl⟩
  have hy:ny (at0 (cF u) i)=true:=by simp only[ny,Xu,Xs];omega
  refine go ?_;refine lN (i+1) ?_
  try dsimp only
  refine⟨a8,λj hj=>?_⟩
  by_cases e:j=i
  ·subst e;exact hy
  ·exact a j a8
 have hA:=all_take a a8;have g:iq (cF q)=nh (kA (fx iL 0 (fx ic 0 (iY (gw (gH (cF u))))))):=cc;refine go ?_;refine c1_ rfl (Lz a8) ?_;rintro _ _ ⟨h,rfl,f,rfl⟩;have z1:=qt (q:=u) (k:=40) f (by have a1:=mo (cF u);have a2:=mn (gH (cF u));have a3:=oE (gw (gH (cF u)));omega);refine go ?_;refine c1_ rfl (Iq a8) ?_;rintro _ _ ⟨r2,rfl,d,rfl⟩;have z2:=qt (q:=h) (k:=30) d (by have a4:=iB (rs:=ic) (most:=0) (k:=10) ae (cF h);have a5:=iB (rs:=iL) (most:=0) (k:=10) ae (fx ic 0 (cF h));have a6:=qo (fx iL 0 (fx ic 0 (cF h)));omega);refine go ?_;refine c1_ rfl (NU a8) ?_;rintro _ _ ⟨n,rfl,b,rfl⟩;have s:cF n=iq (cF q):=by
  rw[d,f]at b;exact b.trans g.symm
 refine gR ?_;exact⟨_,hsb,n,rfl,s,rfl⟩
end
end Go.Sx
