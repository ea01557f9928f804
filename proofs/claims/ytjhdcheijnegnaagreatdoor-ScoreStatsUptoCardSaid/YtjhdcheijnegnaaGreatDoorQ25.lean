import Derived.Test.YtjhdcheijnegnaaGreatDoorQ22
set_option linter.all false
set_option maxHeartbeats 0
namespace Go.Sx
open Go Go.Proofs Tryz
set_option maxRecDepth 100000
theorem Nw {G:cJ}{H:cG}{s:SV}{l:List En} [hs:Sl H s eEn l] (hl:l.length≤100000000) (a:ru l):SC G prog 240 [s.val] H (λv F=>∃z:SV,v=.tuple #[z.val,.nilIface]∧F=Row z eB (fT l)::H):=by
 have hsm:=tc a;have g:=mS hsm;have hbk:16*fm l≤l.length+15:=cq;refine sWk func240 ?_;refine go ?_;refine gk (k:=wl2_ Nat (λy=>y≤l.length) (λy=>[(15,iN y)]) [(0,_),(13,_),(14,_)] (λy=>[]) _ (λy=>l.length-y) (0) (h0:=?_) (k:=?_))
 ·exact Yl _
 rintro i hi
 try dsimp only[Yd,Ye]at*
 refine gW (λh1=>?_) λh1=>?_
 ·obtain⟨e,he⟩:=gE l i;obtain⟨k1,k2,k3,k4,k5,k6⟩:=a.1 e (Yj he);refine gk (k:=alc (k:=λb5=>?_));refine gk (k:=dz 5 28 (k:=λh2=>gk (k:=edq)) (q:=go ?_));refine wi_ (k:=λh3=>?_) (m:=λh3=>?_)
  ·exact absurd h3 a8
  refine go ?_;refine d1_ rfl JK (gk (k:=wl2_ Nat (λy=>y≤4) (λy=>[(32,iN y)]) [(0,_),(13,_),(14,_),(15,_),(31,_)] (λy=>[]) _ (λy=>4-y) (0) (h0:=?_) (k:=?_)))
  ·exact Yl _
  rintro m hm
  try dsimp only[Yd,Ye]at*
  refine gW (λh4=>?_) λh4=>?_
  ·obtain⟨x,hx⟩:∃x,(ij e)[m]? =some x:=⟨_,Yi (by show _<4;omega)⟩;have j:=uQ hx;have hxl:x≤2147483647:=by
    have:=Yj hx;simp only[ij,Xr,S4,or_false]at this;rcases this with rfl|rfl|rfl|rfl <;> omega
   refine wk_ (qn_ (ws_ (wb_ (ws_ (wr_ ?_)))));refine e_ (vi m rfl rfl rfl a8 j) ?_;refine e_ asn (on_ (qn_ (ws_ (wr_ (e_ mv (e_ ilt (e_ mv (dz 3 40 (k:=λh5=>eg_ mv (eg_ igt (e_ pkf (on_ edq)))) (q:=on_ (qn_ (wi_ (k:=λh6=>?_) (m:=λh6=>?_))))))))))))
   ·exact absurd h6 a8
   refine go ?_;refine lN (m+1) ?_
   try dsimp only
   omega
  refine go ?_;refine lN (i+1) ?_
  try dsimp only
  omega
 refine gk (k:=wl2_ Nat (λy=>1≤y) (λy=>[(8,iN y)]) [(0,_)] (λy=>[]) _ (λy=>l.length-y) (1) (h0:=?_) (k:=?_))
 ·exact Xj _
 rintro i hi
 try dsimp only[Yd,Ye]at*
 refine gW (λE=>?_) λE=>?_
 ·obtain⟨e,he⟩:=gE l i;obtain⟨d,hd⟩:=gE l (i-1);have c:=a.2 (i-1) d e hd (by rw[Q4 hi];exact he);refine go ?_;refine cZ cN (as_ 0 (q:=mv) (k:=as_ 1 (q:=mv) (k:=as_ 2 (q:=ixa) (k:=as_ 3 (q:=fle) (k:=as_ 4 (q:=lfl) (k:=as_ 5 (q:=mv) (k:=as_ 6 (q:=mv) (k:=as_ 7 (q:=isb) (k:=as_ 8 (q:=ixa) (k:=as_ 9 (q:=fle) (k:=as_ 10 (q:=lfl) (k:=?_))))))))))));refine cO 11 rfl rfl aa rfl (df PH) ?_;refine gW (λB=>?_) λB=>?_
  ·exact absurd c B
  refine go ?_;refine lN (i+1) ?_
  try dsimp only
  omega
 refine go ?_;refine c0_ rfl ga ?_;rintro _ _ ⟨u,rfl,rfl⟩;refine e_ asn (on_ (qn_ (ws_ (wr_ (e_ mv (e_ mv (e_ lnn ?_)))))));refine e_ ((ab)) ?_;refine d2_ rfl (eH l.length a8 ak) (go ?_);refine c0_ rfl ga ?_;rintro _ _ ⟨w,rfl,rfl⟩;refine e_ asn (on_ (qn_ (ws_ (ws_ (wr_ ?_)))));obtain⟨hd,b⟩:=ex ([]++uv l.length);have hhl:hd.length≤6:=by rw[b];exact eA a8 a8
 rw[←b,show Wr u hd=Wr u (hd++(dx l 0).1)from by simp[dx],show Wr w []=Wr w (dx l 0).2 from rfl];refine gk (k:=wl2_ Nat (λy=>y≤fm l) (λy=>[(11,iN (16*y))]) [(0,_),(9,_),(10,_)] (λy=>[Wr u (hd++(dx l y).1),Wr w (dx l y).2]) _ (λy=>fm l-y) (0) (h0:=?_) (k:=?_))
 ·exact Yl _
 rintro k hk
 try dsimp only[Yd,Ye]at*
 refine gW (λh9=>?_) λh9=>?_
 ·have c:16*k<l.length:=by omega
  have hkb:k<fm l:=cq;obtain⟨t,r⟩:=g k;have hblen:=nH l k;have f:=nk hsm k;have hbl:=lX (p:= []) f;have hu:=eA (n:=(dM [] (eY l k)).length) (k:=6) a8 a8;refine wk_ (qn_ (ws_ (wb_ (ws_ (wr_ (e_ mv (e_ mv (e_ mv (e_ iad (e_ mv (e_ lnn ?_)))))))))));refine e_ (lr rfl rfl) ?_;refine mC H rfl (16*k) (min (16*k+16) l.length) ⟨_,_,rfl,(aQ)⟩ ⟨_,_,rfl,(aQ)⟩ a8 aY rfl (λC A=>?_);rw[x9]at A;haveI ib2:Sl H C eEn (eY l k):=A;refine c1_ rfl (I3 (l:=eY l k) a8 f) ?_;rintro _ _ ⟨s84,rfl,rfl⟩;refine e_ asn (on_ (qn_ (ws_ (wr_ (e_ mv (e_ mv (e_ lnn ?_)))))));refine e_ ((ab)) ?_;refine d2_ rfl (eH _ a8 ai) (go ?_);refine d2_ rfl (zh a8 a8) (on_ (bn_ (qn_ (wr_ ?_))));rw[show hd++(dx l k).1++uv (dM [] (eY l k)).length=hd++(dx l (k+1)).1 from by simp[dx],show(dx l k).2++dM [] (eY l k)=(dx l (k+1)).2 from rfl,show((16*k:Nat):Int)+16=((16*(k+1):Nat):Int)from a8];refine go ?_;refine lN (k+1) ?_
  try dsimp only
  omega
 obtain rfl:k=fm l:=by unfold fm at*;omega
 obtain⟨t,r⟩:=g (fm l);refine go ?_;refine c1_ rfl (iW a8) ?_;rintro _ _ ⟨s95,rfl,rfl⟩;refine d2_ rfl (zh ai a8) ?_;rw[show hd++(dx l (fm l)).1++(dx l (fm l)).2=fT l from by rw[b];simp[fT]];have hDl:=Da hsm a8;refine go ?_;refine c1_ rfl (iW a8) ?_;rintro _ _ ⟨h,rfl,rfl⟩;refine gR ?_;exact⟨_,hsb,h,rfl,rfl⟩
end Go.Sx
