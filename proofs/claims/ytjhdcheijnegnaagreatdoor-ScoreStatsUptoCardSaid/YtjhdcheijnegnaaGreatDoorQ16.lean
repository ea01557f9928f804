import Derived.Test.YtjhdcheijnegnaaGreatDoorQ14
import Derived.Test.YtjhdcheijnegnaaGreatDoorQ15
import Derived.Laws.StructEq
set_option linter.all false
set_option maxHeartbeats 0
namespace Go.Sx
open Go Go.Proofs Tryz
set_option maxRecDepth 100000
section
variable {F H:cG}{G:cJ}{s:SV}{xs:List Nat}
def jk:Nat→List Nat→Option (List (Nat×List Nat))
 | 0,l=>if l.length=0 then some []else none
 |n+1,l=>
  match kG l with
  |none=>none
  |some (f,t)=>
   match jk n (l.drop (t+4))with
   |none=>none
   |some r=>some ((l.headD 0,(l.take t).drop f)::r)
def kd (kind:Nat) (l:List Nat):Option (List (Nat×List Nat)):=
 if l.length<10 then none else
 if kz (l.drop (l.length-4))=sQ (l.take (l.length-4))then
  if kind=0∨l.take 4≠ [99,110,99,100]∨l[4]? ≠some kind then none else
  match j4 0 (((l.take (l.length-4)).drop 5).take (min ((l.take (l.length-4)).drop 5).length 10))with
  | .error _=>none
  | .ok (n,m)=>jk n (((l.take (l.length-4)).drop 5).drop m)
 else none
def G7 (bl:List (Nat×List Nat)):Option (List (Nat×List Nat))→Option (List (Nat×List Nat))
 |none=>none
 |some r=>some (bl++r)
theorem CM {l:List Nat}{x:Nat}(h:l[0]? =some x):l.headD 0=x:=by
 cases l with
 |nil=>cases h
 |cons a l=>simp at h;exact h
theorem oo.snoc {l:List (Nat×SV)}{bl:List (Nat×List Nat)}(h:oo F l bl) (x:Nat) (s:SV) (body:List Nat):oo (Row s eB body::F) (l++ [(x,s)]) (bl++ [(x,body)]):=by
 obtain⟨h1,h2⟩:=h;refine⟨by simp[h1],λi p q hp a=>?_⟩
 by_cases hi:i<l.length
 ·rw[Yv hi]at hp;rw[Yv a8]at a;obtain⟨h3,h4⟩:=h2 i p q hp a;exact⟨h3,inferInstance⟩
 ·rw[Yu a8]at hp a;have b:i-l.length=0:=by
   have:=(Yk.1 hp).1;simp at this;omega
  rw[b]at hp;rw[←h1,b]at a;simp at hp a;subst hp;subst a;exact⟨rfl,inferInstance⟩
theorem oo.nil:oo F [] []:=⟨rfl,λi p q h=>aI⟩
def NP (p:Nat×SV) (q:Nat×List Nat):Hp:=Row p.2 eB q.2
theorem Gi [hg:Glb G H] [Tab H 43 md] [Tab H 33 l7] [hs:Sl H s eB xs] (a:Nat) (hk:a<256) (hn:xs.length≤1000000000) (u:∀x∈xs,x<256):SC G prog 94 [.int .u8 (a:Int),s.val] H (λv V=>
 (kd a xs=none∧V=H∧∃e,v=.tuple #[.slice none 0 0,G.err e])∨(∃j l F,∃R:SV,kd a xs=some j∧oo F l j∧F=(List.zipWith NP l j).reverse∧v=.tuple #[R.val,.nilIface]∧V=Row R eK l::gO F::H)):=by
 refine sWk func94 ?_;refine go ?_;refine wi_ (k:=λh1=>?_) (m:=λh1=>?_)
 ·have e:kd a xs=none:=by rw[kd,if_pos a8]
  refine ws_ ?_;refine cZ cN (gR ?_);exact⟨_,hsb,.inl ⟨e,rfl,_,rfl⟩⟩
 have b:kd a xs=if kz (xs.drop (xs.length-4))=sQ (xs.take (xs.length-4))then if a=0∨xs.take 4≠ [99,110,99,100]∨xs[4]? ≠some a then none else
  match j4 0 (((xs.take (xs.length-4)).drop 5).take (min ((xs.take (xs.length-4)).drop 5).length 10))with
  | .error _=>none
  | .ok (n,m)=>jk n (((xs.take (xs.length-4)).drop 5).drop m)
  else none:=by rw[kd,if_neg a8]
 obtain⟨M,hx4⟩:=gE xs 4;have hx4b:=u M (Yj hx4);refine wk_ (qn_ (ws_ (wr_ (e_ mv (e_ lnn ?_)))));refine e_ (Gj rfl rfl a8) (go ?_);refine cZ cN ?_;have K:Sl H (s.cut 1 (xs.length-4) xs.length) eB ((xs.take xs.length).drop (xs.length-4)):=Sl.cut (e:=eB) inferInstance a8 a8;rw[Xk]at K;have J:Sl H (s.cut 1 0 (xs.length-4)) eB ((xs.take (xs.length-4)).drop 0):=Sl.cut (e:=eB) inferInstance a8 a8;rw[Vi]at J;refine as_ 0 (q:=mv) (k:=as_ 1 (q:=mv) (k:=?_));refine cO 2 rfl rfl aa rfl (df (fA rfl bA (xs.length-4) xs.length ⟨_,_,rfl,a8⟩ rfl a8 a8)) ?_;refine cO 3 rfl rfl aa rfl (gi (vs:= [_]) rfl (Dy bj (λy hy=>u y (Yp hy)))) ?_;refine as_ 4 (q:=mv) (k:=as_ 5 (q:=mv) (k:=?_));refine cO 6 rfl rfl aa rfl (df (fA rfl bA 0 (xs.length-4) rfl ⟨_,_,rfl,a8⟩ a8 a8)) ?_;refine cO 7 rfl rfl aa rfl (gi (vs:= [_]) rfl (EH ar (λy hy=>u y (Yq hy)))) ?_;refine gW (λh2=>?_) λh2=>?_
 ·rw[if_neg a8]at b;refine ws_ ?_;refine cZ cN (gR ?_);exact⟨_,hsb,.inl ⟨b,rfl,_,rfl⟩⟩
 rw[if_pos a8]at b;refine wk_ (qn_ (ws_ (ws_ (wr_ ?_))));have E:Sl H (s.cut 1 0 4) eB ((xs.take 4).drop 0):=Sl.cut (e:=eB) inferInstance a8 a8;rw[Vi]at E;refine e_ mv (e_ ieq (sp_ mv (k:=λh3=>?_) (m:=λh3=>?_)))
 ·refine go ?_;refine ift (k:=ws_ ?_);refine cZ cN (gR ?_);refine⟨_,hsb,.inl ⟨?_,rfl,_,rfl⟩⟩;rw[b,if_pos]
  first
   |exact .inl a8
   |exact .inr (.inl aX)
   |exact .inr (.inr bW)
 refine go ?_;refine eg_ (fA rfl bA 0 4 rfl ⟨_,_,rfl,rfl⟩ a8 a8) ?_;refine eg_ (dX rfl) ?_;refine eg_ (yj rfl rfl (λy hy=>u y (Yq hy)) (ys:= [99,110,99,100]) ao) ?_;refine e_ pkf (sp_ mv (k:=λh4=>?_) (m:=λh4=>?_))
 ·refine gk (k:=ift (k:=ws_ ?_));refine cZ cN (gR ?_);refine⟨_,hsb,.inl ⟨?_,rfl,_,rfl⟩⟩;rw[b,if_pos]
  first
   |exact .inl a8
   |exact .inr (.inl aX)
   |exact .inr (.inr bW)
 refine eg_ mv ?_;refine eg_ (cV rfl rfl 4 rfl a8) ?_;refine eg_ (dS rfl bA bA M hx4) ?_;refine gW (λh5=>?_) λh5=>?_
 ·refine ws_ ?_;refine cZ cN (gR ?_);refine⟨_,hsb,.inl ⟨?_,rfl,_,rfl⟩⟩;rw[b,if_pos]
  first
   |exact .inl a8
   |exact .inr (.inl aX)
   |exact .inr (.inr bW)
 refine wk_ (qn_ (ws_ (wr_ ?_)));rw[if_neg (by
  rintro(h|h|h)
  ·omega
  ·exact h aX
  ·exact h (by rw[hx4];congr 1;omega))]at b
 refine go ?_;refine mC H rfl (5) (xs.length-4) ⟨_,_,rfl,(aQ)⟩ ⟨_,_,rfl,(aQ)⟩ a8 aY rfl (λs1 i1=>?_);obtain⟨c,g⟩:=ex ((xs.take (xs.length-4)).drop 5);rw[←g]at i1 b;have i:∀y∈c,y<256:=λy hy=>u y (Yq (Yp (g ▸ hy)));have hlr:c.length=xs.length-9:=by rw[g,Yo,Yg];omega
 refine e_ asn (on_ (qn_ (ws_ (wr_ (e_ mv (e_ mv (e_ lnn ?_)))))));refine e_ (lr rfl rfl) ?_;refine mC H rfl (0) (min c.length 10) rfl ⟨_,_,rfl,(aQ)⟩ a8 aY rfl (λN i2=>?_);rw[Vi]at i2;refine c1_ rfl (jB ar) ?_;rintro _ _ ⟨b1,rfl,rfl⟩;refine go ?_;refine c1_ rfl (nt (Yl _) ar (λy hy=>i y (Yq hy))) ?_;rintro X H1 w;rw[Vi]at w;rcases w with⟨e,he,rfl,rfl⟩|⟨n,m,he,rfl,rfl⟩
 ·rw[he]at b;refine e_ mv (e_ exr (e_ exr (e_ asn (e_ asn (on_ (qn_ (ws_ (ws_ (wr_ (e_ mv ?_))))))))));refine e_ (de rfl) ?_;refine gk (k:=ift (k:=gR ?_));exact⟨_,hsb,.inl ⟨b,rfl,_,rfl⟩⟩
 obtain⟨p1,p2,p3,p4,p5,p6⟩:=ki _ 0 n m (λy hy=>i y (Yq hy)) a8 he;rw[Yg]at p4;rw[he]at b;replace b:kd a xs=jk n (c.drop m):=b;refine e_ mv (e_ exr (e_ exr (e_ asn (e_ asn (on_ (qn_ (ws_ (ws_ (wr_ (e_ mv ?_))))))))));refine e_ (cK rfl) ?_;refine gk (k:=iff_ (k:=go ?_));refine d1_ rfl sM ?_;refine mC H rfl m c.length ⟨_,_,rfl,(aQ)⟩ rfl a8 aY rfl (λs3 T=>?_);rw[Xk]at T;refine gk (k:=wl_ (SV×SV×Nat×List Nat×List (Nat×SV)×List (Nat×List Nat)×cG) (λy=>Sl H y.2.1 eB y.2.2.2.1∧(∀z∈y.2.2.2.1,z<256)∧oo y.2.2.2.2.2.2 y.2.2.2.2.1 y.2.2.2.2.2.1∧y.2.2.1<18446744073709551616∧y.2.2.2.2.1.length+y.2.2.2.1.length≤1000000000∧kd a xs=G7 y.2.2.2.2.2.1 (jk y.2.2.1 y.2.2.2.1)∧y.2.2.2.2.2.2=(List.zipWith NP y.2.2.2.2.1 y.2.2.2.2.2.1).reverse) (λy=>[(7,y.2.1.val),(9,uN y.2.2.1),(11,y.1.val)]) (λy=>Row y.1 eK y.2.2.2.2.1::gO y.2.2.2.2.2.2::H) (λy=>y.2.2.1) ((SV.nil,s3,n,c.drop m, [], [], [])) (h0:=?_) (k:=?_))
 ·try dsimp only
  refine⟨T,λz C=>i z (Yp C),oo.nil,a8,by rw[Yo];simp only[Yc];omega,?_,rfl⟩;rw[b];cases jk n (c.drop m)with
  |none=>rfl
  |some r=>rfl
 rintro⟨Y,sr,B,r,l,j,F⟩ ⟨hsr,t,L,hn',hlen,hI,U⟩
 try dsimp only at*
 refine gW (λh6=>?_) λh6=>?_
 ·obtain⟨d,rfl⟩:∃d,B=d+1:=⟨B-1,a8⟩;rw[jk]at hI;refine go ?_;refine c1_ rfl (IW (xs:=r) a8 t) ?_;rintro X H1 w;rcases w with⟨p,rfl,e,rfl⟩|⟨f,q,x,A,p,hft,htl,hx,rfl,rfl⟩
  all_goals rw[p]at hI
  all_goals simp only[]at hI
  ·refine gk (k:=alc (k:=λb1=>?_));refine sto (k:=e_ asn (e_ asn (on_ (qn_ (ws_ (ws_ (wr_ (e_ mv ?_))))))));refine e_ (de rfl) ?_;refine gk (k:=ift (k:=go ?_));refine gR ?_;exact⟨_,hsb,.inl ⟨hI,rfl,_,rfl⟩⟩
  refine gk (k:=alc (k:=λb2=>?_));refine sto (k:=e_ asn (e_ asn (on_ (qn_ (ws_ (ws_ (wr_ (e_ mv ?_))))))));refine e_ (cK rfl) ?_;refine gk (k:=iff_ (k:=gk (k:=fX eK (k:=λs1=>?_))));refine app (k:=λN=>?_);refine go ?_;refine mC H rfl (q+4) r.length ⟨_,_,rfl,(aQ)⟩ rfl a8 aY rfl (λZ S=>?_);rw[Xk]at S;refine e_ asn (on_ (bn_ (qn_ (wr_ (e_ mv ?_)))));refine e_ (iV 18446744073709551616 rfl rfl rfl rfl _ 1 rfl rfl a8 a8) (go ?_);refine lN ((N,Z,d,r.drop (q+4),l++ [(x,A)],j++ [(x,(r.take q).drop f)],Row A eB ((r.take q).drop f)::F)) ?_
  try dsimp only
  refine⟨S,λz C=>t z (Yp C),L.snoc x A _,a8,by rw[Ya,Yo];simp only[Yb,Yc];omega,?_,by rw[List.zipWith_append L.1,U,List.reverse_append];all_goals rfl⟩;rw[hI,CM hx];cases jk d (r.drop (q+4))with
  |none=>rfl
  |some r'=>simp[G7]
 obtain rfl:B=0:=a8;rw[jk]at hI;refine gW (λh7=>?_) λh7=>?_
 ·rw[if_neg a8]at hI;refine ws_ ?_;refine cZ cN (gR ?_);exact⟨_,hsb,.inl ⟨hI,rfl,_,rfl⟩⟩
 rw[if_pos a8]at hI;refine gR ?_;exact⟨_,hsb,.inr ⟨j,l,F,Y,by rw[hI];simp[G7],L,U,rfl,rfl⟩⟩
theorem IU [hg:Glb G H] [Tab H 43 md] [Tab H 33 l7] [hs:Sl H s eB xs] (a:Nat) (hk:a<256) (f:xs.length≤1000000000) (g:∀x∈xs,x<256):SC G prog 94 [.int .u8 (a:Int),s.val] H (λv d=>
 (kd a xs=none∧d=H∧∃e,v=.tuple #[.slice none 0 0,G.err e])∨(∃c l F,∃b:SV,kd a xs=some c∧oo F l c∧v=.tuple #[b.val,.nilIface]∧d=Row b eK l::gO F::H)):=
 (Gi a hk f g).mono λv d h=>h.imp id λ⟨c,l,F,b,h1,h2,_,h3,h4⟩=>⟨c,l,F,b,h1,h2,h3,h4⟩
end
section
variable {bl:List (Nat×List Nat)}{body l:List Nat}{kind n tag:Nat}
theorem rZ (r:List Nat) (h:n<4294967296):kz (w32 n++r)=n:=by
 simp only[w32,Yd,kz];omega
theorem sm (hl:4≤l.length) (e:∀x∈l,x<256):w32 (kz l)=l.take 4:=by
 match l,hl with
 |a::b::c::d::r,_=>
  have ha:=e a ak;have h2:=e b ak;have hc:=e c ak;have hd:=e d ak;simp only[kz,w32,Vj,S8,List.cons.injEq,and_true];omega
theorem pC {v:Nat}(r:List Nat) (h:v<18446744073709551616):j4 0 (uv v++r)=.ok (v,(uv v).length):=
 B0 v 0 r a8 bM (λh=>absurd h (R7 0))
theorem eO {most v:Nat}(r:List Nat) (h:v<18446744073709551616) (hm:v≤most):fZ most (uv v++r)=.ok (v,(uv v).length):=by
 rw[fZ,pC r h];simp only[];rw[if_neg a8]
theorem xa {a b:List Nat}(h:a.length≤n):(a++b).take n=a++b.take (n-a.length):=by
 rw[List.take_append,Xq h]
theorem tN (tag:Nat) (body:List Nat):(km tag body).length=1+(uv body.length).length+body.length:=by
 simp only[km,Ya,V9]
theorem pR (tag:Nat) (body:List Nat):(j8 tag body).length=1+(uv body.length).length+body.length+4:=by
 rw[j8,Ya,tN,rB]
theorem zG (tag:Nat) (r:List Nat):kG (tag::r)=if tag=0 then none else
 match j4 0 (((tag::r).take (min (tag::r).length 11)).drop 1)with
 | .error _=>none
 | .ok (n,m)=>if(tag::r).length-(1+m)<4∨(tag::r).length-(1+m)-4<n then none else
  if kz ((tag::r).drop (1+m+n))=rp ((tag::r).take (1+m+n))then some (1+m,1+m+n)else none:=rfl
theorem zF (r:List Nat) (h0:tag≠0) (c:tag<256) (d:∀x∈body,x<256) (hl:body.length<18446744073709551616):
 kG (j8 tag body++r)=some (1+(uv body.length).length,1+(uv body.length).length+body.length):=by
 have h10:=fQ hl;have hlen:=pR tag body;have a:=tN tag body;have hx:j8 tag body++r=tag::(uv body.length++(body++(w32 (rp (km tag body))++r))):=by
  simp[j8,km]
 have b:j4 0 (((j8 tag body++r).take (min (j8 tag body++r).length 11)).drop 1)=.ok (body.length,(uv body.length).length):=by
  rw[hx];have:min (tag::(uv body.length++(body++(w32 (rp (km tag body))++r)))).length 11=(min (uv body.length++(body++(w32 (rp (km tag body))++r))).length 10)+1:=by
   rw[Yb];omega
  rw[this,Vj,V7,Vi,xa aC];exact pC _ hl
 rw[hx,zG,if_neg h0,←hx,b];simp only[];rw[if_neg aC];have hd:(j8 tag body++r).drop (1+(uv body.length).length+body.length)=w32 (rp (km tag body))++r:=by
  rw[j8,Yf,←a,Xy]
 have c:(j8 tag body++r).take (1+(uv body.length).length+body.length)=km tag body:=by
  rw[j8,Yf,←a,V3]
 rw[hd,c,rZ _ (Hi (wG aX d)),if_pos rfl]
theorem Gu (r:List Nat):((j8 tag body++r).take (1+(uv body.length).length+body.length)).drop (1+(uv body.length).length)=body:=by
 have a:=tN tag body;have b:(j8 tag body++r).take (1+(uv body.length).length+body.length)=km tag body:=by
  rw[j8,Yf,←a,V3]
 rw[b,km,show 1+(uv body.length).length=([tag]++uv body.length).length by simp[Q5],Xy]
theorem ov:∀(bl:List (Nat×List Nat)),(∀q∈bl,0<q.1∧q.1<256∧(∀x∈q.2,x<256)∧q.2.length<18446744073709551616)→jk bl.length (ei bl)=some bl
 | [],_=>rfl
 |q::bl,h=>by
  obtain⟨h1,h2,h3,h4⟩:=h q ak;have a:=ov bl λp hp=>h p (by simp[hp]);have he:ei (q::bl)=j8 q.1 q.2++ei bl:=by simp[ei]
  rw[Yb,jk,he,zF _ a8 h2 h3 h4];simp only[];have hd:(j8 q.1 q.2++ei bl).drop (1+(uv q.2.length).length+q.2.length+4)=ei bl:=by
   rw[←pR q.1 q.2,Xy]
  rw[hd,a,Gu];simp only[Option.some.injEq,List.cons.injEq,and_true];simp[j8,km]
theorem y7 (kind:Nat) (bl:List (Nat×List Nat)):(lQ kind bl).length=5+(uv bl.length).length+(ei bl).length:=by
 simp only[lQ,Ya,Yb,Yc]
theorem tn (kind:Nat) (bl:List (Nat×List Nat)):(kZ kind bl).length=5+(uv bl.length).length+(ei bl).length+4:=by
 rw[kZ,Ya,y7,rB]
theorem zC (f:kind≠0) (hk:kind<256) (i:bl.length<18446744073709551616) (h:∀q∈bl,0<q.1∧q.1<256∧(∀x∈q.2,x<256)∧q.2.length<18446744073709551616):kd kind (kZ kind bl)=some bl:=by
 have hl:=tn kind bl;have d:=y7 kind bl;have h10:=fQ i;have h1:=oC bl.length;have j:(kZ kind bl).take ((kZ kind bl).length-4)=lQ kind bl:=by
  rw[hl,kZ,show 5+(uv bl.length).length+(ei bl).length+4-4=(lQ kind bl).length from a8,V3]
 have hd:(kZ kind bl).drop ((kZ kind bl).length-4)=w32 (sQ (lQ kind bl)):=by
  rw[hl,kZ,show 5+(uv bl.length).length+(ei bl).length+4-4=(lQ kind bl).length from a8,Xy]
 have e:∀q∈bl,q.1<256∧∀x∈q.2,x<256:=λq d=>⟨(h q d).2.1,(h q d).2.2.1⟩;rw[kd,j,hd];have g:=rZ [] (EF (wi hk e));rw[Ym]at g;have a:¬(kZ kind bl).length<10:=by
  rw[hl];rcases U9 ((uv bl.length).length+(ei bl).length) 1 with h0|h0
  ·omega
  ·omega
 rw[if_neg a,if_pos g];have b:(kZ kind bl).take 4= [99,110,99,100]:=by simp[kZ,lQ]
 have h4:(kZ kind bl)[4]? =some kind:=by simp[kZ,lQ]
 rw[b,h4,if_neg (by simp[f])];have c:(lQ kind bl).drop 5=uv bl.length++ei bl:=by simp[lQ]
 rw[c,xa aC,pC _ i];simp only[];rw[Xy,ov bl h]
theorem zH {f t:Nat}(d:∀x∈l,x<256) (h:kG l=some (f,t)):f≤t∧t+4≤l.length∧l.headD 0≠0∧l.take (t+4)=j8 (l.headD 0) ((l.take t).drop f):=by
 match l,d,h with
 |tag::r,d,h=>
  rw[kG]at h
  split at h
  ·cases h
  ·rename_i h0
   split at h
   ·cases h
   ·rename_i n m hr
    split at h
    ·cases h
    ·rename_i hle
     split at h
     ·rename_i k;simp only[Option.some.injEq,Prod.mk.injEq]at h;obtain⟨rfl,rfl⟩:=h;have g:∀x∈(((tag::r).take (min (tag::r).length 11)).drop 1),x<256:=λy hy=>d y (Yq (Yp hy));obtain⟨p1,p2,p3,j,i,p6⟩:=ki _ 0 n m g a8 hr;have b:(tag::r).length=r.length+1:=rfl;rw[Yo,Yg]at j;have hm:r.take m=uv n:=by
       rw[b,show min (r.length+1) 11=min r.length 10+1 from a8,Vj,V7,Vi,R9]at i;rw[←i];congr 1;omega
      have c:((tag::r).take (1+m+n)).drop (1+m)=(r.drop m).take n:=by
       rw[show 1+m+n=m+n+1 from a8,Vj,show 1+m=m+1 from a8,V7,R8,show m+n-m=n from a8]
      have e:((r.drop m).take n).length=n:=by rw[Yg,Yo];omega
      have a:(tag::r).take (1+m+n)=km tag ((r.drop m).take n):=by
       rw[show 1+m+n=m+n+1 from a8,Vj,List.take_add,hm,km,e];all_goals rfl
      refine⟨a8,a8,h0,?_⟩;show(tag::r).take (1+m+n+4)=j8 tag _;rw[c,j8,List.take_add,a];congr 1;rw[←a,←k,sm bj (λy hy=>d y (Yp hy))]
     ·cases h
theorem ra:∀(n:Nat) (l:List Nat) (bl:List (Nat×List Nat)),(∀x∈l,x<256)→jk n l=some bl→bl.length=n∧l=ei bl∧(∀q∈bl,q.1≠0)∧(∀q∈bl,q.1<256∧∀x∈q.2,x<256)
 | 0,l,bl,hb,h=>by
  rw[jk]at h
  split at h
  ·cases h;exact⟨rfl,List.length_eq_zero_iff.1 aX,λq hq=>(by cases hq),λq hq=>(by cases hq)⟩
  ·cases h
 |n+1,l,bl,hb,h=>by
  rw[jk]at h
  split at h
  ·cases h
  ·rename_i f t hr
   split at h
   ·cases h
   ·rename_i r b;simp only[Option.some.injEq]at h;subst h;obtain⟨p1,k,j,i⟩:=zH hb hr;obtain⟨g,e,d,c⟩:=ra n _ r (λy hy=>hb y (Yp hy)) b;refine⟨by simp[g],?_,?_,?_⟩
    ·rw[show ei ((l.headD 0,(l.take t).drop f)::r)=j8 (l.headD 0) ((l.take t).drop f)++ei r by simp[ei],←i,←e,Xv]
    ·intro q hq;rcases Xr.1 hq with rfl|hq
     ·exact j
     ·exact d q hq
    ·intro q hq;rcases Xr.1 hq with rfl|hq
     ·refine⟨?_,λx hx=>hb x (Yq (Yp hx))⟩;cases l with
      |nil=>simp at k
      |cons a l=>exact hb a ak
     ·exact c q hq
theorem zD (c:∀x∈l,x<256) (h:kd kind l=some bl):l=kZ kind bl∧(∀q∈bl,q.1≠0)∧(∀q∈bl,q.1<256∧∀x∈q.2,x<256):=by
 rw[kd]at h
 split at h
 ·cases h
 ·rename_i hlen
  split at h
  ·rename_i k
   split at h
   ·cases h
   ·rename_i hk
    split at h
    ·cases h
    ·rename_i n m hr;have a:∀x∈(l.take (l.length-4)).drop 5,x<256:=λy hy=>c y (Yq (Yp hy));obtain⟨p1,p2,p3,j,b,p6⟩:=ki _ 0 n m (λy hy=>a y (Yq hy)) a8 hr;obtain⟨i,g,f,d⟩:=ra n _ bl (λy hy=>a y (Yp hy)) h;refine⟨?_,f,d⟩;have hm:((l.take (l.length-4)).drop 5).take m=uv n:=by
      rw[R9]at b;rw[←b];congr 1;rw[Yg]at j;omega
     have p:l.take (l.length-4)=lQ kind bl:=by
      have r:(l.take (l.length-4)).take 5= [99,110,99,100]++ [kind]:=by
       have v:(l.take (l.length-4)).take 5=l.take 5:=by rw[R9];congr 1;omega
       have u:l.take 4= [99,110,99,100]:=Classical.byContradiction λe=>hk (.inr (.inl e));have t:l[4]? =some kind:=Classical.byContradiction λe=>hk (.inr (.inr e));rw[v,cL t,u]
      rw[lQ,←r,i,←hm,←g,Yf,Xv,Xv]
     have s:(l.drop (l.length-4)).take 4=l.drop (l.length-4):=Xq bj;rw[kZ,←p,←k,sm bj (λy hy=>c y (Yp hy)),s,Xv]
  ·cases h
end
section
variable {fs:List FV}{l:List Int}{most:Nat}
theorem uG {q:List Nat}(r:List Nat) (h:q.length≤most) (hm:most<18446744073709551616):k8 most (uv q.length++q++r)=.ok (q,(uv q.length).length+q.length):=by
 rw[k8,Yf,eO _ a8 h];simp only[];rw[if_neg ai,Xy,V3]
theorem LJ:∀(k:Fin 4) (a b c:Bool),let x:=k.val+(if a then 4 else 0)+(if b then 8 else 0)+(if c then 16 else 0);x &&& 3=k.val∧decide (((x &&& 4:Nat):Int)≠0)=a∧decide (((x &&& 8:Nat):Int)≠0)=b∧decide (((x &&& 16:Nat):Int)≠0)=c∧x≤31:=ae
theorem LG {f:FV}(h1:0≤f.kind) (h2:f.kind≤3):mkF (cF f.name) (kB f)=f∧kB f≤31:=by
 have h:=LJ ⟨f.kind.toNat,a8⟩ f.fold f.stop f.stem;obtain⟨name,kind,a,b,c⟩:=f;simp only at h h1 h2;obtain⟨j,i,g,e,d⟩:=h;simp only[mkF,kB,iz,FV.mk.injEq,true_and];exact⟨⟨by rw[j];omega,i,g,e⟩,d⟩
theorem lG {x:Int}:rise (x::l)=true↔(∀y,l.head? =some y→x<y)∧rise l=true:=by
 cases l with
 |nil=>simp[rise]
 |cons y r=>simp[rise]
theorem mu:∀(l:List Int) (last:Int),l.length≤(gh last l).length
 | [],_=>ak
 |x::l,last=>by
  have:=mu l x;have h:=oC (x-last-1).toNat;rw[gh,Ya,Yb];omega
theorem r9:∀(l:List Int) (last:Int) (r:List Nat), -1≤last→rise (last::l)=true→(∀x∈l,x≤9223372036854775807)→lH l.length last (gh last l++r)=.ok (l,(gh last l).length)
 | [],last,r,_,_,_=>rfl
 |x::l,last,r,hl,hr,hb=>by
  rw[lG]at hr;obtain⟨h1,h2⟩:=hr;have h3:=h1 x rfl;have h4:=hb x ak;have a:=r9 l x r a8 h2 λy hy=>hb y (by simp[hy]);rw[Yb,lH,gh,Yf,pC _ a8];simp only[];rw[if_neg a8,Xy,show last+((x-last-1).toNat:Int)+1=x from a8,a];simp only[Ya]
theorem xG (h1:lj l=false) (h2:rise l=true) (a:∀x∈l,x≤9223372036854775807) (hl:l.length<18446744073709551616):
 fe (uv l.length++gh (-1) l).length (uv l.length++gh (-1) l)=.ok (l,(uv l.length++gh (-1) l).length):=by
 have hge:=mu l (-1);rw[fe,eO _ hl aC];simp only[];have h3:rise (-1::l)=true:=by
  rw[lG];refine⟨λy hy=>?_,h2⟩;have:=(ky l).1 h1 0 y (by rw[List.head?_eq_getElem?]at hy;exact hy);omega
 have:=r9 l (-1) [] (Int.le_refl _) h3 a;rw[Ym]at this;rw[Xy,this];simp only[Ya]
theorem oH:∀(n:Nat) (last:Int) (l:List Nat) (d:List Int) (m:Nat),(∀x∈l,x<256)→ -1≤last→lH n last l=.ok (d,m)→d.length=n∧m≤l.length∧l.take m=gh last d∧rise (last::d)=true∧(∀x∈d,0≤x∧x≤9223372036854775807)
 | 0,last,l,d,m,hb,hl,h=>by
  simp only[lH,Except.ok.injEq,Prod.mk.injEq]at h;obtain⟨rfl,rfl⟩:=h;exact⟨rfl,Yl _,by simp[gh],by simp[rise],λx hx=>by cases hx⟩
 |n+1,last,l,d,m,hb,hl,h=>by
  rw[lH]at h
  split at h
  ·cases h
  ·rename_i v c k
   split at h
   ·cases h
   ·rename_i hle
    split at h
    ·cases h
    ·rename_i r j hr;simp only[Except.ok.injEq,Prod.mk.injEq]at h;obtain⟨rfl,rfl⟩:=h;obtain⟨p1,p2,p3,p4,i,p6⟩:=ki _ 0 v c hb a8 k;obtain⟨g,f,e,b,a⟩:=oH n _ _ r j (λy hy=>hb y (Yp hy)) a8 hr;rw[Yo]at f;refine⟨by simp[g],a8,?_,?_,?_⟩
     ·rw[gh,show(last+(v:Int)+1-last-1).toNat=v from a8,←i,←e,List.take_add]
     ·rw[lG];exact⟨λy hy=>by simp at hy;omega,b⟩
     ·intro x hx;rcases Xr.1 hx with rfl|hx
      ·omega
      ·exact a x hx
theorem uf {l:List Nat}{d:List Int}{m:Nat}(b:∀x∈l,x<256) (h:fe most l=.ok (d,m)):m≤l.length∧l.take m=uv d.length++gh (-1) d∧lj d=false∧rise d=true∧(∀x∈d,0≤x∧x≤9223372036854775807):=by
 rw[fe]at h
 split at h
 ·cases h
 ·rename_i n c q;obtain⟨u1,u2,e,u4⟩:=jA b q
  split at h
  ·cases h
  ·rename_i r p hr;simp only[Except.ok.injEq,Prod.mk.injEq]at h;obtain⟨rfl,rfl⟩:=h;obtain⟨k,j,g,f,a⟩:=oH n _ _ r p (λy hy=>b y (Yp hy)) (Int.le_refl _) hr;rw[Yo]at j;refine⟨a8,?_,(ky r).2 λi x hx=>(a x (Yj hx)).1,(lG.1 f).2,a⟩;rw[k,←e,←g,List.take_add]
abbrev Pcs:=List (List Nat×List Int)
theorem Jb (h:fW fs=true):∀x∈wF fs,x<256:=by
 obtain⟨h1,h2⟩:=gq h;intro x hx;rcases Xl.1 hx with hx|hx
 ·exact iP _ x hx
 ·obtain⟨f,b,hx⟩:=X7.1 hx;obtain⟨k1,k2,a⟩:=h2 f b;simp only[j7,Xl,Ui]at hx;rcases hx with(hx|hx)|rfl
  ·exact iP _ x hx
  ·exact jQ _ x hx
  ·have:=(LG (f:=f) a8 a).2;omega
theorem vl:∀(fs:List FV),(∀f∈fs,f.name.size≤32)→(nF fs).length≤43*fs.length
 | [],_=>by simp[nF]
 |f::fs,h=>by
  have ih:=vl fs λg a=>h g (by simp[a]);have h1:=h f ak;have h2:=fQ (n:=f.name.size) a8;have h3:=cI f.name;rw[show nF (f::fs)=j7 f++nF fs by simp[nF],j7];simp only[Ya,Yb,Yc];omega
theorem yv (h:fW fs=true):(wF fs).length≤1000:=by
 obtain⟨h1,h2⟩:=gq h;have h3:=vl fs λf a=>(h2 f a).1;have h4:=fQ (n:=fs.length) a8;rw[wF,Ya];omega
end
def tX (H:cG) (l:List (SV×SV)) (ps:Pcs):Prop:=l.length=ps.length∧∀(i:Nat) (p:SV×SV) (q:List Nat×List Int),l[i]? =some p→ps[i]? =some q→Sl H p.1 eB q.1∧Sl H p.2 eI q.2
def tZ (F H:cG) (l:List (Nat×SV)) (bl:List (Nat×List Nat)):Prop:=l.length=bl.length∧∀(i:Nat) (p:Nat×SV) (q:Nat×List Nat),l[i]? =some p→bl[i]? =some q→p.1=q.1∧(Sl F p.2 eB q.2∨Sl H p.2 eB q.2)
theorem tZ.snoc {F F' H:cG}{l:List (Nat×SV)}{bl:List (Nat×List Nat)}(h:tZ F H l bl) (x:Nat) (s:SV) (body:List Nat) (d:∀(s:SV) (b:List Nat),Sl F s eB b→Sl F' s eB b) (hs:Sl F' s eB body∨Sl H s eB body):tZ F' H (l++ [(x,s)]) (bl++ [(x,body)]):=by
 obtain⟨h1,h2⟩:=h;refine⟨by simp[h1],λi p q hp a=>?_⟩
 by_cases hi:i<l.length
 ·rw[Yv hi]at hp;rw[Yv a8]at a;obtain⟨h3,h4⟩:=h2 i p q hp a;exact⟨h3,h4.imp (d _ _) id⟩
 ·rw[Yu a8]at hp a;have c:i-l.length=0:=by
   have:=(Yk.1 hp).1;simp at this;omega
  rw[c]at hp;rw[←h1,c]at a;simp at hp a;subst hp;subst a;exact⟨rfl,hs⟩
theorem tZ.nil {F H:cG}:tZ F H [] []:=⟨rfl,λi p q h=>aI⟩
section
variable {F:cG}{bl:List (Nat×List Nat)}
theorem tX.snoc {F':cG}{l:List (SV×SV)}{ps:Pcs}(h:tX F l ps) (a b:SV) (x:List Nat) (y:List Int) (g:∀(s:SV) (b:List Nat),Sl F s eB b→Sl F' s eB b) (d:∀(s:SV) (b:List Int),Sl F s eI b→Sl F' s eI b) (ha:Sl F' a eB x) (f:Sl F' b eI y):tX F' (l++ [(a,b)]) (ps++ [(x,y)]):=by
 obtain⟨h1,h2⟩:=h;refine⟨by simp[h1],λi p q hp c=>?_⟩
 by_cases hi:i<l.length
 ·rw[Yv hi]at hp;rw[Yv a8]at c;obtain⟨h3,h4⟩:=h2 i p q hp c;exact⟨g _ _ h3,d _ _ h4⟩
 ·rw[Yu a8]at hp c;have e:i-l.length=0:=by
   have:=(Yk.1 hp).1;simp at this;omega
  rw[e]at hp;rw[←h1,e]at c;simp at hp c;subst hp;subst c;exact⟨ha,f⟩
theorem tX.nil:tX F [] []:=⟨rfl,λi p q h=>aI⟩
theorem oo.ext {F':cG}{l:List (Nat×SV)}(h:oo F l bl) (c:∀(s:SV) (b:List Nat),Sl F s eB b→Sl F' s eB b):oo F' l bl:=⟨h.1,λi p q hp a=>⟨(h.2 i p q hp a).1,c _ _ (h.2 i p q hp a).2⟩⟩
theorem pQ {q:Nat×List Nat}(h:q∈bl):q.2.length≤(ei bl).length:=BJ h
end
section
variable {G:cJ}{P:Program}{t:Tm}{H:cG}{dst:Option Tmp}{ty:TypeId}{pos:String}{after:Array Edge}{g:Option (Nat×Bool)}
end
theorem Mx {G:cJ}{H:cG}{s:SV}{fs:List FV} [Sl H s eF fs] (a:fs≠ []) (hn:fs.length≤1000000000):SC G prog 98 [s.val] H (λv d=>∃b:SV,v=b.val∧d=Row b eF fs::H):=by
 refine sWk func98 ?_;refine ws_ (wr_ (e_ asn (on_ (qn_ (ws_ (ws_ (wr_ (e_ mv ?_))))))));refine e_ (ui rfl a) ?_;refine gk (k:=ir_ (k:=λh1=>?_) (m:=λh1=>?_))
 ·cases h1
 refine go ?_;refine s_ (fK eF rfl) ?_;rintro _ _ ⟨s1,rfl,rfl⟩;refine go ?_;refine app (hlim:=by simp only[Yc];omega) (hlim2:=by simp only[Yc];omega) (k:=λc=>?_);refine gR ?_;rw[Ye];exact⟨_,hsb,c,rfl,rfl⟩
class He (G:cJ):Prop where
 out:G.eT=326
theorem Jl:∃k,prog.info? 326=some k∧k.comparable=true:=by
 have h:(prog.info? 326).map (·.comparable)=some true:=aa;cases hk:prog.info? 326 with
 |none=>rw[hk]at h;cases h
 |some k=>rw[hk]at h;exact⟨k,rfl,bM⟩
section
variable {G:cJ}{t:Tm}{H:cG}{dst:Option Tmp}{ty:TypeId}{pos:String}{after:Array Edge}{g:Option (Nat×Bool)}
theorem fL {T U:TypeId}{x y:Operand}{i j:Nat}{a:Array (String×TypeId)} [he:He G] [hT:Und prog T (.interface a)] [b:Glb G H] [h1:nK i] [h2:nK j] (hx:evo t x=some (G.err i)) (hy:evo t y=some (G.err j)):Ev G prog ⟨dst,.binOp .eql T x y U,ty,pos,after,g⟩ t H (.bool (decide (i=j))):=
 haveI:Und prog G.eT (.pointer 328):=⟨by rw[he.out];exact underlying326⟩
 Aa (by rw[he.out];exact Jl) ae b.inj hx hy
end
theorem tX.one {H:cG}{a b:SV}{x:List Nat}{y:List Int}(ha:Sl H a eB x) (c:Sl H b eI y):tX H [(a,b)] [(x,y)]:=
 (tX.nil (F:=H)).snoc a b x y (λ_ _ h=>h) (λ_ _ h=>h) ha c
theorem tX.ext {F F':cG}{l:List (SV×SV)}{ps:Pcs}(h:tX F l ps) (d:∀(s:SV) (b:List Nat),Sl F s eB b→Sl F' s eB b) (a:∀(s:SV) (b:List Int),Sl F s eI b→Sl F' s eI b):tX F' l ps:=
 ⟨h.1,λi p q hp c=>⟨d _ _ (h.2 i p q hp c).1,a _ _ (h.2 i p q hp c).2⟩⟩
theorem N6 {G:cJ}{H:cG} [hg:Glb G H] [He G]:SC G prog 16 [G.err 12] H (λv H'=>v=.int .i64 13∧H'=H):=by
 refine sWk func16 ?_
 refine ws_ (wr_ (e_ asn (k:=on_ (qn_ (ws_ (ws_ (wr_ (e_ mv (k:=on_ (qn_ (wb_ (ws_ (wr_ (?_))))))))))))))
 refine e_ (kQ rfl) (k:=?_)
 refine e_ asn (k:=on_ (qn_ (ir_ (k:=λh1=>?_) (m:=λh1=>?_))))
 ·cases h1
 refine ws_ (wr_ (e_ ldv (k:=?_)))
 refine e_ (fL rfl rfl) (k:=?_)
 refine e_ asn (k:=on_ (qn_ (wi_ (k:=λh2=>?_) (m:=λh2=>?_))))
 ·exact absurd h2 (ae)
 refine ws_ (wr_ (e_ ldv (k:=?_)))
 refine e_ (fL rfl rfl) (k:=?_)
 refine e_ asn (k:=on_ (qn_ (wi_ (k:=λh3=>?_) (m:=λh3=>?_))))
 ·exact absurd h3 (ae)
 refine ws_ (wr_ (e_ ldv (k:=?_)))
 refine e_ (fL rfl rfl) (k:=?_)
 refine e_ asn (k:=on_ (qn_ (wi_ (k:=λh4=>?_) (m:=λh4=>?_))))
 ·exact absurd h4 (ae)
 refine ws_ (wr_ (e_ ldv (k:=?_)))
 refine e_ (fL rfl rfl) (k:=?_)
 refine e_ asn (k:=on_ (qn_ (wi_ (k:=λh5=>?_) (m:=λh5=>?_))))
 ·exact absurd h5 (ae)
 refine ws_ (wr_ (e_ ldv (k:=?_)))
 refine e_ (fL rfl rfl) (k:=?_)
 refine e_ asn (k:=on_ (qn_ (wi_ (k:=λh6=>?_) (m:=λh6=>?_))))
 ·exact absurd h6 (ae)
 refine ws_ (wr_ (e_ ldv (k:=?_)))
 refine e_ (fL rfl rfl) (k:=?_)
 refine e_ asn (k:=on_ (qn_ (wi_ (k:=λh7=>?_) (m:=λh7=>?_))))
 ·exact absurd h7 (ae)
 refine ws_ (wr_ (e_ ldv (k:=?_)))
 refine e_ (fL rfl rfl) (k:=?_)
 refine e_ asn (k:=on_ (qn_ (wi_ (k:=λh8=>?_) (m:=λh8=>?_))))
 ·exact absurd h8 (ae)
 refine ws_ (wr_ (e_ ldv (k:=?_)))
 refine e_ (fL rfl rfl) (k:=?_)
 refine e_ asn (k:=on_ (qn_ (wi_ (k:=λh9=>?_) (m:=λh9=>?_))))
 ·exact absurd h9 (ae)
 refine ws_ (wr_ (e_ ldv (k:=?_)))
 refine e_ (fL rfl rfl) (k:=?_)
 refine e_ asn (k:=on_ (qn_ (wi_ (k:=λh10=>?_) (m:=λh10=>?_))))
 ·exact absurd h10 (ae)
 refine ws_ (wr_ (e_ ldv (k:=?_)))
 refine e_ (fL rfl rfl) (k:=?_)
 refine e_ asn (k:=on_ (qn_ (wi_ (k:=λh11=>?_) (m:=λh11=>?_))))
 ·exact absurd h11 (ae)
 refine ws_ (wr_ (e_ ldv (k:=?_)))
 refine e_ (fL rfl rfl) (k:=?_)
 refine e_ asn (k:=on_ (qn_ (wi_ (k:=λh12=>?_) (m:=λh12=>?_))))
 ·exact absurd h12 (ae)
 refine ws_ (wr_ (e_ ldv (k:=?_)))
 refine e_ (fL rfl rfl) (k:=?_)
 refine e_ asn (k:=on_ (qn_ (wi_ (k:=λh13=>?_) (m:=λh13=>?_))))
 ·exact absurd h13 (ae)
 refine ws_ (wr_ (e_ ldv (k:=?_)))
 refine e_ (fL rfl rfl) (k:=?_)
 refine e_ asn (k:=on_ (qn_ (wi_ (k:=λh14=>?_) (m:=λh14=>?_))))
 ·refine ws_ (wr_ (e_ asn (k:=on_ (qn_ (wt_ (br_ (qr_ (rT (k:=?_)))))))))
  exact⟨_,cH.refl,rfl,rfl⟩
 exact absurd trivial h14
end Go.Sx
