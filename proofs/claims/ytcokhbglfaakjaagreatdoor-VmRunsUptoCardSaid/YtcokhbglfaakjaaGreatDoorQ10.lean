import Derived.Test.YtcokhbglfaakjaaGreatDoorQ7
import Derived.Test.YtcokhbglfaakjaaGreatDoorQ6
import Derived.Laws.StructEq
set_option linter.all false
set_option maxHeartbeats 0
namespace Go.Sx
open Go Go.Proofs Tryz
set_option maxRecDepth 100000
section
variable {G:dJ}{H:dD}{a v:Nat}{s:SV}{xs:List Nat}
def mY:List Nat→Nat
 |a::b::c::d::_=>a+256*b+65536*c+16777216*d
 |_=>0
theorem EH {m:Nat}(hv:v<2^m):v |||(a*2^m)=v+a*2^m:=by
 rw[Nat.or_comm,←Nat.shiftLeft_eq,←Nat.shiftLeft_add_eq_or_of_lt hv,Nat.shiftLeft_eq];omega
theorem OW (hv:v<256) (ha:a<256):v |||(a*2^8%4294967296)=v+a*256:=by
 rw[Xw a8,EH (m:=8) a8]
theorem KS (hv:v<65536) (ha:a<256):v |||(a*2^16%4294967296)=v+a*65536:=by
 rw[Xw a8,EH (m:=16) a8]
theorem KR (hv:v<16777216) (ha:a<256):v |||(a*2^24%4294967296)=v+a*16777216:=by
 rw[Xw a8,EH (m:=24) a8]
theorem E9 {l:List Nat}{b c d:Nat}(h0:l[0]? =some a) (h1:l[1]? =some b) (h2:l[2]? =some c) (h3:l[3]? =some d):mY l=a+256*b+65536*c+16777216*d:=by
 match l,h0,h1,h2,h3 with
 |x::y::z::w::r,h0,h1,h2,h3=>
  simp at h0 h1 h2 h3;subst h0;subst h1;subst h2;subst h3;rfl
theorem Je [Sl H s eB xs] (hn:4≤xs.length) (f:∀x∈xs,x<256):SC G prog 170 [s.val] H (λv l=>v=.int .u32 ((mY xs:Nat):Int)∧l=H):=by
 obtain⟨a,ha⟩:=gE xs 0;obtain⟨b,e⟩:=gE xs 1;obtain⟨c,hc⟩:=gE xs 2;obtain⟨d,hd⟩:=gE xs 3;have j:=f a (Yj ha);have i:=f b (Yj e);have h:=f c (Yj hc);have g:=f d (Yj hd);refine sWk func170 ?_;refine go ?_;refine dX dN (as_ 0 (q:=mv) (k:=?_));refine dS 1 rfl rfl aa rfl (ey (er rfl rfl 0 rfl a8)) ?_;refine dS 2 rfl rfl aa rfl (ey (gT rfl bH bH a ha)) ?_;refine dS 3 rfl rfl aa rfl (ey ((aA))) ?_;refine as_ 4 (q:=mv) (k:=?_);refine dS 5 rfl rfl aa rfl (ey (er rfl rfl 1 rfl a8)) ?_;refine dS 6 rfl rfl aa rfl (ey (gT rfl bH bH b e)) ?_;refine dS 7 rfl rfl aa rfl (ey ((aA))) ?_;refine dS 8 rfl rfl aa rfl (ey (wA 4294967296 rfl rfl rfl rfl _ 8 rfl rfl)) ?_;refine dS 9 rfl rfl aa rfl (ey (ku 4294967296 rfl rfl rfl rfl _ _ rfl rfl ak ak)) ?_;rw[OW j i];refine as_ 10 (q:=mv) (k:=?_);refine dS 11 rfl rfl aa rfl (ey (er rfl rfl 2 rfl a8)) ?_;refine dS 12 rfl rfl aa rfl (ey (gT rfl bH bH c hc)) ?_;refine dS 13 rfl rfl aa rfl (ey ((aA))) ?_;refine dS 14 rfl rfl aa rfl (ey (wA 4294967296 rfl rfl rfl rfl _ 16 rfl rfl)) ?_;refine dS 15 rfl rfl aa rfl (ey (ku 4294967296 rfl rfl rfl rfl _ _ rfl rfl ak ak)) ?_;rw[KS a8 h];refine as_ 16 (q:=mv) (k:=?_);refine dS 17 rfl rfl aa rfl (ey (er rfl rfl 3 rfl a8)) ?_;refine dS 18 rfl rfl aa rfl (ey (gT rfl bH bH d hd)) ?_;refine dS 19 rfl rfl aa rfl (ey ((aA))) ?_;refine dS 20 rfl rfl aa rfl (ey (wA 4294967296 rfl rfl rfl rfl _ 24 rfl rfl)) ?_;refine dS 21 rfl rfl aa rfl (ey (ku 4294967296 rfl rfl rfl rfl _ _ rfl rfl ak ak)) ?_;rw[KR a8 g];refine gR ?_;exact⟨_,dH.refl,by rw[E9 ha e hc hd,show a+256*b+65536*c+16777216*d=a+b*256+c*65536+d*16777216 from a8];all_goals rfl,rfl⟩
def nf (l:List Nat):Option (Nat×Nat):=
 match l with
 | []=>none
 |tag::_=>if tag=0 then none else
  match iz 0 ((l.take (min l.length 11)).drop 1)with
  | .error _=>none
  | .ok (n,m)=>if l.length-(1+m)<4∨l.length-(1+m)-4<n then none else
   if mY (l.drop (1+m+n))=w5 (l.take (1+m+n))then some (1+m,1+m+n)else none
theorem YE [hg:Glb G H] [Tab H 27 oc] [Sl H s eB xs] (hn:xs.length≤1000000000000) (c:∀x∈xs,x<256):SC G prog 226 [s.val] H (λv i=>
 (nf xs=none∧i=H∧∃e,v=.tuple #[.int .i64 0,.int .i64 0,.int .i64 0,G.err e])∨(∃f t,nf xs=some (f,t)∧f≤t∧t+4≤xs.length∧i=H∧v=.tuple #[iN f,iN t,iN (t+4),.nilIface])):=by
 refine sWk func226 ?_;refine ws_ (wr_ (e_ asn (e_ asn (e_ asn (e_ asn (on_ (qn_ (ws_ (ws_ (wr_ (e_ mv (e_ lnn (e_ ieq ?_)))))))))))));refine on_ (qn_ (wi_ (k:=λh1=>?_) (m:=λh1=>?_)))
 ·obtain rfl:xs= []:=List.length_eq_zero_iff.1 a8;refine ws_ ?_;refine dX dN (gR ?_);exact⟨_,hsb,.inl ⟨rfl,rfl,_,rfl⟩⟩
 obtain⟨x,r,hx⟩:∃x r,xs=x::r:=by
  cases xs with
  |nil=>simp at h1
  |cons x r=>exact⟨x,r,rfl⟩
 have a:xs[0]? =some x:=by rw[hx];all_goals rfl
 have hxb:=c x (Yj a);refine wk_ (qn_ (ws_ (ws_ (wr_ (e_ mv ?_)))));refine e_ (er rfl rfl 0 rfl a8) ?_;refine e_ (gT rfl bH bH x a) ?_;refine gW (λh2=>?_) λh2=>?_
 ·obtain rfl:x=0:=by omega
  have e:nf xs=none:=by rw[hx,nf,if_pos rfl]
  refine ws_ ?_;refine dX dN (gR ?_);exact⟨_,hsb,.inl ⟨e,rfl,_,rfl⟩⟩
 have a:¬x=0:=a8;refine wk_ (qn_ (ws_ (wr_ (e_ mv (e_ mv (e_ lnn ?_))))));refine e_ (oh rfl rfl) ?_;refine kJ H rfl (1) (min xs.length 11) ⟨_,_,rfl,(aT)⟩ ⟨_,_,rfl,(aT)⟩ a8 aP rfl (λs1 i1=>?_);refine c1_ rfl (l3 bT) ?_;rintro _ _ ⟨b1,rfl,rfl⟩;refine go ?_;refine c1_ rfl (oG (Yl _) bT (λy hy=>c y (Yq (Yp hy)))) ?_;rintro v1 H1 h;rw[Va]at h;rcases h with⟨e,he,rfl,rfl⟩|⟨n,m,he,rfl,rfl⟩
 ·have b:nf xs=none:=by rw[hx,nf,if_neg a,←hx,he]
  refine e_ mv (e_ exr (e_ exr (e_ asn (e_ asn (on_ (qn_ (ws_ (ws_ (wr_ (e_ mv ?_))))))))));refine e_ (eg rfl) ?_;refine gk (k:=ift (k:=go ?_));refine rT (k:=?_);exact⟨_,hsb,.inl ⟨b,rfl,_,rfl⟩⟩
 obtain⟨p1,p2,p3,j,p5,p6⟩:=k7 _ 0 n m (λy hy=>c y (Yq (Yp hy))) a8 he;rw[Yo,Yg]at j;have b:nf xs=if xs.length-(1+m)<4∨xs.length-(1+m)-4<n then none else if mY (xs.drop (1+m+n))=w5 (xs.take (1+m+n))then some (1+m,1+m+n)else none:=by rw[hx,nf,if_neg a,←hx,he]
 refine e_ mv (e_ exr (e_ exr (e_ asn (e_ asn (on_ (qn_ (ws_ (ws_ (wr_ (e_ mv ?_))))))))));refine e_ (dL rfl) ?_;refine gk (k:=fM (k:=go ?_));refine d1_ rfl xb ?_;refine e_ (wB rfl rfl (((1+m:Nat)):Int) (by rw[IntKind.wrap_i64];omega)) ?_;refine e_ asn (on_ (qn_ (ws_ (ws_ (wr_ (e_ mv (e_ lnn (e_ mv (e_ isb (e_ asn (on_ (qn_ (ws_ ?_)))))))))))));refine wr_ (e_ mv (e_ ilt (sp_ mv (k:=λh3=>?_) (m:=λh3=>?_))))
 ·refine gk (k:=ift (k:=ws_ ?_));refine dX dN (gR ?_);exact⟨_,hsb,.inl ⟨by rw[b,if_pos a8],rfl,_,rfl⟩⟩
 refine go ?_;refine eg_ (dW 18446744073709551616 rfl rfl rfl (xs.length-(1+m)-4) a8 a8) ?_;refine gW (λh4=>?_) λh4=>?_
 ·refine ws_ ?_;refine dX dN (gR ?_);exact⟨_,hsb,.inl ⟨by rw[b,if_pos a8],rfl,_,rfl⟩⟩
 refine wk_ (qn_ (ws_ (wr_ ?_)));rw[if_neg a8]at b;refine e_ mv (e_ mv ?_);refine e_ (ew rfl a8) ?_;refine e_ (wB rfl rfl (((1+m+n:Nat)):Int) (by rw[IntKind.wrap_i64];omega)) (go ?_);refine dX dN ?_;have g:Sl H (s.cut 1 (1+m+n) xs.length) eB ((xs.take xs.length).drop (1+m+n)):=Sl.cut (e:=eB) inferInstance a8 a8;rw[Xn]at g;have d:Sl H (s.cut 1 0 (1+m+n)) eB ((xs.take (1+m+n)).drop 0):=Sl.cut (e:=eB) inferInstance a8 a8;rw[Va]at d;refine as_ 0 (q:=mv) (k:=as_ 1 (q:=mv) (k:=?_));refine dS 2 rfl rfl aa rfl (ey (fV rfl bH (1+m+n) xs.length ⟨_,_,rfl,rfl⟩ rfl a8 a8)) ?_;refine dS 3 rfl rfl aa rfl (iR (vs:= [_]) rfl (Je ba (λy hy=>c y (Yp hy)))) ?_;refine as_ 4 (q:=mv) (k:=as_ 5 (q:=mv) (k:=?_));refine dS 6 rfl rfl aa rfl (ey (fV rfl bH 0 (1+m+n) rfl ⟨_,_,rfl,rfl⟩ a8 a8)) ?_;refine dS 7 rfl rfl aa rfl (iR (vs:= [_]) rfl (Qy az (λy hy=>c y (Yq hy)))) ?_;refine gW (λh5=>?_) λh5=>?_
 ·rw[if_neg a8]at b;refine ws_ ?_;refine dX dN (gR ?_);exact⟨_,hsb,.inl ⟨b,rfl,_,rfl⟩⟩
 rw[if_pos a8]at b;refine go ?_;refine gR ?_;exact⟨_,hsb,.inr ⟨_,_,b,a8,a8,rfl,rfl⟩⟩
end
theorem PC {G:dJ}{H:dD}{s:SV}{xs:List Nat} [hg:Glb G H] [Tab H 27 oc] [hs:Sl H s eB xs] (hn:xs.length≤1000000000000) (h:∀x∈xs,x<256):SC G prog 173 [s.val] H (λv d=>
 (nf xs=none∧d=H∧∃e,v=.tuple #[.agg #[.int .u8 0,.slice none 0 0],.int .i64 0,G.err e])∨(∃f t x,∃c:SV,nf xs=some (f,t)∧f≤t∧t+4≤xs.length∧xs[0]? =some x∧v=.tuple #[.agg #[.int .u8 ((x:Nat):Int),c.val],iN (t+4),.nilIface]∧d=Row c eB ((xs.take t).drop f)::H)):=by
 refine sWk func173 ?_;refine ws_ (wr_ (alc (k:=λb1=>?_)));refine e_ asn (e_ asn (on_ (qn_ (ws_ (wr_ (e_ mv ?_))))));refine c1_ rfl (YE hn h) ?_;rintro v1 H1 i;rcases i with⟨he,rfl,e,rfl⟩|⟨f,q,he,b,a,rfl,rfl⟩
 ·refine e_ mv (e_ exr (e_ exr (e_ exr (e_ exr (e_ asn (e_ asn (e_ asn (e_ asn (on_ (qn_ (ws_ (ws_ (wr_ ?_)))))))))))));refine e_ mv ?_;refine e_ (eg rfl) ?_;refine on_ (qn_ (ift (k:=ws_ (wr_ (e_ (bld []) (e_ mv (sto (k:=e_ asn (e_ asn (on_ (qn_ (wt_ (qr_ ?_)))))))))))));refine rT (k:=?_);exact⟨_,hsb,.inl ⟨he,rfl,e,rfl⟩⟩
 obtain⟨x,hx⟩:=gE xs 0;have hc:Sl H (s.cut 1 f q) eB ((xs.take q).drop f):=Sl.cut (e:=eB) hs a8 a8;refine e_ mv (e_ exr (e_ exr (e_ exr (e_ exr (e_ asn (e_ asn (e_ asn (e_ asn (on_ (qn_ (ws_ (ws_ (wr_ ?_)))))))))))));refine e_ mv ?_;refine e_ (dL rfl) ?_;refine on_ (qn_ (fM (k:=wk_ (qn_ (ws_ ?_)))));refine wD [7,8,11] (λk H=>(k=1→Sl H s eB xs)∧(k=2→Sl H s eB xs)∧(k=6→Sl H s eB xs)) (aF 0 (k:=?_));refine aN 1 rfl (λH hH=>by have hN:=hH.1 rfl;exact er rfl rfl 0 rfl a8) ?_;refine aN 2 rfl (λH hH=>by have hN:=hH.2.1 rfl;exact gT rfl bH bH x hx) ?_;refine aF 3 (k:=aF 4 (k:=aF 5 (k:=?_)));refine aN 6 rfl (λH hH=>by have hN:=hH.2.2 rfl;exact fV rfl bH f q ⟨_,_,rfl,rfl⟩ ⟨_,_,rfl,rfl⟩ a8 a8) ?_;refine aF 10 (k:=?_);refine aS 7 rfl (fK eSV rfl rfl) ?_;rintro _ _ ⟨s1,rfl,rfl⟩;refine aS 8 rfl (v1_ (wI (s:=s.cut 1 f q) bT)) ?_;rintro _ _ ⟨g,rfl,rfl⟩;refine af_ 9 (q:=ea λH hH=>bld [(0,_),(1,_)]) (k:=?_);refine aS 11 rfl (ej rfl rfl rfl) ?_;rintro _ _ ⟨rfl,rfl⟩;refine aF 12 (k:=aF 13 (k:=aZ (qn_ (wt_ (rT (k:=?_))))));exact⟨_,hsb,.inr ⟨f,q,x,g,he,b,a,hx,rfl,rfl⟩⟩
section
variable {F H:dD}{G:dJ}{s:SV}{xs:List Nat}
def lh:Nat→List Nat→Option (List (Nat×List Nat))
 | 0,l=>if l.length=0 then some []else none
 |n+1,l=>
  match nf l with
  |none=>none
  |some (f,t)=>
   match lh n (l.drop (t+4))with
   |none=>none
   |some r=>some ((l.headD 0,(l.take t).drop f)::r)
def mC (kind:Nat) (l:List Nat):Option (List (Nat×List Nat)):=
 if l.length<10 then none else
 if mY (l.drop (l.length-4))=xh (l.take (l.length-4))then
  if kind=0∨l.take 4≠ [99,110,99,100]∨l[4]? ≠some kind then none else
  match iz 0 (((l.take (l.length-4)).drop 5).take (min ((l.take (l.length-4)).drop 5).length 10))with
  | .error _=>none
  | .ok (n,m)=>lh n (((l.take (l.length-4)).drop 5).drop m)
 else none
def M8 (bl:List (Nat×List Nat)):Option (List (Nat×List Nat))→Option (List (Nat×List Nat))
 |none=>none
 |some r=>some (bl++r)
theorem Iw {l:List Nat}{x:Nat}(h:l[0]? =some x):l.headD 0=x:=by
 cases l with
 |nil=>cases h
 |cons a l=>simp at h;exact h
theorem sy.snoc {l:List (Nat×SV)}{bl:List (Nat×List Nat)}(h:sy F l bl) (x:Nat) (s:SV) (body:List Nat):sy (Row s eB body::F) (l++ [(x,s)]) (bl++ [(x,body)]):=by
 obtain⟨h1,h2⟩:=h;refine⟨by simp[h1],λi p q hp a=>?_⟩
 by_cases hi:i<l.length
 ·rw[Yv hi]at hp;rw[Yv a8]at a;obtain⟨h3,h4⟩:=h2 i p q hp a;exact⟨h3,inferInstance⟩
 ·rw[Yu a8]at hp a;have b:i-l.length=0:=by
   have:=(Yk.1 hp).1;simp at this;omega
  rw[b]at hp;rw[←h1,b]at a;simp at hp a;subst hp;subst a;exact⟨rfl,inferInstance⟩
theorem sy.nil:sy F [] []:=⟨rfl,λi p q h=>aK⟩
def WA (p:Nat×SV) (q:Nat×List Nat):Hp:=Row p.2 eB q.2
theorem Ml [hg:Glb G H] [Tab H 27 oc] [Tab H 25 mA] [hs:Sl H s eB xs] (a:Nat) (hk:a<256) (hn:xs.length≤1000000000) (u:∀x∈xs,x<256):SC G prog 116 [.int .u8 (a:Int),s.val] H (λv V=>
 (mC a xs=none∧V=H∧∃e,v=.tuple #[.slice none 0 0,G.err e])∨(∃j l F,∃R:SV,mC a xs=some j∧sy F l j∧F=(List.zipWith WA l j).reverse∧v=.tuple #[R.val,.nilIface]∧V=Row R eK l::eU F::H)):=by
 refine sWk func116 ?_;refine go ?_;refine wi_ (k:=λh1=>?_) (m:=λh1=>?_)
 ·have e:mC a xs=none:=by rw[mC,if_pos a8]
  refine ws_ ?_;refine dX dN (gR ?_);exact⟨_,hsb,.inl ⟨e,rfl,_,rfl⟩⟩
 have b:mC a xs=if mY (xs.drop (xs.length-4))=xh (xs.take (xs.length-4))then if a=0∨xs.take 4≠ [99,110,99,100]∨xs[4]? ≠some a then none else
  match iz 0 (((xs.take (xs.length-4)).drop 5).take (min ((xs.take (xs.length-4)).drop 5).length 10))with
  | .error _=>none
  | .ok (n,m)=>lh n (((xs.take (xs.length-4)).drop 5).drop m)
  else none:=by rw[mC,if_neg a8]
 obtain⟨M,hx4⟩:=gE xs 4;have hx4b:=u M (Yj hx4);refine wk_ (qn_ (ws_ (wr_ (e_ mv (e_ lnn ?_)))));refine e_ (Mm rfl rfl a8) (go ?_);refine dX dN ?_;have K:Sl H (s.cut 1 (xs.length-4) xs.length) eB ((xs.take xs.length).drop (xs.length-4)):=Sl.cut (e:=eB) inferInstance a8 a8;rw[Xn]at K;have J:Sl H (s.cut 1 0 (xs.length-4)) eB ((xs.take (xs.length-4)).drop 0):=Sl.cut (e:=eB) inferInstance a8 a8;rw[Va]at J;refine as_ 0 (q:=mv) (k:=as_ 1 (q:=mv) (k:=?_));refine dS 2 rfl rfl aa rfl (ey (fV rfl bH (xs.length-4) xs.length ⟨_,_,rfl,a8⟩ rfl a8 a8)) ?_;refine dS 3 rfl rfl aa rfl (iR (vs:= [_]) rfl (Je ba (λy hy=>u y (Yp hy)))) ?_;refine as_ 4 (q:=mv) (k:=as_ 5 (q:=mv) (k:=?_));refine dS 6 rfl rfl aa rfl (ey (fV rfl bH 0 (xs.length-4) rfl ⟨_,_,rfl,a8⟩ a8 a8)) ?_;refine dS 7 rfl rfl aa rfl (iR (vs:= [_]) rfl (Kg az (λy hy=>u y (Yq hy)))) ?_;refine gW (λh2=>?_) λh2=>?_
 ·rw[if_neg a8]at b;refine ws_ ?_;refine dX dN (gR ?_);exact⟨_,hsb,.inl ⟨b,rfl,_,rfl⟩⟩
 rw[if_pos a8]at b;refine wk_ (qn_ (ws_ (ws_ (wr_ ?_))));have E:Sl H (s.cut 1 0 4) eB ((xs.take 4).drop 0):=Sl.cut (e:=eB) inferInstance a8 a8;rw[Va]at E;refine e_ mv (e_ ieq (sp_ mv (k:=λh3=>?_) (m:=λh3=>?_)))
 ·refine go ?_;refine ift (k:=ws_ ?_);refine dX dN (gR ?_);refine⟨_,hsb,.inl ⟨?_,rfl,_,rfl⟩⟩;rw[b,if_pos]
  first
   |exact .inl a8
   |exact .inr (.inl aU)
   |exact .inr (.inr cF)
 refine go ?_;refine eg_ (fV rfl bH 0 4 rfl ⟨_,_,rfl,rfl⟩ a8 a8) ?_;refine eg_ (fx rfl) ?_;refine eg_ (D9 rfl rfl (λy hy=>u y (Yq hy)) (ys:= [99,110,99,100]) ax) ?_;refine e_ pkf (sp_ mv (k:=λh4=>?_) (m:=λh4=>?_))
 ·refine gk (k:=ift (k:=ws_ ?_));refine dX dN (gR ?_);refine⟨_,hsb,.inl ⟨?_,rfl,_,rfl⟩⟩;rw[b,if_pos]
  first
   |exact .inl a8
   |exact .inr (.inl aU)
   |exact .inr (.inr cF)
 refine eg_ mv ?_;refine eg_ (er rfl rfl 4 rfl a8) ?_;refine eg_ (gT rfl bH bH M hx4) ?_;refine gW (λh5=>?_) λh5=>?_
 ·refine ws_ ?_;refine dX dN (gR ?_);refine⟨_,hsb,.inl ⟨?_,rfl,_,rfl⟩⟩;rw[b,if_pos]
  first
   |exact .inl a8
   |exact .inr (.inl aU)
   |exact .inr (.inr cF)
 refine wk_ (qn_ (ws_ (wr_ ?_)));rw[if_neg (by
  rintro(h|h|h)
  ·omega
  ·exact h aU
  ·exact h (by rw[hx4];congr 1;omega))]at b
 refine go ?_;refine kJ H rfl (5) (xs.length-4) ⟨_,_,rfl,(aT)⟩ ⟨_,_,rfl,(aT)⟩ a8 aP rfl (λs1 i1=>?_);obtain⟨c,g⟩:=ex ((xs.take (xs.length-4)).drop 5);rw[←g]at i1 b;have i:∀y∈c,y<256:=λy hy=>u y (Yq (Yp (g ▸ hy)));have hlr:c.length=xs.length-9:=by rw[g,Yo,Yg];omega
 refine e_ asn (on_ (qn_ (ws_ (wr_ (e_ mv (e_ mv (e_ lnn ?_)))))));refine e_ (oh rfl rfl) ?_;refine kJ H rfl (0) (min c.length 10) rfl ⟨_,_,rfl,(aT)⟩ a8 aP rfl (λN i2=>?_);rw[Va]at i2;refine c1_ rfl (l3 az) ?_;rintro _ _ ⟨b1,rfl,rfl⟩;refine go ?_;refine c1_ rfl (oG (Yl _) az (λy hy=>i y (Yq hy))) ?_;rintro X H1 w;rw[Va]at w;rcases w with⟨e,he,rfl,rfl⟩|⟨n,m,he,rfl,rfl⟩
 ·rw[he]at b;refine e_ mv (e_ exr (e_ exr (e_ asn (e_ asn (on_ (qn_ (ws_ (ws_ (wr_ (e_ mv ?_))))))))));refine e_ (eg rfl) ?_;refine gk (k:=ift (k:=gR ?_));exact⟨_,hsb,.inl ⟨b,rfl,_,rfl⟩⟩
 obtain⟨p1,p2,p3,p4,p5,p6⟩:=k7 _ 0 n m (λy hy=>i y (Yq hy)) a8 he;rw[Yg]at p4;rw[he]at b;replace b:mC a xs=lh n (c.drop m):=b;refine e_ mv (e_ exr (e_ exr (e_ asn (e_ asn (on_ (qn_ (ws_ (ws_ (wr_ (e_ mv ?_))))))))));refine e_ (dL rfl) ?_;refine gk (k:=fM (k:=go ?_));refine d1_ rfl xb ?_;refine kJ H rfl m c.length ⟨_,_,rfl,(aT)⟩ rfl a8 aP rfl (λs3 T=>?_);rw[Xn]at T;refine gk (k:=wl_ (SV×SV×Nat×List Nat×List (Nat×SV)×List (Nat×List Nat)×dD) (λy=>Sl H y.2.1 eB y.2.2.2.1∧(∀z∈y.2.2.2.1,z<256)∧sy y.2.2.2.2.2.2 y.2.2.2.2.1 y.2.2.2.2.2.1∧y.2.2.1<18446744073709551616∧y.2.2.2.2.1.length+y.2.2.2.1.length≤1000000000∧mC a xs=M8 y.2.2.2.2.2.1 (lh y.2.2.1 y.2.2.2.1)∧y.2.2.2.2.2.2=(List.zipWith WA y.2.2.2.2.1 y.2.2.2.2.2.1).reverse) (λy=>[(7,y.2.1.val),(9,uN y.2.2.1),(11,y.1.val)]) (λy=>Row y.1 eK y.2.2.2.2.1::eU y.2.2.2.2.2.2::H) (λy=>y.2.2.1) ((SV.nil,s3,n,c.drop m, [], [], [])) (h0:=?_) (k:=?_))
 ·try dsimp only
  refine⟨T,λz C=>i z (Yp C),sy.nil,a8,by rw[Yo];simp only[Yc];omega,?_,rfl⟩;rw[b];cases lh n (c.drop m)with
  |none=>rfl
  |some r=>rfl
 rintro⟨Y,sr,B,r,l,j,F⟩ ⟨hsr,t,L,hn',hlen,hI,U⟩
 try dsimp only at*
 refine gW (λh6=>?_) λh6=>?_
 ·obtain⟨d,rfl⟩:∃d,B=d+1:=⟨B-1,a8⟩;rw[lh]at hI;refine go ?_;refine c1_ rfl (PC (xs:=r) a8 t) ?_;rintro X H1 w;rcases w with⟨p,rfl,e,rfl⟩|⟨f,q,x,A,p,hft,htl,hx,rfl,rfl⟩
  all_goals rw[p]at hI
  all_goals simp only[]at hI
  ·refine gk (k:=alc (k:=λb1=>?_));refine sto (k:=e_ asn (e_ asn (on_ (qn_ (ws_ (ws_ (wr_ (e_ mv ?_))))))));refine e_ (eg rfl) ?_;refine gk (k:=ift (k:=go ?_));refine gR ?_;exact⟨_,hsb,.inl ⟨hI,rfl,_,rfl⟩⟩
  refine gk (k:=alc (k:=λb2=>?_));refine sto (k:=e_ asn (e_ asn (on_ (qn_ (ws_ (ws_ (wr_ (e_ mv ?_))))))));refine e_ (dL rfl) ?_;refine gk (k:=fM (k:=gk (k:=fS eK (k:=λs1=>?_))));refine app (k:=λN=>?_);refine go ?_;refine kJ H rfl (q+4) r.length ⟨_,_,rfl,(aT)⟩ rfl a8 aP rfl (λZ S=>?_);rw[Xn]at S;refine e_ asn (on_ (bn_ (qn_ (wr_ (e_ mv ?_)))));refine e_ (Bb 18446744073709551616 rfl rfl rfl rfl _ 1 rfl rfl a8 a8) (go ?_);refine lN ((N,Z,d,r.drop (q+4),l++ [(x,A)],j++ [(x,(r.take q).drop f)],Row A eB ((r.take q).drop f)::F)) ?_
  try dsimp only
  refine⟨S,λz C=>t z (Yp C),L.snoc x A _,a8,by rw[Ya,Yo];simp only[Yb,Yc];omega,?_,by rw[List.zipWith_append L.1,U,List.reverse_append];all_goals rfl⟩;rw[hI,Iw hx];cases lh d (r.drop (q+4))with
  |none=>rfl
  |some r'=>simp[M8]
 obtain rfl:B=0:=a8;rw[lh]at hI;refine gW (λh7=>?_) λh7=>?_
 ·rw[if_neg a8]at hI;refine ws_ ?_;refine dX dN (gR ?_);exact⟨_,hsb,.inl ⟨hI,rfl,_,rfl⟩⟩
 rw[if_pos a8]at hI;refine gR ?_;exact⟨_,hsb,.inr ⟨j,l,F,Y,by rw[hI];simp[M8],L,U,rfl,rfl⟩⟩
theorem PA [hg:Glb G H] [Tab H 27 oc] [Tab H 25 mA] [hs:Sl H s eB xs] (a:Nat) (hk:a<256) (hn:xs.length≤1000000000) (f:∀x∈xs,x<256):SC G prog 116 [.int .u8 (a:Int),s.val] H (λv d=>
 (mC a xs=none∧d=H∧∃e,v=.tuple #[.slice none 0 0,G.err e])∨(∃c l F,∃b:SV,mC a xs=some c∧sy F l c∧v=.tuple #[b.val,.nilIface]∧d=Row b eK l::eU F::H)):=
 (Ml a hk hn f).mono λv d h=>h.imp id λ⟨c,l,F,b,h1,h2,_,h3,h4⟩=>⟨c,l,F,b,h1,h2,h3,h4⟩
end
section
variable {bl:List (Nat×List Nat)}{body l:List Nat}{kind n tag:Nat}
theorem wM (r:List Nat) (h:n<4294967296):mY (w32 n++r)=n:=by
 simp only[w32,Yd,mY];omega
theorem wP (hl:4≤l.length) (e:∀x∈l,x<256):w32 (mY l)=l.take 4:=by
 match l,hl with
 |a::b::c::d::r,_=>
  have ha:=e a aq;have h2:=e b aq;have hc:=e c aq;have hd:=e d aq;simp only[mY,w32,Vq,List.take_zero,List.cons.injEq,and_true];omega
theorem tM {v:Nat}(r:List Nat) (h:v<18446744073709551616):iz 0 (uv v++r)=.ok (v,(uv v).length):=
 Gk v 0 r a8 bA (λh=>absurd h (Nat.lt_irrefl 0))
theorem gw {most v:Nat}(r:List Nat) (h:v<18446744073709551616) (hm:v≤most):iH most (uv v++r)=.ok (v,(uv v).length):=by
 rw[iH,tM r h];simp only[];rw[if_neg a8]
theorem BR {a b:List Nat}(h:a.length≤n):(a++b).take n=a++b.take (n-a.length):=by
 rw[List.take_append,Xr h]
theorem yj (tag:Nat) (body:List Nat):(mL tag body).length=1+(uv body.length).length+body.length:=by
 simp only[mL,Ya,Ul]
theorem uk (tag:Nat) (body:List Nat):(kS tag body).length=1+(uv body.length).length+body.length+4:=by
 rw[kS,Ya,yj,we]
theorem Ez (tag:Nat) (r:List Nat):nf (tag::r)=if tag=0 then none else
 match iz 0 (((tag::r).take (min (tag::r).length 11)).drop 1)with
 | .error _=>none
 | .ok (n,m)=>if(tag::r).length-(1+m)<4∨(tag::r).length-(1+m)-4<n then none else
  if mY ((tag::r).drop (1+m+n))=w5 ((tag::r).take (1+m+n))then some (1+m,1+m+n)else none:=rfl
theorem Ey (r:List Nat) (h0:tag≠0) (b:tag<256) (c:∀x∈body,x<256) (hl:body.length<18446744073709551616):
 nf (kS tag body++r)=some (1+(uv body.length).length,1+(uv body.length).length+body.length):=by
 have h10:=iw hl;have hlen:=uk tag body;have hpl:=yj tag body;have hx:kS tag body++r=tag::(uv body.length++(body++(w32 (w5 (mL tag body))++r))):=by
  simp[kS,mL]
 have a:iz 0 (((kS tag body++r).take (min (kS tag body++r).length 11)).drop 1)=.ok (body.length,(uv body.length).length):=by
  rw[hx];have:min (tag::(uv body.length++(body++(w32 (w5 (mL tag body))++r)))).length 11=(min (uv body.length++(body++(w32 (w5 (mL tag body))++r))).length 10)+1:=by
   rw[Yb];omega
  rw[this,Vq,U9,Va,BR bz];exact tM _ hl
 rw[hx,Ez,if_neg h0,←hx,a];simp only[];rw[if_neg bz];have hd:(kS tag body++r).drop (1+(uv body.length).length+body.length)=w32 (w5 (mL tag body))++r:=by
  rw[kS,Yf,←hpl,Vg]
 have b:(kS tag body++r).take (1+(uv body.length).length+body.length)=mL tag body:=by
  rw[kS,Yf,←hpl,T9]
 rw[hd,b,wM _ (Nk (Bi aU c)),if_pos rfl]
theorem MA (r:List Nat):((kS tag body++r).take (1+(uv body.length).length+body.length)).drop (1+(uv body.length).length)=body:=by
 have hpl:=yj tag body;have a:(kS tag body++r).take (1+(uv body.length).length+body.length)=mL tag body:=by
  rw[kS,Yf,←hpl,T9]
 rw[a,mL,show 1+(uv body.length).length=([tag]++uv body.length).length by simp[Nat.add_comm],Vg]
theorem sD:∀(bl:List (Nat×List Nat)),(∀q∈bl,0<q.1∧q.1<256∧(∀x∈q.2,x<256)∧q.2.length<18446744073709551616)→lh bl.length (fN bl)=some bl
 | [],_=>rfl
 |q::bl,h=>by
  obtain⟨h1,h2,h3,h4⟩:=h q aq;have a:=sD bl λp hp=>h p (by simp[hp]);have he:fN (q::bl)=kS q.1 q.2++fN bl:=by simp[fN]
  rw[Yb,lh,he,Ey _ a8 h2 h3 h4];simp only[];have hd:(kS q.1 q.2++fN bl).drop (1+(uv q.2.length).length+q.2.length+4)=fN bl:=by
   rw[←uk q.1 q.2,Vg]
  rw[hd,a,MA];simp only[Option.some.injEq,List.cons.injEq,and_true];simp[kS,mL]
theorem D0 (kind:Nat) (bl:List (Nat×List Nat)):(oO kind bl).length=5+(uv bl.length).length+(fN bl).length:=by
 simp only[oO,Ya,Yb,Yc]
theorem xZ (kind:Nat) (bl:List (Nat×List Nat)):(nN kind bl).length=5+(uv bl.length).length+(fN bl).length+4:=by
 rw[nN,Ya,D0,we]
theorem Eu (f:kind≠0) (hk:kind<256) (hn:bl.length<18446744073709551616) (h:∀q∈bl,0<q.1∧q.1<256∧(∀x∈q.2,x<256)∧q.2.length<18446744073709551616):mC kind (nN kind bl)=some bl:=by
 have hl:=xZ kind bl;have d:=D0 kind bl;have h10:=iw hn;have h1:=sM bl.length;have i:(nN kind bl).take ((nN kind bl).length-4)=oO kind bl:=by
  rw[hl,nN,show 5+(uv bl.length).length+(fN bl).length+4-4=(oO kind bl).length from a8,T9]
 have hd:(nN kind bl).drop ((nN kind bl).length-4)=w32 (xh (oO kind bl)):=by
  rw[hl,nN,show 5+(uv bl.length).length+(fN bl).length+4-4=(oO kind bl).length from a8,Vg]
 have e:∀q∈bl,q.1<256∧∀x∈q.2,x<256:=λq d=>⟨(h q d).2.1,(h q d).2.2.1⟩;rw[mC,i,hd];have g:=wM [] (Kf (B0 hk e));rw[Ym]at g;have a:¬(nN kind bl).length<10:=by
  rw[hl];rcases Us ((uv bl.length).length+(fN bl).length) 1 with h0|h0
  ·omega
  ·omega
 rw[if_neg a,if_pos g];have b:(nN kind bl).take 4= [99,110,99,100]:=by simp[nN,oO]
 have h4:(nN kind bl)[4]? =some kind:=by simp[nN,oO]
 rw[b,h4,if_neg (by simp[f])];have c:(oO kind bl).drop 5=uv bl.length++fN bl:=by simp[oO]
 rw[c,BR bz,tM _ hn];simp only[];rw[Vg,sD bl h]
theorem EA {f t:Nat}(d:∀x∈l,x<256) (h:nf l=some (f,t)):f≤t∧t+4≤l.length∧l.headD 0≠0∧l.take (t+4)=kS (l.headD 0) ((l.take t).drop f):=by
 match l,d,h with
 |tag::r,d,h=>
  rw[nf]at h
  split at h
  ·cases h
  ·rename_i h0
   split at h
   ·cases h
   ·rename_i n m hr
    split at h
    ·cases h
    ·rename_i hle
     split at h
     ·rename_i k;simp only[Option.some.injEq,Prod.mk.injEq]at h;obtain⟨rfl,rfl⟩:=h;have g:∀x∈(((tag::r).take (min (tag::r).length 11)).drop 1),x<256:=λy hy=>d y (Yq (Yp hy));obtain⟨p1,p2,p3,j,i,p6⟩:=k7 _ 0 n m g a8 hr;have b:(tag::r).length=r.length+1:=rfl;rw[Yo,Yg]at j;have hm:r.take m=uv n:=by
       rw[b,show min (r.length+1) 11=min r.length 10+1 from a8,Vq,U9,Va,List.take_take]at i;rw[←i];congr 1;omega
      have c:((tag::r).take (1+m+n)).drop (1+m)=(r.drop m).take n:=by
       rw[show 1+m+n=m+n+1 from a8,Vq,show 1+m=m+1 from a8,U9,List.drop_take,show m+n-m=n from a8]
      have e:((r.drop m).take n).length=n:=by rw[Yg,Yo];omega
      have a:(tag::r).take (1+m+n)=mL tag ((r.drop m).take n):=by
       rw[show 1+m+n=m+n+1 from a8,Vq,List.take_add,hm,mL,e];all_goals rfl
      refine⟨a8,a8,h0,?_⟩;show(tag::r).take (1+m+n+4)=kS tag _;rw[c,kS,List.take_add,a];congr 1;rw[←a,←k,wP ba (λy hy=>d y (Yp hy))]
     ·cases h
theorem vP:∀(n:Nat) (l:List Nat) (bl:List (Nat×List Nat)),(∀x∈l,x<256)→lh n l=some bl→bl.length=n∧l=fN bl∧(∀q∈bl,q.1≠0)∧(∀q∈bl,q.1<256∧∀x∈q.2,x<256)
 | 0,l,bl,hb,h=>by
  rw[lh]at h
  split at h
  ·cases h;exact⟨rfl,List.length_eq_zero_iff.1 aU,λq hq=>(by cases hq),λq hq=>(by cases hq)⟩
  ·cases h
 |n+1,l,bl,hb,h=>by
  rw[lh]at h
  split at h
  ·cases h
  ·rename_i f t hr
   split at h
   ·cases h
   ·rename_i r b;simp only[Option.some.injEq]at h;subst h;obtain⟨p1,k,j,i⟩:=EA hb hr;obtain⟨g,e,d,c⟩:=vP n _ r (λy hy=>hb y (Yp hy)) b;refine⟨by simp[g],?_,?_,?_⟩
    ·rw[show fN ((l.headD 0,(l.take t).drop f)::r)=kS (l.headD 0) ((l.take t).drop f)++fN r by simp[fN],←i,←e,Vd]
    ·intro q hq;rcases Xo.1 hq with rfl|hq
     ·exact j
     ·exact d q hq
    ·intro q hq;rcases Xo.1 hq with rfl|hq
     ·refine⟨?_,λx hx=>hb x (Yq (Yp hx))⟩;cases l with
      |nil=>simp at k
      |cons a l=>exact hb a aq
     ·exact c q hq
theorem Ew (c:∀x∈l,x<256) (h:mC kind l=some bl):l=nN kind bl∧(∀q∈bl,q.1≠0)∧(∀q∈bl,q.1<256∧∀x∈q.2,x<256):=by
 rw[mC]at h
 split at h
 ·cases h
 ·rename_i hlen
  split at h
  ·rename_i k
   split at h
   ·cases h
   ·rename_i hk
    split at h
    ·cases h
    ·rename_i n m hr;have a:∀x∈(l.take (l.length-4)).drop 5,x<256:=λy hy=>c y (Yq (Yp hy));obtain⟨p1,p2,p3,j,b,p6⟩:=k7 _ 0 n m (λy hy=>a y (Yq hy)) a8 hr;obtain⟨i,g,f,d⟩:=vP n _ bl (λy hy=>a y (Yp hy)) h;refine⟨?_,f,d⟩;have hm:((l.take (l.length-4)).drop 5).take m=uv n:=by
      rw[List.take_take]at b;rw[←b];congr 1;rw[Yg]at j;omega
     have p:l.take (l.length-4)=oO kind bl:=by
      have h5:(l.take (l.length-4)).take 5= [99,110,99,100]++ [kind]:=by
       have u:(l.take (l.length-4)).take 5=l.take 5:=by rw[List.take_take];congr 1;omega
       have t:l.take 4= [99,110,99,100]:=Classical.byContradiction λe=>hk (.inr (.inl e));have s:l[4]? =some kind:=Classical.byContradiction λe=>hk (.inr (.inr e));rw[u,dK s,t]
      rw[oO,←h5,i,←hm,←g,Yf,Vd,Vd]
     have r:(l.drop (l.length-4)).take 4=l.drop (l.length-4):=Xr ba;rw[nN,←p,←k,wP ba (λy hy=>c y (Yp hy)),r,Vd]
  ·cases h
end
theorem Ct:∀(l:List Nat) (i e:Nat),iz i l=.error e→e=2∨e=3
 | [],i,e,h=>by rw[iz]at h;cases h;exact .inl rfl
 |x::r,i,e,h=>by
  rw[iz]at h
  split at h
  ·cases h;exact .inr rfl
  ·split at h
   ·split at h
    ·cases h
    ·rename_i e' he;cases h;exact Ct r (i+1) e he
   ·split at h
    ·cases h;exact .inr rfl
    ·cases h
end Go.Sx
