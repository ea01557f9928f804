import Derived.Test.YtjhdcheijnegnaaGreatDoorQ11
import Derived.Test.YtjhdcheijnegnaaGreatDoorQ10
import Derived.Test.YtjhdcheijnegnaaGreatDoorQ8
set_option linter.all false
set_option maxHeartbeats 0
namespace Go.Sx
open Go Go.Proofs Tryz
set_option maxRecDepth 100000
section
variable {G:cJ}{H:cG}{a v:Nat}{s:SV}{xs:List Nat}
def kz:List Nat→Nat
 |a::b::c::d::_=>a+256*b+65536*c+16777216*d
 |_=>0
theorem zK {m:Nat}(hv:v<2^m):v |||(a*2^m)=v+a*2^m:=by
 rw[Nat.or_comm,←Nat.shiftLeft_eq,←Nat.shiftLeft_add_eq_or_of_lt hv,Nat.shiftLeft_eq];omega
theorem Iz (hv:v<256) (ha:a<256):v |||(a*2^8%4294967296)=v+a*256:=by
 rw[Xt a8,zK (m:=8) a8]
theorem F5 (hv:v<65536) (ha:a<256):v |||(a*2^16%4294967296)=v+a*65536:=by
 rw[Xt a8,zK (m:=16) a8]
theorem EZ (hv:v<16777216) (ha:a<256):v |||(a*2^24%4294967296)=v+a*16777216:=by
 rw[Xt a8,zK (m:=24) a8]
theorem zf {l:List Nat}{b c d:Nat}(h0:l[0]? =some a) (h1:l[1]? =some b) (h2:l[2]? =some c) (h3:l[3]? =some d):kz l=a+256*b+65536*c+16777216*d:=by
 match l,h0,h1,h2,h3 with
 |x::y::z::w::r,h0,h1,h2,h3=>
  simp at h0 h1 h2 h3;subst h0;subst h1;subst h2;subst h3;rfl
theorem Dy [Sl H s eB xs] (hn:4≤xs.length) (f:∀x∈xs,x<256):SC G prog 162 [s.val] H (λv m=>v=.int .u32 ((kz xs:Nat):Int)∧m=H):=by
 obtain⟨a,ha⟩:=gE xs 0;obtain⟨b,e⟩:=gE xs 1;obtain⟨c,i⟩:=gE xs 2;obtain⟨d,hd⟩:=gE xs 3;have l:=f a (Yj ha);have j:=f b (Yj e);have h:=f c (Yj i);have g:=f d (Yj hd);refine sWk func162 ?_;refine go ?_;refine cZ cN (as_ 0 (q:=mv) (k:=?_));refine cO 1 rfl rfl aa rfl (df (cV rfl rfl 0 rfl a8)) ?_;refine cO 2 rfl rfl aa rfl (df (dS rfl bA bA a ha)) ?_;refine cO 3 rfl rfl aa rfl (df ((au))) ?_;refine as_ 4 (q:=mv) (k:=?_);refine cO 5 rfl rfl aa rfl (df (cV rfl rfl 1 rfl a8)) ?_;refine cO 6 rfl rfl aa rfl (df (dS rfl bA bA b e)) ?_;refine cO 7 rfl rfl aa rfl (df ((au))) ?_;refine cO 8 rfl rfl aa rfl (df (gm 4294967296 rfl rfl rfl rfl _ 8 rfl rfl)) ?_;refine cO 9 rfl rfl aa rfl (df (fI 4294967296 rfl rfl rfl rfl _ _ rfl rfl aj aj)) ?_;rw[Iz l j];refine as_ 10 (q:=mv) (k:=?_);refine cO 11 rfl rfl aa rfl (df (cV rfl rfl 2 rfl a8)) ?_;refine cO 12 rfl rfl aa rfl (df (dS rfl bA bA c i)) ?_;refine cO 13 rfl rfl aa rfl (df ((au))) ?_;refine cO 14 rfl rfl aa rfl (df (gm 4294967296 rfl rfl rfl rfl _ 16 rfl rfl)) ?_;refine cO 15 rfl rfl aa rfl (df (fI 4294967296 rfl rfl rfl rfl _ _ rfl rfl aj aj)) ?_;rw[F5 a8 h];refine as_ 16 (q:=mv) (k:=?_);refine cO 17 rfl rfl aa rfl (df (cV rfl rfl 3 rfl a8)) ?_;refine cO 18 rfl rfl aa rfl (df (dS rfl bA bA d hd)) ?_;refine cO 19 rfl rfl aa rfl (df ((au))) ?_;refine cO 20 rfl rfl aa rfl (df (gm 4294967296 rfl rfl rfl rfl _ 24 rfl rfl)) ?_;refine cO 21 rfl rfl aa rfl (df (fI 4294967296 rfl rfl rfl rfl _ _ rfl rfl aj aj)) ?_;rw[EZ a8 g];refine gR ?_;exact⟨_,cH.refl,by rw[zf ha e i hd,show a+256*b+65536*c+16777216*d=a+b*256+c*65536+d*16777216 from a8];all_goals rfl,rfl⟩
def kG (l:List Nat):Option (Nat×Nat):=
 match l with
 | []=>none
 |tag::_=>if tag=0 then none else
  match j4 0 ((l.take (min l.length 11)).drop 1)with
  | .error _=>none
  | .ok (n,m)=>if l.length-(1+m)<4∨l.length-(1+m)-4<n then none else
   if kz (l.drop (1+m+n))=rp (l.take (1+m+n))then some (1+m,1+m+n)else none
theorem OA [hg:Glb G H] [Tab H 43 md] [Sl H s eB xs] (hn:xs.length≤1000000000000) (c:∀x∈xs,x<256):SC G prog 247 [s.val] H (λv i=>
 (kG xs=none∧i=H∧∃e,v=.tuple #[.int .i64 0,.int .i64 0,.int .i64 0,G.err e])∨(∃f t,kG xs=some (f,t)∧f≤t∧t+4≤xs.length∧i=H∧v=.tuple #[iN f,iN t,iN (t+4),.nilIface])):=by
 refine sWk func247 ?_;refine ws_ (wr_ (e_ asn (e_ asn (e_ asn (e_ asn (on_ (qn_ (ws_ (ws_ (wr_ (e_ mv (e_ lnn (e_ ieq ?_)))))))))))));refine on_ (qn_ (wi_ (k:=λh1=>?_) (m:=λh1=>?_)))
 ·obtain rfl:xs= []:=List.length_eq_zero_iff.1 a8;refine ws_ ?_;refine cZ cN (gR ?_);exact⟨_,hsb,.inl ⟨rfl,rfl,_,rfl⟩⟩
 obtain⟨x,r,hx⟩:∃x r,xs=x::r:=by
  cases xs with
  |nil=>simp at h1
  |cons x r=>exact⟨x,r,rfl⟩
 have a:xs[0]? =some x:=by rw[hx];all_goals rfl
 have hxb:=c x (Yj a);refine wk_ (qn_ (ws_ (ws_ (wr_ (e_ mv ?_)))));refine e_ (cV rfl rfl 0 rfl a8) ?_;refine e_ (dS rfl bA bA x a) ?_;refine gW (λh2=>?_) λh2=>?_
 ·obtain rfl:x=0:=by omega
  have e:kG xs=none:=by rw[hx,kG,if_pos rfl]
  refine ws_ ?_;refine cZ cN (gR ?_);exact⟨_,hsb,.inl ⟨e,rfl,_,rfl⟩⟩
 have a:¬x=0:=a8;refine wk_ (qn_ (ws_ (wr_ (e_ mv (e_ mv (e_ lnn ?_))))));refine e_ (lr rfl rfl) ?_;refine mC H rfl (1) (min xs.length 11) ⟨_,_,rfl,(aQ)⟩ ⟨_,_,rfl,(aQ)⟩ a8 aY rfl (λs1 i1=>?_);refine c1_ rfl (jB aR) ?_;rintro _ _ ⟨b1,rfl,rfl⟩;refine go ?_;refine c1_ rfl (nt (Yl _) aR (λy hy=>c y (Yq (Yp hy)))) ?_;rintro v1 H1 h;rw[Vi]at h;rcases h with⟨e,he,rfl,rfl⟩|⟨n,m,he,rfl,rfl⟩
 ·have b:kG xs=none:=by rw[hx,kG,if_neg a,←hx,he]
  refine e_ mv (e_ exr (e_ exr (e_ asn (e_ asn (on_ (qn_ (ws_ (ws_ (wr_ (e_ mv ?_))))))))));refine e_ (de rfl) ?_;refine gk (k:=ift (k:=go ?_));refine rT (k:=?_);exact⟨_,hsb,.inl ⟨b,rfl,_,rfl⟩⟩
 obtain⟨p1,p2,p3,j,p5,p6⟩:=ki _ 0 n m (λy hy=>c y (Yq (Yp hy))) a8 he;rw[Yo,Yg]at j;have b:kG xs=if xs.length-(1+m)<4∨xs.length-(1+m)-4<n then none else if kz (xs.drop (1+m+n))=rp (xs.take (1+m+n))then some (1+m,1+m+n)else none:=by rw[hx,kG,if_neg a,←hx,he]
 refine e_ mv (e_ exr (e_ exr (e_ asn (e_ asn (on_ (qn_ (ws_ (ws_ (wr_ (e_ mv ?_))))))))));refine e_ (cK rfl) ?_;refine gk (k:=iff_ (k:=go ?_));refine d1_ rfl sM ?_;refine e_ (rN rfl rfl (((1+m:Nat)):Int) (by rw[IntKind.wrap_i64];omega)) ?_;refine e_ asn (on_ (qn_ (ws_ (ws_ (wr_ (e_ mv (e_ lnn (e_ mv (e_ isb (e_ asn (on_ (qn_ (ws_ ?_)))))))))))));refine wr_ (e_ mv (e_ ilt (sp_ mv (k:=λh3=>?_) (m:=λh3=>?_))))
 ·refine gk (k:=ift (k:=ws_ ?_));refine cZ cN (gR ?_);exact⟨_,hsb,.inl ⟨by rw[b,if_pos a8],rfl,_,rfl⟩⟩
 refine go ?_;refine eg_ (cR 18446744073709551616 rfl rfl rfl (xs.length-(1+m)-4) a8 a8) ?_;refine gW (λh4=>?_) λh4=>?_
 ·refine ws_ ?_;refine cZ cN (gR ?_);exact⟨_,hsb,.inl ⟨by rw[b,if_pos a8],rfl,_,rfl⟩⟩
 refine wk_ (qn_ (ws_ (wr_ ?_)));rw[if_neg a8]at b;refine e_ mv (e_ mv ?_);refine e_ (dL rfl a8) ?_;refine e_ (rN rfl rfl (((1+m+n:Nat)):Int) (by rw[IntKind.wrap_i64];omega)) (go ?_);refine cZ cN ?_;have g:Sl H (s.cut 1 (1+m+n) xs.length) eB ((xs.take xs.length).drop (1+m+n)):=Sl.cut (e:=eB) inferInstance a8 a8;rw[Xk]at g;have d:Sl H (s.cut 1 0 (1+m+n)) eB ((xs.take (1+m+n)).drop 0):=Sl.cut (e:=eB) inferInstance a8 a8;rw[Vi]at d;refine as_ 0 (q:=mv) (k:=as_ 1 (q:=mv) (k:=?_));refine cO 2 rfl rfl aa rfl (df (fA rfl bA (1+m+n) xs.length ⟨_,_,rfl,rfl⟩ rfl a8 a8)) ?_;refine cO 3 rfl rfl aa rfl (gi (vs:= [_]) rfl (Dy bj (λy hy=>c y (Yp hy)))) ?_;refine as_ 4 (q:=mv) (k:=as_ 5 (q:=mv) (k:=?_));refine cO 6 rfl rfl aa rfl (df (fA rfl bA 0 (1+m+n) rfl ⟨_,_,rfl,rfl⟩ a8 a8)) ?_;refine cO 7 rfl rfl aa rfl (gi (vs:= [_]) rfl (JC ar (λy hy=>c y (Yq hy)))) ?_;refine gW (λl=>?_) λl=>?_
 ·rw[if_neg a8]at b;refine ws_ ?_;refine cZ cN (gR ?_);exact⟨_,hsb,.inl ⟨b,rfl,_,rfl⟩⟩
 rw[if_pos a8]at b;refine go ?_;refine gR ?_;exact⟨_,hsb,.inr ⟨_,_,b,a8,a8,rfl,rfl⟩⟩
end
theorem IW {G:cJ}{H:cG}{s:SV}{xs:List Nat} [hg:Glb G H] [Tab H 43 md] [hs:Sl H s eB xs] (h:xs.length≤1000000000000) (i:∀x∈xs,x<256):SC G prog 167 [s.val] H (λv d=>
 (kG xs=none∧d=H∧∃e,v=.tuple #[.agg #[.int .u8 0,.slice none 0 0],.int .i64 0,G.err e])∨(∃f t x,∃c:SV,kG xs=some (f,t)∧f≤t∧t+4≤xs.length∧xs[0]? =some x∧v=.tuple #[.agg #[.int .u8 ((x:Nat):Int),c.val],iN (t+4),.nilIface]∧d=Row c eB ((xs.take t).drop f)::H)):=by
 refine sWk func167 ?_;refine ws_ (wr_ (alc (k:=λb1=>?_)));refine e_ asn (e_ asn (on_ (qn_ (ws_ (wr_ (e_ mv ?_))))));refine c1_ rfl (OA h i) ?_;rintro v1 H1 j;rcases j with⟨he,rfl,e,rfl⟩|⟨f,q,he,b,a,rfl,rfl⟩
 ·refine e_ mv (e_ exr (e_ exr (e_ exr (e_ exr (e_ asn (e_ asn (e_ asn (e_ asn (on_ (qn_ (ws_ (ws_ (wr_ ?_)))))))))))));refine e_ mv ?_;refine e_ (de rfl) ?_;refine on_ (qn_ (ift (k:=ws_ (wr_ (e_ (bld []) (e_ mv (sto (k:=e_ asn (e_ asn (on_ (qn_ (wt_ (qr_ ?_)))))))))))));refine rT (k:=?_);exact⟨_,hsb,.inl ⟨he,rfl,e,rfl⟩⟩
 obtain⟨x,hx⟩:=gE xs 0;have hc:Sl H (s.cut 1 f q) eB ((xs.take q).drop f):=Sl.cut (e:=eB) hs a8 a8;refine e_ mv (e_ exr (e_ exr (e_ exr (e_ exr (e_ asn (e_ asn (e_ asn (e_ asn (on_ (qn_ (ws_ (ws_ (wr_ ?_)))))))))))));refine e_ mv ?_;refine e_ (cK rfl) ?_;refine on_ (qn_ (iff_ (k:=wk_ (qn_ (ws_ ?_)))));refine wD [7,8,11] (λk H=>(k=1→Sl H s eB xs)∧(k=2→Sl H s eB xs)∧(k=6→Sl H s eB xs)) (aF 0 (k:=?_));refine aN 1 rfl (λH hH=>by have hN:=hH.1 rfl;exact cV rfl rfl 0 rfl a8) ?_;refine aN 2 rfl (λH hH=>by have hN:=hH.2.1 rfl;exact dS rfl bA bA x hx) ?_;refine aF 3 (k:=aF 4 (k:=aF 5 (k:=?_)));refine aN 6 rfl (λH hH=>by have hN:=hH.2.2 rfl;exact fA rfl bA f q ⟨_,_,rfl,rfl⟩ ⟨_,_,rfl,rfl⟩ a8 a8) ?_;refine aF 10 (k:=?_);refine aS 7 rfl (eC eSV rfl rfl) ?_;rintro _ _ ⟨s1,rfl,rfl⟩;refine aS 8 rfl (v1_ (rQ (s:=s.cut 1 f q) aR)) ?_;rintro _ _ ⟨g,rfl,rfl⟩;refine af_ 9 (q:=cU λH hH=>bld [(0,_),(1,_)]) (k:=?_);refine aS 11 rfl (db rfl rfl rfl) ?_;rintro _ _ ⟨rfl,rfl⟩;refine aF 12 (k:=aF 13 (k:=aZ (qn_ (wt_ (rT (k:=?_))))));exact⟨_,hsb,.inr ⟨f,q,x,g,he,b,a,hx,rfl,rfl⟩⟩
theorem KC {G:cJ}{H:cG}{q:ByteArray}(hq:q.size≤1000000000):SC G prog 230 [.string q] H (λv x=>Hb (g8 (cF q)) v∧x=H):=by
 obtain⟨u,r⟩:=ex (oT q ⟨#[45]⟩);have hub:cF u=bif jr (cF q) [45]then(cF q).drop 1 else cF q:=by rw[r];exact yF q _ rfl
 have d:=cI u;have huz:u.size≤q.size:=by
  have hl:=cI q;rw[←d,hub];cases jr (cF q) [45] <;> simp only[cond_true,cond_false,Yo] <;> omega
 have b:g8 (cF q)=bif decide (cF u= [])then none else match gz (cF u) 0 with
  |none=>none
  |some v=>bif jr (cF q) [45]then some v else bif decide (v= -9223372036854775808)then none else some (-v):=by
  rw[g8,←hub];all_goals (cases gz (cF u) 0 <;> rfl)
 refine sWk func230 ?_;refine go ?_;refine d2_ rfl (Dc a8 ae) ?_;rw[←r];refine gk (k:=e_ np (go ?_));refine wi_ (k:=λh1=>?_) (m:=λh1=>?_)
 ·have hN:g8 (cF q)=none:=by rw[b,Ys (show cF u= []from h1)];all_goals rfl
  refine gR ?_;refine⟨_,hsb,?_,rfl⟩;rw[hN];exact rfl
 rw[Yr (show ¬cF u= []from h1)]at b;simp only[cond_false]at b;refine go ?_;refine gk (k:=wl2_ (Nat×Int) (λy=>y.1≤u.size∧gz (cF u) 0=gz ((cF u).drop y.1) y.2∧ -9223372036854775808≤y.2∧y.2≤0) (λy=>[(6,.int .i64 y.2),(18,iN y.1)]) [(4,_),(5,_),(17,_)] (λy=>[]) _ (λy=>u.size-y.1) ((0,0)) (h0:=?_) (k:=?_))
 ·exact⟨Yl _,rfl,ae,ae⟩
 rintro⟨i,a⟩ ⟨hi,hth,f,n⟩
 try dsimp only[Yd,Ye]at*
 refine gW (λh2=>?_) λh2=>?_
 ·have hd:=re (w:=cF u) (i:=i) a8 a;refine go ?_;refine gk (k:=dz 5 30 (k:=λh3=>gk (k:=edq)) (q:=gW (λh4=>?_) (λh4=>?_)))
  ·have hN:g8 (cF q)=none:=by
    rw[b,hth,hd,show(decide (48≤at0 (cF u) i)&&decide (at0 (cF u) i≤57))=false by simp only[Vo,Xx];omega];all_goals rfl
   refine gR ?_;refine⟨_,hsb,?_,rfl⟩;rw[hN];exact rfl
  have c:48≤at0 (cF u) i∧at0 (cF u) i≤57:=a8;have e:=DQ n f c;refine wk_ (qn_ (ws_ (wr_ (e_ mv (e_ mv (e_ ixs ?_))))));refine e_ (iV 256 rfl rfl rfl rfl _ 48 rfl rfl a8 a8) ?_;refine e_ (dL rfl a8) ?_;refine e_ asn (on_ (qn_ (ws_ (ws_ (wr_ (e_ mv (e_ mv (e_ iad ?_))))))));refine e_ (J1 rfl rfl ae a8) ?_;refine gW (λt=>?_) λt=>?_
  ·have hN:g8 (cF q)=none:=by
    rw[b,hth,hd,Ys (e.1 a8)];simp
   refine gR ?_;refine⟨_,hsb,?_,rfl⟩;rw[hN];exact rfl
  have g:¬(10*a-((at0 (cF u) i-48:Nat):Int)< -9223372036854775808):=λh=>by have h2:=e.2 h;omega
  have l:gz ((cF u).drop i) a=gz ((cF u).drop (i+1)) (10*a-((at0 (cF u) i-48:Nat):Int)):=by
   rw[hd,Ys c.1,Ys c.2,Yr g];all_goals rfl
  refine go ?_;refine lN ((i+1,10*a-((at0 (cF u) i-48:Nat):Int))) ?_
  try dsimp only
  exact⟨a8,by rw[hth,l],a8,a8⟩
 have s:gz (cF u) 0=some a:=by
  obtain rfl:i=u.size:=a8;rw[hth,←d,X4];all_goals rfl
 rw[s]at b;simp only at b;refine gW (λh6=>?_) λh6=>?_
 ·rw[show jr (cF q) [45]=true from h6]at b;refine gR ?_;refine⟨_,hsb,?_,rfl⟩;rw[b];exact⟨rfl,f,a8⟩
 rw[show jr (cF q) [45]=false from h6]at b;simp only[cond_false]at b;refine gW (λp=>?_) λp=>?_
 ·rw[Ys (show a= -9223372036854775808 from p)]at b;refine gR ?_;refine⟨_,hsb,?_,rfl⟩;rw[b];exact rfl
 have j:=p;rw[Yr (show ¬a= -9223372036854775808 from j)]at b;refine wk_ (qn_ (ws_ (wr_ (e_ mv ?_))));refine e_ (Gk rfl a8) ?_;refine gR ?_;refine⟨_,hsb,?_,rfl⟩;rw[b];exact⟨rfl,a8,a8⟩
theorem OI (w:List Nat):jr w [45]=true↔0<w.length∧at0 w 0=45:=by
 cases w with
 |nil=>simp[jr]
 |cons a l=>simp[jr,at0]
theorem Lx {G:cJ}{H:cG}{q:ByteArray}(hq:q.size≤1000000000):SC G prog 51 [.string q] H (λv M=>Hb (g8 (cF q)) v∧M=H):=by
 have hl:=cI q;have t:=OI (cF q);obtain⟨u,r⟩:=ex (bif jr (cF q) [45]then q.extract 1 q.size else q);have hub:cF u=bif jr (cF q) [45]then(cF q).drop 1 else cF q:=by
  rw[r];cases jr (cF q) [45]with
  |false=>rfl
  |true=>simp only[cond_true];rw[gr,←hl,Xk]
 have c:=cI u;have huz:u.size≤q.size:=by
  rw[←c,hub];cases jr (cF q) [45] <;> simp only[cond_true,cond_false,Yo] <;> omega
 have b:g8 (cF q)=bif decide (cF u= [])then none else match gz (cF u) 0 with
  |none=>none
  |some v=>bif jr (cF q) [45]then some v else bif decide (v= -9223372036854775808)then none else some (-v):=by
  rw[g8,←hub];all_goals (cases gz (cF u) 0 <;> rfl)
 refine sWk func51 ?_;refine gk (k:=cQ 4 18 (k:=λh1=>gk (k:=edq)) (q:=?_));refine e_ (asv (v:=.bool (jr (cF q) [45])) rfl (vb (by rw[t];simp only[Xu,Xs];omega))) ?_;refine on_ (qn_ (ws_ (wr_ (e_ mv (e_ asn (on_ (qn_ (mf [(5,.string u)] [5,20,21,22] ?_ ?_))))))))
 ·refine gW (λh2=>?_) λh2=>?_
  ·rw[show jr (cF q) [45]=true from h2]at r;obtain rfl:u=q.extract 1 q.size:=r;have hq0:=t.1 h2;refine wr_ (e_ mv (e_ (zw (a:=1)) (gk (k:=jne))))
  rw[show jr (cF q) [45]=false from h2]at r;obtain rfl:u=q:=r;refine gk (k:=jne)
 refine gW (λh3=>?_) λh3=>?_
 ·have hN:g8 (cF q)=none:=by rw[b,Ys (show cF u= []from Vb a8)];all_goals rfl
  refine gR ?_;refine⟨_,hsb,?_,rfl⟩;rw[hN];exact rfl
 rw[Yr (show ¬cF u= []from λh=>by rw[h]at c;simp at c;omega)]at b;simp only[cond_false]at b;refine go ?_;refine gk (k:=wl2_ (Nat×Int×Bool) (λy=>y.1≤u.size∧(y.2.2=true→gz (cF u) 0=gz ((cF u).drop y.1) y.2.1)∧(y.2.2=false→gz (cF u) 0=none)∧ -9223372036854775808≤y.2.1∧y.2.1≤0) (λy=>[(6,.int .i64 y.2.1),(7,.bool y.2.2),(8,iN y.1)]) [(4,_),(5,_)] (λy=>[]) _ (λy=>u.size-y.1) ((0,0,true)) (h0:=?_) (k:=?_))
 ·exact⟨Yl _,λ_=>rfl,λh=>(aU),ae,ae⟩
 rintro⟨i,a,f⟩ ⟨hi,hth,d,F,E⟩
 try dsimp only[Yd,Ye]at*
 refine gW (λh4=>?_) λh4=>?_
 ·have hd:=re (w:=cF u) (i:=i) a8 a;refine go ?_;refine gk (k:=dz 3 40 (k:=λh5=>gk (k:=edq)) (q:=gW (λh6=>?_) (λh6=>?_)))
  ·have hN:g8 (cF q)=none:=by
    cases f with
    |false=>rw[b,d rfl]
    |true=>rw[b,hth rfl,hd,show(decide (48≤at0 (cF u) i)&&decide (at0 (cF u) i≤57))=false by simp only[Vo,Xx];omega];all_goals rfl
   refine gR ?_;refine⟨_,hsb,?_,rfl⟩;rw[hN];exact rfl
  have s:48≤at0 (cF u) i∧at0 (cF u) i≤57:=a8;refine wk_ (qn_ (ws_ (wr_ (e_ mv ?_))));refine e_ (iV 256 rfl rfl rfl rfl _ 48 rfl rfl a8 a8) ?_;refine e_ (dL rfl a8) ?_;refine gk (k:=dz 3 49 (k:=λh7=>gk (k:=edq)) (q:=gk (k:=dz 6 56 (k:=λh8=>gk (k:=edq)) (q:=go ?_))));refine wi_ (k:=λh9=>?_) (m:=λh9=>?_)
  ·have l:=h9;have z:gz (cF u) 0=none:=by
    cases f with
    |false=>exact d rfl
    |true=>
     have h3:10*a-((at0 (cF u) i-48:Nat):Int)< -9223372036854775808:=by
      simp at l;omega
     rw[hth rfl,hd,Ys h3];simp
   refine go ?_;refine lN ((i+1,a,false)) ?_
   exact⟨a8,λh=>(aU),λ_=>z,F,E⟩
  obtain⟨⟨l,hz1⟩,hz2⟩:=h9;have x:¬(10*a-((at0 (cF u) i-48:Nat):Int)< -9223372036854775808):=a8;have C:gz ((cF u).drop i) a=gz ((cF u).drop (i+1)) (10*a-((at0 (cF u) i-48:Nat):Int)):=by
   rw[hd,Ys s.1,Ys s.2,Yr x];all_goals rfl
  have hf2:f=true:=by simpa using l
  refine go ?_;refine lN ((i+1,10*a-((at0 (cF u) i-48:Nat):Int),f)) ?_
  try dsimp only
  exact⟨a8,λh=>by rw[hth h,C],d,a8,a8⟩
 have J:f=true→gz (cF u) 0=some a:=λl=>by
  obtain rfl:i=u.size:=a8;rw[hth l,←c,X4];all_goals rfl
 refine gk (k:=dz 7 70 (k:=λh10=>gk (k:=cQ 3 69 (k:=λh11=>gk (k:=edq)) (q:=gk (k:=edq)))) (q:=go ?_));refine wi_ (k:=λp=>?_) (m:=λp=>?_)
 ·have g:=p;have hN:g8 (cF q)=none:=by
   cases f with
   |false=>rw[b,d rfl]
   |true=>
    rw[b,J rfl];simp at g;obtain⟨L,K⟩:=g;simp only[L,cond_false];rw[Ys (show a= -9223372036854775808 from K)];all_goals rfl
  refine gR ?_;refine⟨_,hsb,?_,rfl⟩;rw[hN];exact rfl
 have j:=p;obtain⟨l,B⟩:=j;rw[J l]at b;dsimp only at b;refine gW (λn=>?_) λn=>?_
 ·have hm:=n;have e:jr (cF q) [45]=false:=by simpa using hm
  have A:¬a= -9223372036854775808:=B.resolve_left (by rw[e];decide);rw[e,Yr A]at b;refine wr_ (e_ mv ?_);refine e_ (Gk rfl a8) ?_;refine gR ?_;exact⟨_,hsb,by rw[b];exact⟨rfl,a8,a8⟩,rfl⟩
 have hm:=n;have e:jr (cF q) [45]=true:=by simpa using hm
 rw[e]at b;refine gR ?_;exact⟨_,hsb,by rw[b];exact⟨rfl,a8,a8⟩,rfl⟩
end Go.Sx
