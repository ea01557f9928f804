import Derived.Test.YtjhdcheijnegnaaGreatDoorQ22
set_option linter.all false
set_option maxHeartbeats 0
namespace Go.Sx
open Go Go.Proofs
set_option maxRecDepth 100000
def eSk:Enc (Nat×Nat×Nat×Nat):=⟨λp=>[.int .i64 ((p.1:Nat):Int),.int .i64 ((p.2.1:Nat):Int),.int .i64 ((p.2.2.1:Nat):Int),.int .i64 ((p.2.2.2:Nat):Int)],4,true,λ_=>rfl,λp v h=>by simp at h;rcases h with rfl|rfl|rfl|rfl <;> rfl,ae,λh=>aI,ae⟩
instance {p:Nat×Nat×Nat×Nat}:kX eSk p (.agg [.int .i64 ((p.1:Nat):Int),.int .i64 ((p.2.1:Nat):Int),.int .i64 ((p.2.2.1:Nat):Int),.int .i64 ((p.2.2.2:Nat):Int)].toArray):=⟨rfl⟩
abbrev um:=ByteArray×Nat×Nat
def ltS (a b:um):Prop:=cF a.1<cF b.1∨cF a.1=cF b.1∧(a.2.1<b.2.1∨a.2.1=b.2.1∧a.2.2<b.2.2)
section
variable {a b:um}
def leS (a b:um):Prop:=¬ltS b a
theorem Fs {c:um}(h:ltS a b) (d:ltS b c):ltS a c:=by
 rcases h with h|⟨h1,h2⟩
 ·rcases d with d|⟨h3,_⟩
  ·exact .inl (Fq h d)
  ·exact .inl (h3 ▸ h)
 ·rcases d with d|⟨h3,h4⟩
  ·exact .inl (h1 ▸ d)
  ·exact .inr ⟨h1.trans h3,by rcases h2 with h2|h2 <;> rcases h4 with h4|h4 <;> omega⟩
theorem Ft (h:ltS a b):leS a b:=λc=>by
 have h9:=Fs h c;rcases h9 with h9|⟨_,h9⟩
 ·exact oK _ h9
 ·omega
theorem FC {c:um}(h:leS a b) (g:leS b c):leS a c:=λd=>by
 by_cases hab:ltS a b
 ·exact g (Fs d hab)
 ·
  have e:cF a.1=cF b.1:=by
   by_cases e:cF a.1=cF b.1
   ·exact e
   ·by_cases l:cF a.1<cF b.1
    ·exact absurd (.inl l) hab
    ·exact absurd (.inl (wa l e)) h
  have j:a.2=b.2:=by
   have h1:¬(a.2.1<b.2.1∨a.2.1=b.2.1∧a.2.2<b.2.2):=λf=>hab (.inr ⟨e,f⟩);have h2:¬(b.2.1<a.2.1∨b.2.1=a.2.1∧b.2.2<a.2.2):=λf=>h (.inr ⟨e.symm,f⟩);exact Prod.ext a8 a8
  have i:a=b:=Prod.ext (iw.1 e) j;rw[i]at d;exact g d
structure Dt (l out av bv:List um):Prop where
 perm:(out++(av++bv)).Perm l
 up:out.Pairwise leS
 low:∀x∈out,∀y∈av++bv,leS x y
 ua:av.Pairwise leS
 ub:bv.Pairwise leS
theorem Dt.left {l out e c:List um}(h:Dt l out (a::e) c) (f:∀b,c.head? =some b→ltS a b):Dt l (out++ [a]) e c:=by
 obtain⟨h1,h2⟩:=Uk.1 h.ua;have d:∀y∈c,leS a y:=by
  intro y hy;cases c with
  |nil=>simp at hy
  |cons b c=>
   have h3:=Ft (f b rfl);rcases Xr.1 hy with rfl|hy
   ·exact h3
   ·exact FC h3 ((Uk.1 h.ub).1 y hy)
 refine⟨by simpa using h.perm,T1.2 ⟨h.up,List.pairwise_singleton ..,λx hx y hy=>?_⟩,λx hx y hy=>?_,h2,h.ub⟩
 ·simp at hy;subst hy;exact h.low x hx y ak
 ·rcases Xl.1 hx with hx|hx
  ·exact h.low x hx y (by rcases Xl.1 hy with hy|hy <;> simp[hy])
  ·simp at hx;subst hx;rcases Xl.1 hy with hy|hy
   ·exact h1 y hy
   ·exact d y hy
theorem Dt.right {l out c e:List um}(h:Dt l out c (b::e)) (ha:∀a,c.head? =some a→leS b a):Dt l (out++ [b]) c e:=by
 obtain⟨h1,h2⟩:=Uk.1 h.ub;have d:∀y∈c,leS b y:=by
  intro y hy;cases c with
  |nil=>simp at hy
  |cons a c=>
   have h3:=ha a rfl;rcases Xr.1 hy with rfl|hy
   ·exact h3
   ·exact FC h3 ((Uk.1 h.ua).1 y hy)
 refine⟨?_,T1.2 ⟨h.up,List.pairwise_singleton ..,λx hx y hy=>?_⟩,λx hx y hy=>?_,h.ua,h2⟩
 ·refine List.Perm.trans ?_ h.perm;rw[Yf];exact List.Perm.append_left _ (by simpa using (List.perm_middle (a:=b) (l₁:=c) (l₂:=e)).symm)
 ·simp at hy;subst hy;exact h.low x hx y ak
 ·rcases Xl.1 hx with hx|hx
  ·exact h.low x hx y (by rcases Xl.1 hy with hy|hy <;> simp[hy])
  ·simp at hx;subst hx;rcases Xl.1 hy with hy|hy
   ·exact d y hy
   ·exact h1 y hy
end
open Tryz
section
variable {G:cJ}{n:Nat}{xs:List Nat}{zs:List PG}
theorem DY {H R:cG}{b k m:Nat} [hg:Glb G R] [hr:Rem H Rd b (xs,k) R] (hk:k≤xs.length) (c:xs.length≤1000000000000) (d:∀x∈xs,x<256) (h:j4 0 (xs.drop k)=.ok (n,m)):SC G prog 165 [pA b] H (λv a=>v=.tuple #[uN n,.nilIface]∧a=Rd b (xs,k+m)::R):=
 SC.mono (nt hk c d) λv a h2=>by
  rcases h2 with⟨e,h3,_⟩|⟨n',m',h3,h4,f⟩
  ·rw[h]at h3;cases h3
  ·rw[h]at h3;cases h3;exact⟨h4,f⟩
theorem HT {H R:cG}{b k:Nat} [hg:Glb G R] [hr:Rem H Rd b (xs,k) R] (hk:k=xs.length):SC G prog 169 [pA b] H (λv c=>v=.nilIface∧c=Rd b (xs,k)::R):=
 SC.mono (pn (Nat.le_of_eq hk)) λv c h2=>by
  obtain⟨h3,h4⟩:=h2;rcases h4 with⟨a,_⟩|⟨_,a⟩
  ·omega
  ·exact⟨a,h3⟩
theorem vY {v:Nat}(r:List Nat) (h:v<18446744073709551616):j4 0 (uv v++r)=.ok (v,(uv v).length):=B0 v 0 r ae a8 a8
theorem uy:∀(l:List Nat) (nb m:Nat),∃r,fD nb l=fD nb (l.take m)++r
 | [],nb,m=>⟨[],by simp[fD]⟩
 |x::l,nb,0=>⟨fD nb (x::l),by simp[fD]⟩
 |x::l,nb,m+1=>by
  obtain⟨r,h⟩:=uy l (x+1) m;exact⟨r,by rw[Vj,fD,fD,h,Yf]⟩
theorem DV {l:List Nat}{nb j x:Nat}(h:l[j]? =some x):∃r,fD nb l=fD nb (l.take j)++(uv (x-(if j=0 then nb else l.getD (j-1) 0+1))++r):=by
 obtain⟨r,hr⟩:=uy l nb (j+1);exact⟨r,by rw[hr,mh h,Yf]⟩
theorem su:∀(l:List Nat) (nb:Nat),l.length≤(fD nb l).length
 | [],_=>Xj _
 |x::l,nb=>by
  have:=su l (x+1);have:=oC (x-nb);simp only[fD,Ya,Yb];omega
theorem C6 {l:List Po}{i:Nat}{p:Po}(h:l[i]? =some p):ep l=ep (l.take i)++(fD 0 p.2++ep (l.drop (i+1))):=by
 have e:l=l.take i++p::l.drop (i+1):=by rw[←fE h,Xv]
 conv=>lhs;rw[e]
 simp[ep]
def jx (zs:List PG) (n:Nat):List (Nat×SV):=zs.map pgV++List.replicate (n-zs.length) (0,SV.nil)
theorem qH (h:zs.length≤n):(jx zs n).length=n:=by simp[jx];omega
theorem CZ (z:PG) (h:zs.length<n):(jx zs n).set zs.length (z.d,z.s)=jx (zs++ [z]) n:=by
 obtain⟨m,hm⟩:∃m,n-zs.length=m+1:=⟨n-zs.length-1,a8⟩;have h2:n-(zs.length+1)=m:=a8;simp only[jx,Ya,V9,h2,hm,Va,Xn,Ul,Uy];rw[U8 _ _ ak,Yh,Vw];simp[pgV]
theorem D0 (z:PG):(jx (zs++ [z]) n)[zs.length]? =some (z.d,z.s):=by
 rw[jx,Va,Yf,Yu ak,Yh,Vw];simp[pgV]
theorem D1 (zs:List PG):jx zs zs.length=zs.map pgV:=by simp[jx]
theorem AI {G:cJ}{H:cG}{s:SV}{nb:Nat}{l:List Po} [hg:Glb G H] [hs:Sl H s eB (kc nb l)] (hok:gJ nb l) (hsm:eG l) (hn:l.length≤16) (hnb:nb≤1000001):
 SC G prog 184 [s.val,.int .i64 (((nb:Nat):Int)-1),iN l.length] H (λv H'=>∃(sl:SV) (zs:List PG),zs.map pgP=l∧v=.tuple #[sl.val,.bool true]∧H'=Row sl ePo (zs.map pgV)::Cl pgH zs::H):=by
 have hb:=BK (nb:=nb) hsm;have hbl:=pZ (nb:=nb) hsm;have htl:=vL hsm;obtain⟨xs,hxs⟩:=ex (kc nb l);have hs2:Sl H s eB xs:=by rw[hxs];exact hs
 clear hs;rw[←hxs]at hb hbl;have hgl:(cP (gL nb l)).length=l.length:=by rw[dJ,gb]
 have hfl:(cP (iM l)).length=l.length:=by rw[dJ,iM,Yh]
 have hg40:∀x∈gL nb l,x<1099511627776:=λx hx=>bf;have hf40:∀x∈iM l,x<1099511627776:=λx hx=>bR;obtain⟨A,hA⟩:=ex ((dN (gL nb l)).length);obtain⟨B,hB⟩:=ex ((dN (iM l)).length);have hd0:xs.drop 0=dN (gL nb l)++(dN (iM l)++ep l):=by rw[hxs,kc,Yf];all_goals rfl
 have hd1:xs.drop (0+A)=dN (iM l)++ep l:=by rw[←Vm,hd0,hA,Xy]
 have hd2:xs.drop (0+A+B)=ep l:=by rw[←Vm,hd1,hB,Xy]
 have hlen:xs.length=A+B+(ep l).length:=by rw[hxs,kc,Ya,Ya,hA,hB]
 refine sWk func184 ?_;refine go ?_;refine c1_ rfl (jB (xs:=xs) (a8)) (k:=?_);rintro _ _ ⟨br,rfl,rfl⟩;refine go ?_;refine c2_ rfl (B4 (most:=16) (a8) hb hd0 (bX) (a8) hg40) (k:=?_);rintro _ _ ⟨sd,rfl,rfl⟩;rw[←hA];refine e_ mv (k:=e_ exr (k:=e_ exr (k:=e_ asn (k:=e_ asn (k:=on_ (qn_ (ws_ (ws_ (wr_ (e_ mv (k:=?_)))))))))));refine e_ (cK rfl) (k:=?_);refine gW (λh1=>?_) (λh1=>?_)
 ·exact absurd h1 (a8)
 refine go ?_;refine c2_ rfl (B4 (most:=16) (a8) hb hd1 (bK) (a8) hf40) (k:=?_);rintro _ _ ⟨sf,rfl,rfl⟩;rw[←hB];refine e_ mv (k:=e_ exr (k:=e_ exr (k:=e_ asn (k:=e_ asn (k:=on_ (qn_ (ws_ (ws_ (wr_ (e_ mv (k:=?_)))))))))));refine e_ (cK rfl) (k:=?_);refine gW (λh2=>?_) (λh2=>?_)
 ·exact absurd h2 (a8)
 refine go ?_;refine s_ (fq ePo (0,SV.nil) rfl rfl l.length l.length rfl rfl rfl (Xj _) (a8) (a8)) (k:=?_);rintro _ _ ⟨sl,rfl,hsln,hslc,rfl⟩;rw[show List.replicate l.length ((0,SV.nil):Nat×SV)=jx [] l.length from by simp[jx]];have hz0:=qH (zs:= []) (n:=l.length) (Yl _);refine eN (ja (f:=pgH) cH.refl) ?_;refine gk (k:=wl2_ (Nat×(List PG)×Nat) (λy=>y.1≤l.length∧y.2.1.map pgP=l.take y.1∧y.2.2=A+B+(ep (l.take y.1)).length) (λy=>[(1,.int .i64 (((dZ nb (l.take y.1):Nat):Int)-1)),(50,iN y.1)]) [(8,_),(9,_),(11,_),(12,_),(49,_)] (λy=>[Row sl ePo (jx y.2.1 l.length),Cl pgH y.2.1,Rd br (xs,y.2.2)]) _ (λy=>l.length-y.1) ((0, [],0+A+B)) (h0:=?_) (k:=?_))
 ·try dsimp only
  exact⟨Yl _,rfl,by simp[ep]⟩
 rintro⟨i,zs,K⟩ ⟨hi,hzp,hK⟩
 try dsimp only[Yd,Ye]at*
 have hzl:zs.length=i:=by have:=congrArg List.length hzp;rw[Yh,Yg]at this;omega
 have hfz:=qH (zs:=zs) (n:=l.length) (a8);refine gW (λh3=>?_) (λh3=>?_)
 ·obtain⟨p,hp⟩:=gE l i;obtain⟨hp1,hp2,hp3⟩:=hsm.2 p (Yj hp);obtain⟨hge,hpne,hpok⟩:=iQ hok hp;have hpp:0<p.2.length:=List.length_pos_iff.2 hpne;have hgi:(cP (gL nb l))[i]? =some ((p.1-dZ nb (l.take i):Nat):Int):=eu (qE hp);have hfi:(cP (iM l))[i]? =some ((p.2.length-1:Nat):Int):=eu (by rw[iM,Xd,hp];all_goals rfl);have hlt:=oM (nb:=nb) hp;have hta:=C6 hp;have htk:=qW hp;have htg:=su p.2 0;have htl2:=congrArg List.length hta;have htk2:=congrArg List.length htk;rw[Ya,Ya]at htl2;rw[Ya]at htk2;have hdK:xs.drop K=fD 0 p.2++ep (l.drop (i+1)):=by
   rw[hK,←Vm,show A+B=0+A+B from a8,hd2,hta,Xy]
  refine wk_ (qn_ (ws_ (wb_ (ws_ (wr_ (e_ mv (k:=?_)))))));refine mA br λs2=>?_;refine e_ asn (k:=on_ (qn_ (ws_ (ws_ (?_)))));refine cZ cN (as_ 0 (q:=mv) (k:=as_ 1 (q:=mv) (k:=as_ 2 (q:=ixa) (k:=as_ 3 (q:=lel (hy:=hgi)) (k:=as_ 4 (q:=mv) (k:=as_ 5 (q:=isb) (k:=as_ 6 (q:=isb) (k:=as_ 7 (q:=ige) (k:=?_)))))))));refine fU 8 rfl rfl (aa) rfl (df (mv)) (λh4=>?_) (λh4=>?_)
  ·replace h4:=nrm h4;exact absurd h4 (a8)
  replace h4:=nrm h4;refine at2 9 (q:=mv) (k:=at2 10 (q:=mv) (k:=at2 11 (q:=ixa) (k:=at2 12 (q:=lel (hy:=hfi)) (k:=at2 13 (q:=mv) (k:=at2 14 (q:=nck) (k:=at2 15 (q:=fla) (k:=?_)))))));refine fg 16 rfl rfl rfl rfl (aa) rfl (gi (vs:= [_]) rfl (left (k:=(K:Int)) (a8))) (?_);refine at2 17 (q:=ige) (k:=as_ 18 (q:=pkf) (k:=az_ (k:=qn_ (wi_ (k:=λh5=>?_) (m:=λh5=>?_)))))
  ·exact absurd h5 (a8)
  refine wk_ (qn_ (ws_ (wr_ (?_))));refine eN (H':=Rd br (xs,K)::Row sl ePo (jx zs l.length)::Cl pgH zs::Row sf eI (cP (iM l))::Row sd eI (cP (gL nb l))::H) (hsb) ?_;refine e_ mv (k:=e_ mv (k:=e_ mv (k:=e_ ixa (k:=e_ (lel (hy:=hgi)) (k:=e_ iad (k:=?_))))));refine e_ (evq iad (congrArg (Value.int .i64) (show _=(((dZ nb (l.take (i+1)):Nat):Int)-1)from a8))) (k:=?_);refine e_ asn (k:=on_ (qn_ (ws_ (wr_ (e_ mv (k:=e_ mv (k:=?_)))))));refine e_ (evq mv (congrArg (Value.int .i64) (show(((dZ nb (l.take (i+1)):Nat):Int)-1)=((p.1:Nat):Int)from a8))) (k:=?_);refine e_ mv (k:=e_ mv (k:=e_ ixa (k:=e_ (lel (hy:=hfi)) (k:=?_))));refine e_ (evq iad (congrArg (Value.int .i64) (show _=((p.2.length:Nat):Int)from a8))) (k:=?_);refine s_ (fq eI 0 rfl rfl p.2.length p.2.length rfl rfl rfl (Xj _) (a8) (a8)) (k:=?_);rintro _ _ ⟨sp,rfl,hspn,hspc,rfl⟩;rw[show List.replicate p.2.length (0:Int)=eV (cP p.2) 0 0 from by rw[kx,dJ]];refine e_ (bld [(0,_),(1,_)]) (k:=go ?_);refine s_ (dc (i:=i) rfl rfl rfl (a8)) (k:=?_);rintro _ _ ⟨rfl,rfl⟩;rw[show(jx zs l.length).set i (p.1,sp)=jx (zs++ [⟨p.1,sp,p.2⟩]) l.length from by rw[←hzl];exact CZ ⟨p.1,sp,p.2⟩ (a8)];have hgz:(jx (zs++ [⟨p.1,sp,p.2⟩]) l.length)[i]? =some (p.1,sp):=by rw[←hzl];exact D0 ⟨p.1,sp,p.2⟩
  have hfz1:=qH (zs:=zs++ [⟨p.1,sp,p.2⟩]) (n:=l.length) (by rw[Ya,V9];omega);refine on_ (qn_ (ws_ (wr_ (e_ asn (k:=on_ (qn_ (ws_ (wr_ (e_ mv (k:=e_ mv (k:=e_ ixa (k:=?_))))))))))));have hil:(cP p.2).length=p.2.length:=dJ _;have hfl0:=iT (full:=cP p.2) (z:=(0:Int)) (i:=0) (Yl _);refine e_ fle (k:=e_ (lfl (hy:=hgz)) (k:=gk (k:=wl2_ (Nat×Nat×Nat) (λy=>y.1≤p.2.length∧y.2.1=(if y.1=0 then 0 else p.2.getD (y.1-1) 0+1)∧y.2.2=K+(fD 0 (p.2.take y.1)).length) (λy=>[(14,.int .i64 (((y.2.1:Nat):Int)-1)),(96,iN y.1)]) [(1,_),(8,_),(9,_),(11,_),(12,_),(13,_),(49,_),(50,_),(95,_)] (λy=>[Row sp eI (eV (cP p.2) 0 y.1),Rd br (xs,y.2.2)]) _ (λy=>p.2.length-y.1) ((0,0,K)) (h0:=?_) (k:=?_))))
  ·try dsimp only
   exact⟨Yl _,rfl,by simp[fD]⟩
  rintro⟨j,q,K2⟩ ⟨hj,hq,hK2⟩
  try dsimp only[Yd,Ye]at*
  refine gW (λh6=>?_) (λh6=>?_)
  ·obtain⟨x,hx⟩:=gE p.2 j;have hxi:=eu hx;have hx40:=hp3 x (Yj hx);have hqx:=nU hpok hx;rw[←hq]at hqx;obtain⟨r,hr⟩:=DV (nb:=0) hx;rw[←hq]at hr;have htj:=mh (nb:=0) hx;rw[←hq]at htj;have htj2:=congrArg List.length htj;rw[Ya]at htj2;have hr2:=congrArg List.length hr;rw[Ya,Ya]at hr2;have hdj:xs.drop K2=uv (x-q)++(r++ep (l.drop (i+1))):=by
    rw[hK2,←Vm,hdK,hr,Yf,Xy,Yf]
   have hrd:=vY (v:=x-q) (r++ep (l.drop (i+1))) (a8);rw[←hdj]at hrd;have hfj:=iT (full:=cP p.2) (z:=(0:Int)) (i:=j) (a8);refine go ?_;refine d1_ rfl (DY (a8) (a8) hb hrd) (k:=e_ mv (k:=e_ exr (k:=e_ exr (k:=e_ asn (k:=e_ asn (k:=on_ (qn_ (ws_ (ws_ (wr_ (e_ mv (k:=?_))))))))))));refine e_ (cK rfl) (k:=?_);refine e_ mv (k:=eg_ mv (k:=eg_ ieq (k:=e_ pkf (k:=e_ mv (k:=dz 7 117 (k:=λh7=>eg_ mv (k:=eg_ mv (k:=eg_ (Bx rfl rfl) (k:=eg_ (evq (Bx rfl rfl) (congrArg (Value.int .i64) (show _=((9223372036854775807-q:Nat):Int)from cr))) (k:=eg_ ((ab)) (k:=eg_ igt (k:=e_ pkf (k:=on_ (edq))))))))) (q:=on_ (qn_ (wi_ (k:=λh8=>?_) (m:=λh8=>?_)))))))))
   ·exact absurd h8 (a8)
   refine wk_ (qn_ (ws_ (wr_ (e_ mv (k:=e_ mv (k:=?_))))));refine e_ (dL rfl (a8)) (k:=?_);refine e_ iad (k:=?_);refine e_ (evq iad (congrArg (Value.int .i64) (show _=(((x+1:Nat):Int)-1)from a8))) (k:=?_);refine e_ asn (k:=on_ (qn_ (wr_ (e_ mv (k:=e_ mv (k:=e_ ixa (k:=e_ fle (k:=e_ (lfl (hy:=hgz)) (k:=e_ mv (k:=?_))))))))));refine e_ (evq mv (congrArg (Value.int .i64) (show(((x+1:Nat):Int)-1)=((x:Nat):Int)from a8))) (k:=?_);refine go ?_;refine s_ (dc (s:=sp) (i:=j) rfl rfl rfl (a8)) (k:=?_);rintro _ _ ⟨rfl,rfl⟩;rw[lV hxi];refine go ?_;refine ln_ ((j+1,x+1,K2+(uv (x-q)).length)) (k:=?_)
   try dsimp only
   exact⟨a8,by rw[if_neg (a8),Uj,Xm,hx];all_goals rfl,a8⟩
  obtain rfl:j=p.2.length:=a8;rw[Xk]at hK2;rw[show eV (cP p.2) (0:Int) p.2.length=cP p.2 from by rw[←hil,kN]];refine we_ (qe_ (le_ (bh_ (bn_ (qn_ (wr_ (?_)))))));refine eN (H':=Cl pgH (zs++ [⟨p.1,sp,p.2⟩])::Rd br (xs,K2)::Row sl ePo (jx (zs++ [⟨p.1,sp,p.2⟩]) l.length)::Row sf eI (cP (iM l))::Row sd eI (cP (gL nb l))::H) (cH.trans (hsb) (w3 ⟨p.1,sp,p.2⟩)) ?_;refine go ?_;refine ln_ ((i+1,zs++ [⟨p.1,sp,p.2⟩],K2)) (k:=?_)
  try dsimp only
  exact⟨a8,by rw[Va,hzp,cL hp];all_goals rfl,a8⟩
 obtain rfl:i=l.length:=a8;rw[Xk]at hzp hK;rw[show jx zs l.length=zs.map pgV from by rw[←hzl,D1]];refine go ?_;refine wD [4] (λ_ _=>True) (go ?_);refine aS 4 rfl (dy (vs:= [_]) rfl (HT (a8))) ?_;rintro _ _ ⟨rfl,rfl⟩;refine qa (λ_=>trivial) (?_);refine cO 5 rfl rfl (aa) rfl (df ((by first|exact iu rfl|exact kQ rfl))) (?_);refine gR ?_;exact⟨_,hsb,sl,zs,hzp,rfl,rfl⟩
end
section
variable {G:cJ}{H:cG}{b i k:Nat}{α:Type}{e:Enc α}{l:List Po}{s sk:SV}{v1 v2:Value}{xs:List α}
def SV.cut3 (s:SV) (sz lo hi mx:Nat):SV:=⟨if mx=lo then s.a else s.a.map (·.add (lo*sz)),hi-lo,mx-lo⟩
theorem D3 {P:Program}{t:Tm}{dst:Option Tmp}{ty:TypeId}{pos:String}{after:Array Edge}{g:Option (Nat×Bool)}{T E:TypeId}{x lo hi a:Operand}{bb:Nat}{z:Value}(hx:evo t x=some s.val) [hT:Und P T (.slice E)] [hE:Inf P E e.sz bb z] [hs:Sl H s e xs] (l h m:Nat) (c:∃k j,evo t lo=some (.int k j)∧j=(l:Int)) (d:∃k j,evo t hi=some (.int k j)∧j=(h:Int)) (b:∃k j,evo t a=some (.int k j)∧j=(m:Int)) (h1:l≤h) (h2:h≤m) (h3:m≤xs.length):
 Ev G P ⟨dst,.slice T x (some lo) (some hi) (some a),ty,pos,after,g⟩ t H (s.cut3 e.sz l h m).val:=
 fun ρ hρ w hw=>by
  obtain⟨q1,q2,_⟩:=hs.get hw;obtain⟨q,j1,A,rfl⟩:=c;obtain⟨p,j2,v,rfl⟩:=d;obtain⟨n,j3,u,rfl⟩:=b;have f:∀(j:Nat) (k:IntKind) (y:Nat) (i:BoundsCode),j≤y→(Instr.sliceBound (.int k (j:Int)) y i).run P w=.ok j w:=by
   intro j k y i hj;have:(j:Int)≤(y:Int):=a8;simp[Instr.sliceBound,asIntOf,this]
  have r:(Instr.sliceBounds true s.n s.c (some (ρ lo)) (some (ρ hi)) (some (ρ a))).run P w=.ok (l,h,m) w:=by
   simp[Instr.sliceBounds,hρ _ _ A,hρ _ _ v,hρ _ _ u,f m n s.c _ a8,f h p m _ a8,f l q h _ a8]
  simp only[execOp,hρ _ _ hx,Instr.sliceAt,SV.val,Vd,Sem.run_bind,cS (T:=T),Result.andThen_ok];simp only[Instr.slice,Sem.run_bind,cS (T:=T),Result.andThen_ok,r,dA (T:=E) (s:=e.sz),Sem.run_pure];all_goals rfl
theorem Sl.cut3 (h:Sl H s e xs){lo hi:Nat}(h1:lo≤hi) (h2:hi≤xs.length):Sl H (s.cut3 e.sz lo hi hi) e ((xs.take hi).drop lo):=by
 have f:=Sl.cut h h1 h2;refine⟨λL hL=>?_⟩;obtain⟨a1,a2,a3⟩:=h.out L hL;obtain⟨b1,b2,k⟩:=f.out L hL;have a:((xs.take hi).drop lo).length=hi-lo:=aR;refine⟨by rw[a];all_goals rfl,by show hi-lo≤hi-lo;omega,?_⟩
 by_cases e0:hi=lo
 ·left;exact⟨Vb a8,by show hi-lo=0;omega⟩
 ·rcases k with⟨d,_⟩|⟨b,c,C,E,fz,d,j,i,g⟩
  ·rw[d]at a;simp at a;omega
  ·right;refine⟨b,c,C,E,fz,?_,j,?_,g⟩
   ·have:¬s.c=lo:=by omega
    simp only[SV.cut,if_neg this]at d;simp only[SV.cut3,if_neg e0];exact d
   ·have:(s.cut e.sz lo hi).c=s.c-lo:=rfl;rw[this]at i;have h9:(hi-lo)*e.sz≤(s.c-lo)*e.sz:=Vc _ a8;show c+(hi-lo)*e.sz≤C.size;omega
theorem th {nb:Nat}:∀{l:List Po}{nb:Nat},gJ nb l→l≠ []→nb<dZ nb l
 | [],_,_,h=>absurd rfl h
 | [p],nb,h,_=>by rw[j6,lM];have:=h.1;omega
 |p::q::l,nb,h,_=>by
  rw[j6];have:=th (nb:=0) (l:=q::l) h.2.2.2 (ak);have:=h.1;omega
theorem ta:∀{l:List Po}{nb:Nat},gJ nb l→l.length≤dn l
 | [],_,_=>Yl _
 |p::l,nb,h=>by
  have:=ta h.2.2.2;have:=List.length_pos_iff.2 h.2.1;simp only[dn,Xn,Vn,Yb]at*;omega
theorem ux:∀(l:List Po),dn l≤(ep l).length
 | []=>Xj _
 |p::l=>by
  have:=ux l;have:=su p.2 0;simp only[dn,ep,Xn,Vn,Vp,Ya]at*;omega
theorem uJ (l:List Po):∀k,dn (l.take (16*k))≤(cM l k).2.2.length
 | 0=>by simp[dn]
 |k+1=>by
  have:=uJ l k;have:=ux (dg l k);rw[←jH,jT];simp only[cM,Ya,kc];omega
theorem BA (l:List Po):dn l≤(dD l).length:=by
 have h:=uJ l (dC l);rw[mU]at h;simp only[dD,Ya];omega
theorem rJ {l:List Po}(h:gJ 0 l) {k:Nat}(hk:k<dC l):(cM l k).1<(cM l (k+1)).1:=by
 have h1:=kV h k;have h2:=(m9 hk).1;exact th (nb:=0) h1 (λe=>by rw[e]at h2;simp at h2)
def skM (l:List Po) (i:Nat):List Sk:=(fS l).take i++(n6 l (dC l)).drop i
theorem vV (h:i≤dC l):(skM l i).length=dC l:=by simp[skM,jz,pq];omega
theorem Ih (h:i<dC l):(skM l i)[i]? =some (sk0 l i):=by
 rw[skM,Yu ar,Yg,jz,Vk a8,Vw,Xh,Ur,sO h]
theorem Ig (h:i<dC l):(skM l (i+1))[i]? =some (kh l i):=by
 rw[skM,Yv (by rw[Yg,jz];omega),Xz a8,lD h]
theorem Ie (h:i<dC l):(skM l i).set i (kh l i)=skM l (i+1):=by
 have hl:((fS l).take i).length=i:=by rw[Yg,jz];omega
 have hd:(n6 l (dC l)).drop i=sk0 l i::(n6 l (dC l)).drop (i+1):=fE (sO h);rw[skM,hd,U8 _ _ a8,hl,Vw,S6,skM,cL (lD h),Yf];all_goals rfl
theorem NI (l:List Po):skM l 0=n6 l (dC l):=by simp[skM]
theorem Ii (l:List Po):skM l (dC l)=fS l:=by
 rw[skM,Xq (by rw[jz];exact Xj _),Us (by rw[pq];exact Xj _),Ym]
instance {a b c:Nat}:i6 eSk (.agg [.int .i64 ((a:Nat):Int),.int .i64 ((b:Nat):Int),.int .i64 0,.int .i64 ((c:Nat):Int)].toArray) (a,b,0,c):=⟨rfl⟩
theorem zo {nb:Nat}{a:Value}{l:List Sk} [cY H b [a,v1,v2,sk.val]] [hs:Sl H sk eSk l] (hkb:k≤1000000000) (h:k=0∧nb=0∨0<k∧∃e:Sk,l[k-1]? =some e∧e.1+1=nb):SC G prog 186 [pA b,iN k] H (λv c=>v=.int .i64 (((nb:Nat):Int)-1)∧c=H):=by
 refine sWk func186 ?_;refine gW (λh1=>?_) λh1=>?_
 ·refine gR ?_;exact⟨_,hsb,congrArg (Value.int .i64) a8,rfl⟩
 obtain⟨hk,e,he,hnb⟩:0<k∧∃e:Sk,l[k-1]? =some e∧e.1+1=nb:=by rcases h with h|h;exfalso;omega;exact h
 have hlt:=(Yk.1 he).1;refine wk_ (qn_ (ws_ (wr_ (e_ mv (e_ nck (e_ fla (e_ ldv (e_ mv ?_))))))));refine e_ (evq isb (congrArg (Value.int .i64) (show _=((k-1:Nat):Int)from a8))) ?_;refine e_ ixa (e_ fle (e_ (lfl (hy:=he)) (gR ?_)));exact⟨_,hsb,congrArg (Value.int .i64) (show(e.1:Int)=(nb:Int)-1 from a8),rfl⟩
theorem AK {im:SV}{xs:List Nat}{l:List Sk}{e:Sk} [cY H b [im.val,v1,v2,sk.val]] [hs:Sl H sk eSk l] [hi:Sl H im eB xs] (he:l[k]? =some e) (hx:e.2.2.1+e.2.2.2≤xs.length) (hn:xs.length≤10000000000):SC G prog 185 [pA b,iN k] H (λv a=>v=(im.cut3 1 e.2.2.1 (e.2.2.1+e.2.2.2) (e.2.2.1+e.2.2.2)).val∧a=H):=by
 have hlt:=(Yk.1 he).1;refine sWk func185 ?_;refine ws_ (wr_ (e_ asn (on_ (qn_ (ws_ (wr_ (e_ mv (e_ nck (e_ fla (e_ ldv (e_ mv (e_ ixa (e_ (od (hy:=he)) ?_)))))))))))));refine alc (k:=λb5=>?_);refine go ?_;refine cZ cN (as_ 0 (q:=mv) (k:=as_ 1 (q:=nck) (k:=as_ 2 (q:=fla) (k:=as_ 3 (q:=ldv) (k:=as_ 4 (q:=fla) (k:=as_ 5 (q:=ldv) (k:=as_ 6 (q:=fla) (k:=as_ 7 (q:=ldv) (k:=as_ 8 (q:=fla) (k:=as_ 9 (q:=ldv) (k:=as_ 10 (q:=iad) (k:=as_ 11 (q:=fla) (k:=as_ 12 (q:=ldv) (k:=?_))))))))))))));refine as_ 13 (q:=fla) (k:=as_ 14 (q:=ldv) (k:=as_ 15 (q:=iad) (k:=?_)));refine cO 16 rfl rfl aa rfl (df (D3 (e:=eB) rfl e.2.2.1 (e.2.2.1+e.2.2.2) (e.2.2.1+e.2.2.2) ⟨_,_,rfl,rfl⟩ ⟨_,_,rfl,a8⟩ ⟨_,_,rfl,a8⟩ a8 a8 hx)) ?_;exact gZ
theorem JS (h:gJ 0 l) (hk:k≤dC l):k=0∧(cM l k).1=0∨0<k∧∃e:Sk,(fS l)[k-1]? =some e∧e.1+1=(cM l k).1:=by
 rcases Uc k with rfl|hp
 ·exact .inl ⟨rfl,rfl⟩
 ·obtain⟨j,rfl⟩:∃j,k=j+1:=⟨k-1,a8⟩;have:=rJ h (k:=j) a8;exact .inr ⟨hp,_,lD a8,by show(cM l (j+1)).1-1+1=_;omega⟩
theorem Lm (h:gJ 0 l) (hk:k≤dC l):k=0∧(cM l k).1=0∨0<k∧∃e:Sk,(n6 l k)[k-1]? =some e∧e.1+1=(cM l k).1:=by
 rcases Uc k with rfl|hp
 ·exact .inl ⟨rfl,rfl⟩
 ·obtain⟨j,rfl⟩:∃j,k=j+1:=⟨k-1,a8⟩;have:=rJ h (k:=j) a8;exact .inr ⟨hp,_,sO a8,by show(cM l (j+1)).1-1+1=_;omega⟩
theorem I2 {im:SV} [hg:Glb G H] [cY H b [im.val,v1,v2,sk.val]] [hs:Sl H sk eSk (fS l)] [hi:Sl H im eB (dD l)] (f:gJ 0 l) (hsm:eG l) (s:(dD l).length≤10000000000) (hk:k<dC l):SC G prog 187 [pA b,iN k] H (λv t=>∃(sl:SV) (c:List PG),c.map pgP=dg l k∧v=sl.val∧t=Row sl ePo (c.map pgV)::Cl pgH c::H):=by
 have a:=lD hk;have hln:=jz l;obtain⟨h,d⟩:=o7 l hk;have n:=kV f k;have j:=m8 hsm k;have hb3:=m9 hk;have i:=(j5 hsm k).2.2;have hlsm:=hsm.1;have hblk:dC l≤l.length+1:=cn;haveI hcut:Sl H (im.cut3 1 (kh l k).2.2.1 ((kh l k).2.2.1+(kh l k).2.2.2) ((kh l k).2.2.1+(kh l k).2.2.2)) eB (kc (cM l k).1 (dg l k)):=by
  have:=Sl.cut3 hi (lo:=kH l k) (hi:=kH l k+gB l k) a8 d;rw[h]at this;exact this
 refine sWk func187 ?_;refine ws_ (wr_ (e_ asn (on_ (qn_ (ws_ (ws_ (wr_ (e_ mv (e_ ilt (e_ mv (dz 8 17 (k:=λh1=>eg_ mv (eg_ mv (eg_ nck (eg_ fla (eg_ ldv (eg_ lnn (eg_ ige (e_ pkf (on_ edq))))))))) (q:=on_ (qn_ ?_)))))))))))));refine wi_ (k:=λh2=>?_) (m:=λh2=>?_)
 ·exact absurd h2 a8
 refine wk_ (qn_ (ws_ ?_));refine wD [14] (λk H=>(k=2→cY H b [im.val,v1,v2,sk.val]∧Sl H sk eSk (fS l)∧Sl H im eB (dD l))∧(k=5→cY H b [im.val,v1,v2,sk.val]∧Sl H sk eSk (fS l))∧(k=9→cY H b [im.val,v1,v2,sk.val])∧(k=11→Sl H sk eSk (fS l))∧(k=12→Sl H sk eSk (fS l))∧(k=13→Sl H sk eSk (fS l))) (aF 0 (k:=aF 1 (k:=?_)));refine cO 2 rfl rfl aa rfl (λH hH=>by have hN:=hH.1 rfl;obtain⟨r,p,n3⟩:=hN;exact v2_ (AK (l:=fS l) (e:=kh l k) a d s)) ?_;refine aF 3 (k:=aF 4 (k:=?_));refine cO 5 rfl rfl aa rfl (λH hH=>by have hN:=hH.2.1 rfl;obtain⟨r,p⟩:=hN;exact dy (vs:= [_,_]) rfl (zo (l:=fS l) (nb:=(cM l k).1) a8 (JS f a8))) ?_;refine aF 6 (k:=aF 7 (k:=aF 8 (k:=?_)));refine aN 9 rfl (λH hH=>bZ) ?_;refine aF 10 (k:=?_);refine aN 11 rfl (λH hH=>by have hN:=hH.2.2.2.1 rfl;exact ixa) ?_;refine aN 12 rfl (λH hH=>by have hN:=hH.2.2.2.2.1 rfl;exact fle) ?_;refine aN 13 rfl (λH hH=>by have hN:=hH.2.2.2.2.2 rfl;exact lfl (hy:=a)) ?_;refine jR 14 rfl aa rfl (λk hk=>⟨λhi=>ag,λhi=>ag,λhi=>ag,λhi=>ag,λhi=>ag,λhi=>ag⟩) (dy (vs:= [_,_,_]) rfl (AI (nb:=(cM l k).1) (l:=dg l k) n j a8 i)) ?_;rintro _ _ ⟨sl,c,g,rfl,rfl⟩;refine aF 15 (k:=aF 16 (k:=aF 17 (k:=aF 18 (k:=aF 19 (k:=GR aa (λk hk=>⟨λhi=>absurd hk aB,λhi=>absurd hk aB,λhi=>ag,λhi=>ag,λhi=>ag,λhi=>absurd hk aB⟩) (qn_ (ws_ (wr_ (e_ mv (e_ asn (on_ (qn_ (wt_ ?_)))))))))))));refine rT (k:=?_);exact⟨_,hsb,sl,c,g,rfl,rfl⟩
end
end Go.Sx
