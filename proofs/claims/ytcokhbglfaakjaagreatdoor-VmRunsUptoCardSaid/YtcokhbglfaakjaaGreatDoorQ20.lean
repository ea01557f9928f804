import Derived.Test.YtcokhbglfaakjaaGreatDoorQ14
import Derived.Test.YtcokhbglfaakjaaGreatDoorQ16
set_option linter.all false
set_option maxHeartbeats 0
namespace Go.Sx
open Go Go.Proofs Tryz
set_option maxRecDepth 100000
section
variable {G:dJ}{n:Nat}{xs:List Nat}{zs:List PG}
theorem JI {H R:dD}{b k m:Nat} [hg:Glb G R] [hr:Rem H Rd b (xs,k) R] (hk:k≤xs.length) (hn:xs.length≤1000000000000) (c:∀x∈xs,x<256) (h:iz 0 (xs.drop k)=.ok (n,m)):SC G prog 85 [pA b] H (λv a=>v=.tuple #[uN n,.nilIface]∧a=Rd b (xs,k+m)::R):=
 SC.mono (oG hk hn c) λv a h2=>by
  rcases h2 with⟨e,h3,_⟩|⟨n',m',h3,h4,h5⟩
  ·rw[h]at h3;cases h3
  ·rw[h]at h3;cases h3;exact⟨h4,h5⟩
theorem NT {H R:dD}{b k:Nat} [hg:Glb G R] [hr:Rem H Rd b (xs,k) R] (hk:k=xs.length):SC G prog 175 [pA b] H (λv a=>v=.nilIface∧a=Rd b (xs,k)::R):=
 SC.mono (tC (Nat.le_of_eq hk)) λv a h2=>by
  obtain⟨h3,h4⟩:=h2;rcases h4 with⟨h5,_⟩|⟨_,h5⟩
  ·omega
  ·exact⟨h5,h3⟩
theorem AH {v:Nat}(r:List Nat) (h:v<18446744073709551616):iz 0 (uv v++r)=.ok (v,(uv v).length):=Gk v 0 r ae a8 a8
theorem z7:∀(l:List Nat) (nb m:Nat),∃r,gU nb l=gU nb (l.take m)++r
 | [],nb,m=>⟨[],by simp[gU]⟩
 |x::l,nb,0=>⟨gU nb (x::l),by simp[gU]⟩
 |x::l,nb,m+1=>by
  obtain⟨r,h⟩:=z7 l (x+1) m;exact⟨r,by rw[Vq,gU,gU,h,Yf]⟩
theorem JF {l:List Nat}{nb j x:Nat}(h:l[j]? =some x):∃r,gU nb l=gU nb (l.take j)++(uv (x-(if j=0 then nb else l.getD (j-1) 0+1))++r):=by
 obtain⟨r,hr⟩:=z7 l nb (j+1);exact⟨r,by rw[hr,pB h,Yf]⟩
theorem wW:∀(l:List Nat) (nb:Nat),l.length≤(gU nb l).length
 | [],_=>Xl _
 |x::l,nb=>by
  have:=wW l (x+1);have:=sM (x-nb);simp only[gU,Ya,Yb];omega
theorem HO {l:List Po}{i:Nat}{p:Po}(h:l[i]? =some p):fP l=fP (l.take i)++(gU 0 p.2++fP (l.drop (i+1))):=by
 have e:l=l.take i++p::l.drop (i+1):=by rw[←eh h,Vd]
 conv=>lhs;rw[e]
 simp[fP]
def lG (zs:List PG) (n:Nat):List (Nat×SV):=zs.map pgV++List.replicate (n-zs.length) (0,SV.nil)
theorem vp (h:zs.length≤n):(lG zs n).length=n:=by simp[lG];omega
theorem IJ (z:PG) (h:zs.length<n):(lG zs n).set zs.length (z.d,z.s)=lG (zs++ [z]) n:=by
 obtain⟨m,hm⟩:∃m,n-zs.length=m+1:=⟨n-zs.length-1,a8⟩;have h2:n-(zs.length+1)=m:=a8;simp only[lG,Ya,Ul,h2,hm,Xp,Xs,Ud,V6];rw[Ux _ _ aq,Yh,Ui];simp[pgV]
theorem IK (z:PG):(lG (zs++ [z]) n)[zs.length]? =some (z.d,z.s):=by
 rw[lG,Xp,Yf,Yu aq,Yh,Ui];simp[pgV]
theorem IL (zs:List PG):lG zs zs.length=zs.map pgV:=by simp[lG]
theorem FW {G:dJ}{H:dD}{s:SV}{nb:Nat}{l:List Po} [hg:Glb G H] [hs:Sl H s eB (my nb l)] (hok:j5 nb l) (hsm:fL l) (hn:l.length≤16) (hnb:nb≤1000001):
 SC G prog 190 [s.val,.int .i64 (((nb:Nat):Int)-1),iN l.length] H (λv H'=>∃(sl:SV) (zs:List PG),zs.map pgP=l∧v=.tuple #[sl.val,.bool true]∧H'=Row sl ePo (zs.map pgV)::Cl pgH zs::H):=by
 have hb:=Hq (nb:=nb) hsm;have hbl:=uy (nb:=nb) hsm;have htl:=Aq hsm;obtain⟨xs,hxs⟩:=ex (my nb l);have hs2:Sl H s eB xs:=by rw[hxs];exact hs
 clear hs;rw[←hxs]at hb hbl;have hgl:(dT (je nb l)).length=l.length:=by rw[eJ,iO]
 have hfl:(dT (kt l)).length=l.length:=by rw[eJ,kt,Yh]
 have hg40:∀x∈je nb l,x<1099511627776:=λx hx=>bB;have hf40:∀x∈kt l,x<1099511627776:=λx hx=>cr;obtain⟨A,hA⟩:=ex ((ff (je nb l)).length);obtain⟨B,hB⟩:=ex ((ff (kt l)).length);have hd0:xs.drop 0=ff (je nb l)++(ff (kt l)++fP l):=by rw[hxs,my,Yf];all_goals rfl
 have hd1:xs.drop (0+A)=ff (kt l)++fP l:=by rw[←Vt,hd0,hA,Vg]
 have hd2:xs.drop (0+A+B)=fP l:=by rw[←Vt,hd1,hB,Vg]
 have hlen:xs.length=A+B+(fP l).length:=by rw[hxs,my,Ya,Ya,hA,hB]
 refine sWk func190 ?_;refine go ?_;refine c1_ rfl (l3 (xs:=xs) (a8)) (k:=?_);rintro _ _ ⟨br,rfl,rfl⟩;refine go ?_;refine c2_ rfl (Gn (most:=16) (a8) hb hd0 (cI) (a8) hg40) (k:=?_);rintro _ _ ⟨sd,rfl,rfl⟩;rw[←hA];refine e_ mv (k:=e_ exr (k:=e_ exr (k:=e_ asn (k:=e_ asn (k:=on_ (qn_ (ws_ (ws_ (wr_ (e_ mv (k:=?_)))))))))));refine e_ (dL rfl) (k:=?_);refine gW (λh1=>?_) (λh1=>?_)
 ·exact absurd h1 (a8)
 refine go ?_;refine c2_ rfl (Gn (most:=16) (a8) hb hd1 (bX) (a8) hf40) (k:=?_);rintro _ _ ⟨sf,rfl,rfl⟩;rw[←hB];refine e_ mv (k:=e_ exr (k:=e_ exr (k:=e_ asn (k:=e_ asn (k:=on_ (qn_ (ws_ (ws_ (wr_ (e_ mv (k:=?_)))))))))));refine e_ (dL rfl) (k:=?_);refine gW (λh2=>?_) (λh2=>?_)
 ·exact absurd h2 (a8)
 refine go ?_;refine s_ (gn ePo (0,SV.nil) rfl rfl l.length l.length rfl rfl rfl (Xl _) (a8) (a8)) (k:=?_);rintro _ _ ⟨sl,rfl,hsln,hslc,rfl⟩;rw[show List.replicate l.length ((0,SV.nil):Nat×SV)=lG [] l.length from by simp[lG]];have hz0:=vp (zs:= []) (n:=l.length) (Yl _);refine eu (ga (f:=pgH) dH.refl) ?_;refine gk (k:=e8 (Nat×(List PG)×Nat) (λy=>y.1≤l.length∧y.2.1.map pgP=l.take y.1∧y.2.2=A+B+(fP (l.take y.1)).length) (λy=>[(1,.int .i64 (((fB nb (l.take y.1):Nat):Int)-1)),(50,iN y.1)]) [(8,_),(9,_),(11,_),(12,_),(49,_)] (λy=>[Row sl ePo (lG y.2.1 l.length),Cl pgH y.2.1,Rd br (xs,y.2.2)]) _ (λy=>l.length-y.1) ((0, [],0+A+B)) (h0:=?_) (k:=?_))
 ·try dsimp only
  exact⟨Yl _,rfl,by simp[fP]⟩
 rintro⟨i,zs,K⟩ ⟨hi,hzp,hK⟩
 try dsimp only[Yd,Ye]at*
 have hzl:zs.length=i:=by have:=congrArg List.length hzp;rw[Yh,Yg]at this;omega
 have hfz:=vp (zs:=zs) (n:=l.length) (a8);refine gW (λh3=>?_) (λh3=>?_)
 ·obtain⟨p,hp⟩:=gE l i;obtain⟨hp1,hp2,hp3⟩:=hsm.2 p (Yj hp);obtain⟨hge,hpne,hpok⟩:=jP hok hp;have hpp:0<p.2.length:=List.length_pos_iff.2 hpne;have hgi:(dT (je nb l))[i]? =some ((p.1-fB nb (l.take i):Nat):Int):=gh (vk hp);have hfi:(dT (kt l))[i]? =some ((p.2.length-1:Nat):Int):=gh (by rw[kt,Xd,hp];all_goals rfl);have hlt:=sV (nb:=nb) hp;have hta:=HO hp;have htk:=vI hp;have htg:=wW p.2 0;have htl2:=congrArg List.length hta;have htk2:=congrArg List.length htk;rw[Ya,Ya]at htl2;rw[Ya]at htk2;have hdK:xs.drop K=gU 0 p.2++fP (l.drop (i+1)):=by
   rw[hK,←Vt,show A+B=0+A+B from a8,hd2,hta,Vg]
  refine wk_ (qn_ (ws_ (wb_ (ws_ (wr_ (e_ mv (k:=?_)))))));refine pO br λs2=>?_;refine e_ asn (k:=on_ (qn_ (ws_ (ws_ (?_)))));refine dX dN (as_ 0 (q:=mv) (k:=as_ 1 (q:=mv) (k:=as_ 2 (q:=ixa) (k:=as_ 3 (q:=lel (hy:=hgi)) (k:=as_ 4 (q:=mv) (k:=as_ 5 (q:=isb) (k:=as_ 6 (q:=isb) (k:=as_ 7 (q:=ige) (k:=?_)))))))));refine fH 8 rfl rfl (aa) rfl (ey (mv)) (λh4=>?_) (λh4=>?_)
  ·replace h4:=nrm h4;exact absurd h4 (a8)
  replace h4:=nrm h4;refine at2 9 (q:=mv) (k:=at2 10 (q:=mv) (k:=at2 11 (q:=ixa) (k:=at2 12 (q:=lel (hy:=hfi)) (k:=at2 13 (q:=mv) (k:=at2 14 (q:=nck) (k:=at2 15 (q:=fla) (k:=?_)))))));refine lH 16 rfl rfl rfl rfl (aa) rfl (iR (vs:= [_]) rfl (left (k:=(K:Int)) (a8))) (?_);refine at2 17 (q:=ige) (k:=as_ 18 (q:=pkf) (k:=az_ (k:=qn_ (wi_ (k:=λh5=>?_) (m:=λh5=>?_)))))
  ·exact absurd h5 (a8)
  refine wk_ (qn_ (ws_ (wr_ (?_))));refine eu (H':=Rd br (xs,K)::Row sl ePo (lG zs l.length)::Cl pgH zs::Row sf eI (dT (kt l))::Row sd eI (dT (je nb l))::H) (hsb) ?_;refine e_ mv (k:=e_ mv (k:=e_ mv (k:=e_ ixa (k:=e_ (lel (hy:=hgi)) (k:=e_ iad (k:=?_))))));refine e_ (evq iad (congrArg (Value.int .i64) (show _=(((fB nb (l.take (i+1)):Nat):Int)-1)from a8))) (k:=?_);refine e_ asn (k:=on_ (qn_ (ws_ (wr_ (e_ mv (k:=e_ mv (k:=?_)))))));refine e_ (evq mv (congrArg (Value.int .i64) (show(((fB nb (l.take (i+1)):Nat):Int)-1)=((p.1:Nat):Int)from a8))) (k:=?_);refine e_ mv (k:=e_ mv (k:=e_ ixa (k:=e_ (lel (hy:=hfi)) (k:=?_))));refine e_ (evq iad (congrArg (Value.int .i64) (show _=((p.2.length:Nat):Int)from a8))) (k:=?_);refine s_ (gn eI 0 rfl rfl p.2.length p.2.length rfl rfl rfl (Xl _) (a8) (a8)) (k:=?_);rintro _ _ ⟨sp,rfl,hspn,hspc,rfl⟩;rw[show List.replicate p.2.length (0:Int)=gx (dT p.2) 0 0 from by rw[mW,eJ]];refine e_ (bld [(0,_),(1,_)]) (k:=go ?_);refine s_ (et (i:=i) rfl rfl rfl (a8)) (k:=?_);rintro _ _ ⟨rfl,rfl⟩;rw[show(lG zs l.length).set i (p.1,sp)=lG (zs++ [⟨p.1,sp,p.2⟩]) l.length from by rw[←hzl];exact IJ ⟨p.1,sp,p.2⟩ (a8)];have hgz:(lG (zs++ [⟨p.1,sp,p.2⟩]) l.length)[i]? =some (p.1,sp):=by rw[←hzl];exact IK ⟨p.1,sp,p.2⟩
  have hfz1:=vp (zs:=zs++ [⟨p.1,sp,p.2⟩]) (n:=l.length) (cG);refine on_ (qn_ (ws_ (wr_ (e_ asn (k:=on_ (qn_ (ws_ (wr_ (e_ mv (k:=e_ mv (k:=e_ ixa (k:=?_))))))))))));have hil:(dT p.2).length=p.2.length:=eJ _;have hfl0:=kG (full:=dT p.2) (z:=(0:Int)) (i:=0) (Yl _);refine e_ fle (k:=e_ (lfl (hy:=hgz)) (k:=gk (k:=e8 (Nat×Nat×Nat) (λy=>y.1≤p.2.length∧y.2.1=(if y.1=0 then 0 else p.2.getD (y.1-1) 0+1)∧y.2.2=K+(gU 0 (p.2.take y.1)).length) (λy=>[(14,.int .i64 (((y.2.1:Nat):Int)-1)),(96,iN y.1)]) [(1,_),(8,_),(9,_),(11,_),(12,_),(13,_),(49,_),(50,_),(95,_)] (λy=>[Row sp eI (gx (dT p.2) 0 y.1),Rd br (xs,y.2.2)]) _ (λy=>p.2.length-y.1) ((0,0,K)) (h0:=?_) (k:=?_))))
  ·try dsimp only
   exact⟨Yl _,rfl,by simp[gU]⟩
  rintro⟨j,q,K2⟩ ⟨hj,hq,hK2⟩
  try dsimp only[Yd,Ye]at*
  refine gW (λh6=>?_) (λh6=>?_)
  ·obtain⟨x,hx⟩:=gE p.2 j;have hxi:=gh hx;have hx40:=hp3 x (Yj hx);have hqx:=rE hpok hx;rw[←hq]at hqx;obtain⟨r,hr⟩:=JF (nb:=0) hx;rw[←hq]at hr;have htj:=pB (nb:=0) hx;rw[←hq]at htj;have htj2:=congrArg List.length htj;rw[Ya]at htj2;have hr2:=congrArg List.length hr;rw[Ya,Ya]at hr2;have hdj:xs.drop K2=uv (x-q)++(r++fP (l.drop (i+1))):=by
    rw[hK2,←Vt,hdK,hr,Yf,Vg,Yf]
   have hrd:=AH (v:=x-q) (r++fP (l.drop (i+1))) (a8);rw[←hdj]at hrd;have hfj:=kG (full:=dT p.2) (z:=(0:Int)) (i:=j) (a8);refine go ?_;refine d1_ rfl (JI (a8) (a8) hb hrd) (k:=e_ mv (k:=e_ exr (k:=e_ exr (k:=e_ asn (k:=e_ asn (k:=on_ (qn_ (ws_ (ws_ (wr_ (e_ mv (k:=?_))))))))))));refine e_ (dL rfl) (k:=?_);refine e_ mv (k:=eg_ mv (k:=eg_ ieq (k:=e_ pkf (k:=e_ mv (k:=ep 7 117 (k:=λh7=>eg_ mv (k:=eg_ mv (k:=eg_ (H4 rfl rfl) (k:=eg_ (evq (H4 rfl rfl) (congrArg (Value.int .i64) (show _=((9223372036854775807-q:Nat):Int)from cV))) (k:=eg_ ((ad)) (k:=eg_ igt (k:=e_ pkf (k:=on_ (edq))))))))) (q:=on_ (qn_ (wi_ (k:=λh8=>?_) (m:=λh8=>?_)))))))))
   ·exact absurd h8 (a8)
   refine wk_ (qn_ (ws_ (wr_ (e_ mv (k:=e_ mv (k:=?_))))));refine e_ (ew rfl (a8)) (k:=?_);refine e_ iad (k:=?_);refine e_ (evq iad (congrArg (Value.int .i64) (show _=(((x+1:Nat):Int)-1)from a8))) (k:=?_);refine e_ asn (k:=on_ (qn_ (wr_ (e_ mv (k:=e_ mv (k:=e_ ixa (k:=e_ fle (k:=e_ (lfl (hy:=hgz)) (k:=e_ mv (k:=?_))))))))));refine e_ (evq mv (congrArg (Value.int .i64) (show(((x+1:Nat):Int)-1)=((x:Nat):Int)from a8))) (k:=?_);refine go ?_;refine s_ (et (s:=sp) (i:=j) rfl rfl rfl (a8)) (k:=?_);rintro _ _ ⟨rfl,rfl⟩;rw[oT hxi];refine go ?_;refine ln_ ((j+1,x+1,K2+(uv (x-q)).length)) (k:=?_)
   try dsimp only
   exact⟨a8,by rw[if_neg (a8),X7,Xj,hx];all_goals rfl,a8⟩
  obtain rfl:j=p.2.length:=a8;rw[Xn]at hK2;rw[show gx (dT p.2) (0:Int) p.2.length=dT p.2 from by rw[←hil,nu]];refine we_ (qe_ (le_ (bh_ (bn_ (qn_ (wr_ (?_)))))));refine eu (H':=Cl pgH (zs++ [⟨p.1,sp,p.2⟩])::Rd br (xs,K2)::Row sl ePo (lG (zs++ [⟨p.1,sp,p.2⟩]) l.length)::Row sf eI (dT (kt l))::Row sd eI (dT (je nb l))::H) (dH.trans (hsb) (wj ⟨p.1,sp,p.2⟩)) ?_;refine go ?_;refine ln_ ((i+1,zs++ [⟨p.1,sp,p.2⟩],K2)) (k:=?_)
  try dsimp only
  exact⟨a8,by rw[Xp,hzp,dK hp];all_goals rfl,a8⟩
 obtain rfl:i=l.length:=a8;rw[Xn]at hzp hK;rw[show lG zs l.length=zs.map pgV from by rw[←hzl,IL]];refine go ?_;refine wD [4] (λ_ _=>True) (go ?_);refine aS 4 rfl (lU (vs:= [_]) rfl (NT (a8))) ?_;rintro _ _ ⟨rfl,rfl⟩;refine uB (λ_=>trivial) (?_);refine dS 5 rfl rfl (aa) rfl (ey ((by first|exact iB rfl|exact ny rfl))) (?_);refine gR ?_;exact⟨_,hsb,sl,zs,hzp,rfl,rfl⟩
end
section
variable {G:dJ}{H:dD}{b i k:Nat}{α:Type}{e:Enc α}{l:List Po}{s sk:SV}{v1 v2:Value}{xs:List α}
def SV.cut3 (s:SV) (sz lo hi mx:Nat):SV:=⟨if mx=lo then s.a else s.a.map (·.add (lo*sz)),hi-lo,mx-lo⟩
theorem IN {P:Program}{t:Tm}{dst:Option Tmp}{ty:TypeId}{pos:String}{after:Array Edge}{g:Option (Nat×Bool)}{T E:TypeId}{x lo hi a:Operand}{u:Nat}{z:Value}(hx:evo t x=some s.val) [hT:Und P T (.slice E)] [hE:Inf P E e.sz u z] [hs:Sl H s e xs] (l h m:Nat) (c:∃k j,evo t lo=some (.int k j)∧j=(l:Int)) (d:∃k j,evo t hi=some (.int k j)∧j=(h:Int)) (b:∃k j,evo t a=some (.int k j)∧j=(m:Int)) (h1:l≤h) (h2:h≤m) (h3:m≤xs.length):
 Ev G P ⟨dst,.slice T x (some lo) (some hi) (some a),ty,pos,after,g⟩ t H (s.cut3 e.sz l h m).val:=
 fun ρ hρ w hw=>by
  obtain⟨q1,q2,_⟩:=hs.get hw;obtain⟨q,j1,B,rfl⟩:=c;obtain⟨p,j2,A,rfl⟩:=d;obtain⟨n,j3,v,rfl⟩:=b;have f:∀(j:Nat) (k:IntKind) (y:Nat) (i:BoundsCode),j≤y→(Instr.sliceBound (.int k (j:Int)) y i).run P w=.ok j w:=by
   intro j k y i hj;have:(j:Int)≤(y:Int):=a8;simp[Instr.sliceBound,asIntOf,this]
  have r:(Instr.sliceBounds true s.n s.c (some (ρ lo)) (some (ρ hi)) (some (ρ a))).run P w=.ok (l,h,m) w:=by
   simp[Instr.sliceBounds,hρ _ _ B,hρ _ _ A,hρ _ _ v,f m n s.c _ a8,f h p m _ a8,f l q h _ a8]
  simp only[execOp,hρ _ _ hx,Instr.sliceAt,SV.val,Vs,Sem.run_bind,ef (T:=T),Result.andThen_ok];simp only[Instr.slice,Sem.run_bind,ef (T:=T),Result.andThen_ok,r,fy (T:=E) (s:=e.sz),Sem.run_pure];all_goals rfl
theorem Sl.cut3 (h:Sl H s e xs){lo hi:Nat}(h1:lo≤hi) (h2:hi≤xs.length):Sl H (s.cut3 e.sz lo hi hi) e ((xs.take hi).drop lo):=by
 have hc:=Sl.cut h h1 h2;refine⟨λL hL=>?_⟩;obtain⟨a1,a2,a3⟩:=h.out L hL;obtain⟨b1,b2,j⟩:=hc.out L hL;have a:((xs.take hi).drop lo).length=hi-lo:=bT;refine⟨by rw[a];all_goals rfl,by show hi-lo≤hi-lo;omega,?_⟩
 by_cases e0:hi=lo
 ·left;exact⟨Uc a8,by show hi-lo=0;omega⟩
 ·rcases j with⟨d,_⟩|⟨b,c,C,E,fz,d,i,g,f⟩
  ·rw[d]at a;simp at a;omega
  ·right;refine⟨b,c,C,E,fz,?_,i,?_,f⟩
   ·have:¬s.c=lo:=by omega
    simp only[SV.cut,if_neg this]at d;simp only[SV.cut3,if_neg e0];exact d
   ·have:(s.cut e.sz lo hi).c=s.c-lo:=rfl;rw[this]at g;have h9:(hi-lo)*e.sz≤(s.c-lo)*e.sz:=Vu _ a8;show c+(hi-lo)*e.sz≤C.size;omega
theorem xQ {nb:Nat}:∀{l:List Po}{nb:Nat},j5 nb l→l≠ []→nb<fB nb l
 | [],_,_,h=>absurd rfl h
 | [p],nb,h,_=>by rw[kQ,oL];have:=h.1;omega
 |p::q::l,nb,h,_=>by
  rw[kQ];have:=xQ (nb:=0) (l:=q::l) h.2.2.2 (aq);have:=h.1;omega
theorem xD:∀{l:List Po}{nb:Nat},j5 nb l→l.length≤ec l
 | [],_,_=>Yl _
 |p::l,nb,h=>by
  have:=xD h.2.2.2;have:=List.length_pos_iff.2 h.2.1;simp only[ec,Xs,Vv,Yb]at*;omega
theorem yZ:∀(l:List Po),ec l≤(fP l).length
 | []=>Xl _
 |p::l=>by
  have:=yZ l;have:=wW p.2 0;simp only[ec,fP,Xs,Vv,Vx,Ya]at*;omega
theorem zl (l:List Po):∀k,ec (l.take (16*k))≤(dP l k).2.2.length
 | 0=>by simp[ec]
 |k+1=>by
  have:=zl l k;have:=yZ (ei l k);rw[←lQ,m6];simp only[dP,Ya,my];omega
theorem H7 (l:List Po):ec l≤(eO l).length:=by
 have h:=zl l (eC l);rw[qi]at h;simp only[eO,Ya];omega
theorem tR {l:List Po}(h:j5 0 l) {k:Nat}(hk:k<eC l):(dP l k).1<(dP l (k+1)).1:=by
 have h1:=nF h k;have h2:=(nG hk).1;exact xQ (nb:=0) h1 (λe=>by rw[e]at h2;simp at h2)
def skM (l:List Po) (i:Nat):List Sk:=(ic l).take i++(qx l (eC l)).drop i
theorem AD (h:i≤eC l):(skM l i).length=eC l:=by simp[skM,lK,tF];omega
theorem Of (h:i<eC l):(skM l i)[i]? =some (sk0 l i):=by
 rw[skM,Yu az,Yg,lK,Ug a8,Ui,Xh,X6,xc h]
theorem Oe (h:i<eC l):(skM l (i+1))[i]? =some (lf l i):=by
 rw[skM,Yv (by rw[Yg,lK];omega),Vp a8,mQ h]
theorem Od (h:i<eC l):(skM l i).set i (lf l i)=skM l (i+1):=by
 have hl:((ic l).take i).length=i:=by rw[Yg,lK];omega
 have hd:(qx l (eC l)).drop i=sk0 l i::(qx l (eC l)).drop (i+1):=eh (xc h);rw[skM,hd,Ux _ _ a8,hl,Ui,List.set_cons_zero,skM,dK (mQ h),Yf];all_goals rfl
theorem Wp (l:List Po):skM l 0=qx l (eC l):=by simp[skM]
theorem Og (l:List Po):skM l (eC l)=ic l:=by
 rw[skM,Xr (by rw[lK];exact Xl _),Vn (by rw[tF];exact Xl _),Ym]
instance {a b c:Nat}:gP eSk (.agg [.int .i64 ((a:Nat):Int),.int .i64 ((b:Nat):Int),.int .i64 0,.int .i64 ((c:Nat):Int)].toArray) (a,b,0,c):=⟨rfl⟩
theorem Ei {nb:Nat}{a:Value}{l:List Sk} [dQ H b [a,v1,v2,sk.val]] [hs:Sl H sk eSk l] (hkb:k≤1000000000) (h:k=0∧nb=0∨0<k∧∃e:Sk,l[k-1]? =some e∧e.1+1=nb):SC G prog 192 [pA b,iN k] H (λv c=>v=.int .i64 (((nb:Nat):Int)-1)∧c=H):=by
 refine sWk func192 ?_;refine gW (λh1=>?_) λh1=>?_
 ·refine gR ?_;exact⟨_,hsb,congrArg (Value.int .i64) a8,rfl⟩
 obtain⟨hk,e,he,hnb⟩:0<k∧∃e:Sk,l[k-1]? =some e∧e.1+1=nb:=by rcases h with h|h;exfalso;omega;exact h
 have hlt:=(Yk.1 he).1;refine wk_ (qn_ (ws_ (wr_ (e_ mv (e_ nck (e_ fla (e_ ldv (e_ mv ?_))))))));refine e_ (evq isb (congrArg (Value.int .i64) (show _=((k-1:Nat):Int)from a8))) ?_;refine e_ ixa (e_ fle (e_ (lfl (hy:=he)) (gR ?_)));exact⟨_,hsb,congrArg (Value.int .i64) (show(e.1:Int)=(nb:Int)-1 from a8),rfl⟩
theorem RF {a:Value}{l:List Sk}{e:Sk} [dQ H b [a,v1,v2,sk.val]] [hs:Sl H sk eSk l] (he:l[k]? =some e):SC G prog 203 [pA b,iN k] H (λv c=>v=.tuple #[.agg #[iN e.1,iN e.2.1,iN e.2.2.1,iN e.2.2.2],.bool true]∧c=H):=by
 have hlt:=(Yk.1 he).1;refine sWk func203 ?_;refine ws_ (wr_ (alc (k:=λb4=>?_)));refine e_ asn (on_ (qn_ (ws_ (ws_ (wr_ (e_ mv (e_ ilt (e_ mv (ep 8 16 (k:=λh1=>eg_ mv (eg_ mv (eg_ nck (eg_ fla (eg_ ldv (eg_ lnn (eg_ ige (e_ pkf (on_ edq))))))))) (q:=on_ (qn_ (wi_ (k:=λh2=>?_) (m:=λh2=>?_)))))))))))))
 ·exact absurd h2 a8
 refine wk_ (qn_ (ws_ (wr_ (e_ mv (e_ nck (e_ fla (e_ ldv (e_ mv (e_ ixa (e_ (gr (hy:=he)) (sto (k:=e_ asn (on_ ?_)))))))))))));refine qn_ (wt_ (rT (k:=?_)));exact⟨_,hsb,rfl,rfl⟩
theorem G1 {im:SV}{xs:List Nat}{l:List Sk}{e:Sk} [dQ H b [im.val,v1,v2,sk.val]] [hs:Sl H sk eSk l] [hi:Sl H im eB xs] (he:l[k]? =some e) (hx:e.2.2.1+e.2.2.2≤xs.length) (hn:xs.length≤10000000000):SC G prog 191 [pA b,iN k] H (λv a=>v=(im.cut3 1 e.2.2.1 (e.2.2.1+e.2.2.2) (e.2.2.1+e.2.2.2)).val∧a=H):=by
 have hlt:=(Yk.1 he).1;refine sWk func191 ?_;refine ws_ (wr_ (e_ asn (on_ (qn_ (ws_ (wr_ (e_ mv (e_ nck (e_ fla (e_ ldv (e_ mv (e_ ixa (e_ (gr (hy:=he)) ?_)))))))))))));refine alc (k:=λb5=>?_);refine go ?_;refine dX dN (as_ 0 (q:=mv) (k:=as_ 1 (q:=nck) (k:=as_ 2 (q:=fla) (k:=as_ 3 (q:=ldv) (k:=as_ 4 (q:=fla) (k:=as_ 5 (q:=ldv) (k:=as_ 6 (q:=fla) (k:=as_ 7 (q:=ldv) (k:=as_ 8 (q:=fla) (k:=as_ 9 (q:=ldv) (k:=as_ 10 (q:=iad) (k:=as_ 11 (q:=fla) (k:=as_ 12 (q:=ldv) (k:=?_))))))))))))));refine as_ 13 (q:=fla) (k:=as_ 14 (q:=ldv) (k:=as_ 15 (q:=iad) (k:=?_)));refine dS 16 rfl rfl aa rfl (ey (IN (e:=eB) rfl e.2.2.1 (e.2.2.1+e.2.2.2) (e.2.2.1+e.2.2.2) ⟨_,_,rfl,rfl⟩ ⟨_,_,rfl,a8⟩ ⟨_,_,rfl,a8⟩ a8 a8 hx)) ?_;exact gZ
theorem QP (h:j5 0 l) (hk:k≤eC l):k=0∧(dP l k).1=0∨0<k∧∃e:Sk,(ic l)[k-1]? =some e∧e.1+1=(dP l k).1:=by
 rcases Un k with rfl|hp
 ·exact .inl ⟨rfl,rfl⟩
 ·obtain⟨j,rfl⟩:∃j,k=j+1:=⟨k-1,a8⟩;have:=tR h (k:=j) a8;exact .inr ⟨hp,_,mQ a8,by show(dP l (j+1)).1-1+1=_;omega⟩
theorem Sv (h:j5 0 l) (hk:k≤eC l):k=0∧(dP l k).1=0∨0<k∧∃e:Sk,(qx l k)[k-1]? =some e∧e.1+1=(dP l k).1:=by
 rcases Un k with rfl|hp
 ·exact .inl ⟨rfl,rfl⟩
 ·obtain⟨j,rfl⟩:∃j,k=j+1:=⟨k-1,a8⟩;have:=tR h (k:=j) a8;exact .inr ⟨hp,_,xc a8,by show(dP l (j+1)).1-1+1=_;omega⟩
theorem NZ {im:SV} [hg:Glb G H] [dQ H b [im.val,v1,v2,sk.val]] [hs:Sl H sk eSk (ic l)] [hi:Sl H im eB (eO l)] (c:j5 0 l) (hsm:fL l) (hn:(eO l).length≤10000000000) (hk:k<eC l):SC G prog 232 [pA b,iN k] H (λv n=>∃(d:SV) (zs:List PG),zs.map pgP=ei l k∧v=d.val∧n=Row d ePo (zs.map pgV)::Cl pgH zs::H):=by
 have a:=mQ hk;have hln:=lK l;obtain⟨hpc,hpl⟩:=rO l hk;have h:=nF c k;have g:=p9 hsm k;have hb3:=nG hk;have f:=(kO hsm k).2.2;have hlsm:=hsm.1;have hblk:eC l≤l.length+1:=cR;haveI hcut:Sl H (im.cut3 1 (lf l k).2.2.1 ((lf l k).2.2.1+(lf l k).2.2.2) ((lf l k).2.2.1+(lf l k).2.2.2)) eB (my (dP l k).1 (ei l k)):=by
  have:=Sl.cut3 hi (lo:=nh l k) (hi:=nh l k+j6 l k) a8 hpl;rw[hpc]at this;exact this
 refine sWk func232 ?_;refine ws_ (wr_ (e_ asn (on_ (qn_ (ws_ (ws_ (wr_ (e_ mv (e_ ilt (e_ mv (ep 8 17 (k:=λh1=>eg_ mv (eg_ mv (eg_ nck (eg_ fla (eg_ ldv (eg_ lnn (eg_ ige (e_ pkf (on_ edq))))))))) (q:=on_ (qn_ ?_)))))))))))));refine wi_ (k:=λh2=>?_) (m:=λh2=>?_)
 ·exact absurd h2 a8
 refine wk_ (qn_ (ws_ ?_));refine wD [14] (λk H=>(k=2→dQ H b [im.val,v1,v2,sk.val]∧Sl H sk eSk (ic l)∧Sl H im eB (eO l))∧(k=5→dQ H b [im.val,v1,v2,sk.val]∧Sl H sk eSk (ic l))∧(k=9→dQ H b [im.val,v1,v2,sk.val])∧(k=11→Sl H sk eSk (ic l))∧(k=12→Sl H sk eSk (ic l))∧(k=13→Sl H sk eSk (ic l))) (aF 0 (k:=aF 1 (k:=?_)));refine dS 2 rfl rfl aa rfl (λH hH=>by have hN:=hH.1 rfl;obtain⟨j,i,n3⟩:=hN;exact v2_ (G1 (l:=ic l) (e:=lf l k) a hpl hn)) ?_;refine aF 3 (k:=aF 4 (k:=?_));refine dS 5 rfl rfl aa rfl (λH hH=>by have hN:=hH.2.1 rfl;obtain⟨j,i⟩:=hN;exact lU (vs:= [_,_]) rfl (Ei (l:=ic l) (nb:=(dP l k).1) a8 (QP c a8))) ?_;refine aF 6 (k:=aF 7 (k:=aF 8 (k:=?_)));refine aN 9 rfl (λH hH=>aL) ?_;refine aF 10 (k:=?_);refine aN 11 rfl (λH hH=>bu) ?_;refine aN 12 rfl (λH hH=>by have hN:=hH.2.2.2.2.1 rfl;exact fle) ?_;refine aN 13 rfl (λH hH=>by have hN:=hH.2.2.2.2.2 rfl;exact lfl (hy:=a)) ?_;refine kg 14 rfl aa rfl (λk hk=>⟨λhi=>af,λhi=>af,λhi=>af,λhi=>af,λhi=>af,λhi=>af⟩) (lU (vs:= [_,_,_]) rfl (FW (nb:=(dP l k).1) (l:=ei l k) h g a8 f)) ?_;rintro _ _ ⟨d,zs,hzs,rfl,rfl⟩;refine aF 15 (k:=aF 16 (k:=aF 17 (k:=aF 18 (k:=aF 19 (k:=FF aa (λk hk=>⟨λhi=>absurd hk aB,λhi=>absurd hk aB,λhi=>af,λhi=>af,λhi=>af,λhi=>absurd hk aB⟩) (qn_ (ws_ (wr_ (e_ mv (e_ asn (on_ (qn_ (wt_ ?_)))))))))))));refine rT (k:=?_);exact⟨_,hsb,d,zs,hzs,rfl,rfl⟩
end
end Go.Sx
