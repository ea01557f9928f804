import Derived.Test.YtcokhbglfaakjaaGreatDoorQ11
import Derived.Test.YtcokhbglfaakjaaGreatDoorQ14
import Derived.Test.YtcokhbglfaakjaaGreatDoorQ13
import Derived.Test.YtcokhbglfaakjaaGreatDoorQ12
set_option linter.all false
set_option maxHeartbeats 0
namespace Go.Sx
open Go Go.Proofs Tryz
set_option maxRecDepth 100000
section
variable {b k:Nat}{ps:List Po}
theorem RY {G:dJ}{H R:dD}{im:SV} [hg:Glb G R] [hr:Rem H Vr b [im.val,.int .i64 0,.int .i64 0,.slice none 0 0] R] [hi:Sl R im eB (eO ps)] (p:j5 0 ps) (hsm:fL ps) (hn:(eO ps).length≤10000000000):SC G prog 189 [pA b] H (λv Z=>∃sk:SV,v=.bool true∧Z=Vr b [im.val,iN ps.length,iN (ec ps),sk.val]::Row sk eSk (ic ps)::R):=by
 have L:=Dk hsm;have hto:=xD p;have M:=H7 ps;have hpl:=hsm.1;obtain⟨xs,c⟩:=ex (eO ps);have hi2:Sl R im eB xs:=by rw[c];exact hi
 clear hi;rw[←c]at L M hn;obtain⟨B,t⟩:=ex (eC ps);have hB16:ps.length≤16*B∧16*B≤ps.length+15:=by rw[t];unfold eC;omega
 obtain⟨A,hA⟩:=ex ((uv ps.length).length+(uv (ec ps)).length);have U:iz 0 (xs.drop 0)=.ok (ps.length,(uv ps.length).length):=by rw[Va,c,yi];exact AH _ a8
 have T:iz 0 (xs.drop (0+(uv ps.length).length))=.ok (ec ps,(uv (ec ps)).length):=by rw[Vw,c,yi,Vg];exact AH _ a8
 have hlen:A+(dP ps B).2.1.length≤xs.length:=by rw[c,yi,hA,t];simp only[Ya];omega
 have s:nh ps 0=A+(dP ps B).2.1.length:=by rw[nh,GS,hA,t];simp[dP]
 have hoffB:nh ps B=xs.length:=by rw[t,OY,c]
 refine SC.rem (h:=hr) ?_;refine sWk func189 ?_;refine go ?_;refine c1_ rfl (l3 (xs:=xs) a8) ?_;rintro _ _ ⟨Y,rfl,rfl⟩;refine go ?_;refine d1_ rfl (JI a8 a8 L U) (e_ mv (e_ exr (e_ exr (e_ asn (e_ asn (on_ (qn_ (ws_ (ws_ (wr_ (e_ mv ?_)))))))))));refine e_ (dL rfl) (go ?_);refine eg_ (fX rfl rfl _ 16 rfl rfl a8 (by first|decide|(show _≤(18446744073709551615:Int);omega))) ?_;refine eg_ mv (eg_ nck (eg_ fla (eg_ ldv (eg_ lnn ?_))));refine eg_ ((ad)) ?_;refine gW (λh1=>?_) λh1=>?_
 ·exact absurd h1 a8
 refine go ?_;refine d1_ rfl (JI a8 a8 L T) ?_;rw[Vw,←hA];refine e_ mv (e_ exr (e_ exr (e_ asn (e_ asn (on_ (qn_ (ws_ (ws_ (wr_ (e_ mv ?_))))))))));refine e_ (dL rfl) ?_;refine e_ mv (eg_ mv (eg_ mv (eg_ nck (eg_ fla (eg_ ldv (eg_ lnn ?_))))));refine eg_ ((ad)) ?_;refine gW (λh2=>?_) λh2=>?_
 ·exact absurd h2 a8
 refine wk_ (qn_ (ws_ (wr_ (e_ mv (e_ mv (e_ mv ?_))))));refine e_ (ew rfl a8) ?_;refine e_ mv ?_;refine e_ (ew rfl a8) ?_;refine e_ nck (e_ fla (sto (k:=e_ nck (e_ fla (sto (k:=on_ (qn_ (ws_ (ws_ (wr_ ?_))))))))));refine eu (dH.nilRow (e:=eSk) dH.refl) ?_;rw[show Row SV.nil eSk ([]:List Sk)=Row SV.nil eSk (qx ps 0)from rfl];refine gk (k:=e8 (Nat×Nat×SV) (λy=>y.1=16*y.2.1∧y.2.1≤B) (λy=>[(7,iN y.1)]) [(0,_),(3,_)] (λy=>[Vr b [im.val,iN ps.length,iN (ec ps),y.2.2.val],Row y.2.2 eSk (qx ps y.2.1),Rd Y (xs,A+(dP ps y.2.1).2.1.length)]) _ (λy=>B-y.2.1) ((0,0,SV.nil)) (h0:=?_) (k:=?_))
 ·exact⟨rfl,Yl _⟩
 rintro⟨i,k,u⟩ ⟨hi,hk⟩
 try dsimp only[Yd,Ye]at*
 refine gW (λh3=>?_) λh3=>?_
 ·have hkB:k<B:=by omega
  have hkb:k<eC ps:=a8;have hnb:=tR p hkb;have hnb6:=(kO hsm (k+1)).2.2;have m:(dP ps (k+1)).1=fB (dP ps k).1 (ei ps k):=rfl;obtain⟨r,d⟩:=IP ps hkb;rw[←m,←hA,←c]at d;obtain⟨_,f⟩:=rO ps hkb;rw[←c]at f;have hbn:=nG hkb;obtain⟨w,J⟩:=ex ((dP ps (k+1)).1-1-(dP ps k).1);rw[←J]at d;obtain⟨K,X⟩:=ex (A+(dP ps k).2.1.length);rw[←X]at d;have S:xs.drop (K+(uv w).length)=uv (j6 ps k)++r:=by rw[←Vt,d,Vg]
  have N:=congrArg List.length d;rw[Yo,Ya,Ya]at N;have hu1:=sM w;have C:iH 2147483647 (xs.drop K)=.ok (w,(uv w).length):=by rw[d];exact gw _ a8 a8
  have z:iH xs.length (xs.drop (K+(uv w).length))=.ok (j6 ps k,(uv (j6 ps k)).length):=by rw[S];exact gw _ a8 a8
  have j:=tF ps k;have V:K+(uv w).length+(uv (j6 ps k)).length=A+(dP ps (k+1)).2.1.length:=by
   simp only[dP,Ya];rw[←m,←J,X];simp only[j6];omega
  rw[←X];refine wk_ (qn_ (ws_ (wb_ (ws_ (wr_ (e_ mv (e_ mv (e_ nck (e_ fla (e_ ldv ?_))))))))));refine e_ (evq lnn (congrArg (λn:Nat=>iN n) j)) ?_;refine d2_ rfl (Ei (l:=qx ps k) (nb:=(dP ps k).1) a8 (Sv p (k:=k) a8)) (go ?_);refine d2_ rfl (wh (most:=2147483647) a8 a8 L a8 C) (e_ mv (e_ exr (e_ exr (e_ asn (e_ asn (on_ (qn_ (ws_ (ws_ (wr_ (e_ mv ?_)))))))))));refine e_ (dL rfl) ?_;refine gW (λh4=>?_) λh4=>?_
  ·exact absurd h4 a8
  refine go ?_;refine d2_ rfl (wh (most:=xs.length) a8 a8 L a8 z) ?_;rw[V];refine e_ mv (e_ exr (e_ exr (e_ asn (e_ asn (on_ (qn_ (ws_ (ws_ (wr_ (e_ mv ?_))))))))));refine e_ (dL rfl) ?_;refine gk (k:=fM (k:=go ?_));refine wD [18,19,22] (λk H=>(k=4→dQ H b [im.val,iN ps.length,iN (ec ps),u.val])∧(k=12→dQ H b [im.val,iN ps.length,iN (ec ps),u.val])) (aF 0 (k:=aF 1 (k:=aF 2 (k:=aF 3 (k:=?_)))));refine aN 4 rfl (λH hH=>ah) ?_;refine aF 5 (k:=aF 6 (k:=aF 7 (k:=?_)));refine aN 8 rfl (λH hH=>evq iad (congrArg (Value.int .i64) (show _=(((dP ps (k+1)).1-1:Nat):Int)from a8))) ?_;refine aF 9 (k:=aF 10 (k:=aF 11 (k:=?_)));refine aN 12 rfl (λH hH=>aM) ?_;refine aF 13 (k:=aF 14 (k:=?_));refine aN 15 rfl (λH hH=>evq (oh rfl rfl) (congrArg (Value.int .i64) (show _=(((ei ps k).length:Nat):Int)from a8))) ?_;refine aF 16 (k:=af_ 17 (q:=ea λH hH=>bld [(0,_),(1,_),(3,_)]) (k:=?_));refine aS 18 rfl (fK eSk rfl rfl) ?_;rintro _ _ ⟨s123,rfl,rfl⟩;refine aS 19 rfl (gf rfl rfl rfl rfl ab ab) ?_;rintro _ _ ⟨x,rfl,rfl⟩;rw[show qx ps k++ [((dP ps (k+1)).1-1,(ei ps k).length,0,j6 ps k)]=qx ps (k+1)from(I1 ps k).symm];refine go ?_;refine aS 22 rfl (ej rfl rfl rfl) ?_;rintro _ _ ⟨rfl,rfl⟩;refine aZ (go ?_);refine lN ((i+16,k+1,x)) ?_
  exact⟨a8,a8⟩
 obtain rfl:k=B:=a8;have j:=tF ps k;refine go ?_;refine d1_ rfl xb ?_;rw[←s,show qx ps k=skM ps 0 from by rw[t,Wp]];refine e_ asn (on_ (qn_ (ws_ (ws_ (wr_ (e_ mv (e_ nck (e_ fla (e_ ldv ?_)))))))));have E:=AD (l:=ps) (i:=0) (Yl _);refine e_ (evq lnn (congrArg (λn:Nat=>iN n) (E.trans t.symm))) ?_;refine gk (k:=e8 Nat (λy=>y≤k) (λy=>[(12,iN (nh ps y)),(136,iN y)]) [(0,_),(135,_)] (λy=>[Row u eSk (skM ps y)]) _ (λy=>k-y) (0) (h0:=?_) (k:=?_))
 ·exact Yl _
 rintro i hik
 try dsimp only[Yd,Ye]at*
 refine gW (λh5=>?_) λh5=>?_
 ·have g:i<eC ps:=by omega
  have E:=AD (l:=ps) (i:=i) a8;have hml1:=AD (l:=ps) (i:=i+1) a8;have F:=Oe g;have hos:=KX ps i;obtain⟨_,f⟩:=rO ps g;rw[←c]at f;refine go ?_;refine s_ (nT (o:=2) (a:=lf ps i) rfl rfl rfl (sk0 ps i) (Of g) ae rfl) ?_;rintro _ _ ⟨rfl,rfl⟩;rw[Od g];refine go ?_;refine dX dN (as_ 0 (q:=mv) (k:=as_ 1 (q:=nck) (k:=as_ 2 (q:=fla) (k:=as_ 3 (q:=ldv) (k:=as_ 4 (q:=mv) (k:=as_ 5 (q:=ixa) (k:=as_ 6 (q:=fle) (k:=as_ 7 (q:=lfl (hy:=F)) (k:=as_ 8 (q:=mv) (k:=as_ 9 (q:=nck) (k:=as_ 10 (q:=fla) (k:=as_ 11 (q:=ldv) (k:=as_ 12 (q:=lnn) (k:=?_))))))))))))));refine gW (λh6=>?_) λh6=>?_
  ·exact absurd h6 (by show ¬_;simp only[lf];omega)
  refine wk_ (qn_ (wr_ (e_ mv (e_ mv (e_ nck (e_ fla (e_ ldv (e_ mv (e_ ixa (e_ fle (e_ (lfl (hy:=F)) ?_)))))))))));refine e_ (evq iad (congrArg (Value.int .i64) (show((nh ps i:Nat):Int)+((j6 ps i:Nat):Int)=((nh ps (i+1):Nat):Int)from a8))) (go ?_);refine lN (i+1) ?_
  try dsimp only
  omega
 obtain rfl:i=k:=a8;rw[show skM ps i=ic ps from by rw[t,Og]];refine we_ (qe_ (le_ (bh_ (qn_ (ws_ (wr_ (e_ mv (e_ mv (e_ nck (e_ fla (e_ ldv (e_ lnn ?_))))))))))));refine e_ (evq ieq (congrArg Value.bool (Ys a8))) ?_;refine gR ?_;exact⟨_,hsb,u,rfl,rfl⟩
theorem Jx:ec (ps.take (16*(k+1)))=ec (ps.take (16*k))+ec (ei ps k):=by rw[←lQ,m6]
theorem DJ {l:List Po}(h:j5 0 l) (hk:k<eC l){p:Po}(hp:(ei l k)[(ei l k).length-1]? =some p):p.1+1=(dP l (k+1)).1:=by
 have h2:=(nG hk).1;have:(ei l k).getLast? =some p:=by rw[List.getLast?_eq_getElem?];exact hp
 show p.1+1=fB (dP l k).1 (ei l k);rw[fB,this]
theorem XD {im sk:SV}{R:dD}:dH (Vr b [im.val,iN ps.length,iN (ec ps),sk.val]::Row im eB (eO ps)::Row sk eSk (ic ps)::R) (LPh (some b) im sk ps::R):=dH.star (F:= [Vr b [im.val,iN ps.length,iN (ec ps),sk.val],Row im eB (eO ps),Row sk eSk (ic ps)]) dH.refl
theorem RM {G:dJ}{H:dD}{s:SV}{ps:List Po} [hg:Glb G H] [hs:Sl H s eB (eO ps)] (hok:j5 0 ps) (hsm:fL ps) (hn:(eO ps).length≤10000000000):SC G prog 139 [s.val] H (λv H'=>∃(b:Nat) (im sk:SV),v=.tuple #[pA b,.nilIface]∧H'=LPh (some b) im sk ps::H):=by
 have hto:=xD hok;have hte:=H7 ps;have hsl:=lK ps;obtain⟨B,hB⟩:=ex (eC ps);have hB16:ps.length≤16*B∧16*B≤ps.length+15:=by rw[hB];unfold eC;omega
 refine sWk func139 ?_;refine gk (k:=fS eSV (k:=λs13=>?_));refine c1_ rfl (wI (xs:=eO ps) (a8)) (k:=?_);rintro _ _ ⟨im,rfl,rfl⟩;refine e_ (bld [(0,_)]) (k:=bxx (k:=λb16=>?_));refine go ?_;refine c1_ rfl (RY hok hsm hn) (k:=?_);rintro _ _ ⟨sk,rfl,rfl⟩;refine gk (k:=fM (k:=go ?_));refine gk (k:=e8 (Nat) (λy=>y≤B) (λy=>[(5,iN (ec (ps.take (16*y)))),(26,iN y)]) [(4,_),(24,_),(25,_)] (λy=>[]) _ (λy=>B-y) (0) (h0:=?_) (k:=?_))
 ·try dsimp only
  exact Yl _
 rintro kb hk
 try dsimp only[Yd,Ye]at*
 refine gW (λh1=>?_) (λh1=>?_)
 ·have hkb:kb<eC ps:=by omega
  have hget:=mQ hkb;obtain⟨hpc,hpl⟩:=rO ps hkb;have hb1:=nF hok kb;have hb2:=p9 hsm kb;have hb3:=nG hkb;have hnb:=(kO hsm kb).2.2;have hnb1:=(kO hsm (kb+1)).2.2;have hst:=tR hok hkb;have hcut:∀(H2:dD) [Sl H2 im eB (eO ps)],Sl H2 (im.cut3 1 (lf ps kb).2.2.1 ((lf ps kb).2.2.1+(lf ps kb).2.2.2) ((lf ps kb).2.2.1+(lf ps kb).2.2.2)) eB (my (dP ps kb).1 (ei ps kb)):=λH2 hi=>by
   have:=Sl.cut3 hi (lo:=nh ps kb) (hi:=nh ps kb+j6 ps kb) (a8) hpl;rw[hpc]at this;exact this
  have hs1:(lf ps kb).1=(dP ps (kb+1)).1-1:=rfl;have hs2:(lf ps kb).2.1=(ei ps kb).length:=rfl;have htb:=Jx (ps:=ps) (k:=kb);have htl:=mE ps (16*kb);have htl1:=mE ps (16*(kb+1));refine wk_ (qn_ (ws_ (wb_ (ws_ (wr_ (e_ mv (k:=e_ ixa (k:=e_ (gr (hy:=hget)) (k:=alc (k:=λb7=>?_))))))))));refine go ?_;refine wD [8] (λk H=>(k=2→dQ H b16 [im.val,iN ps.length,iN (ec ps),sk.val]∧Sl H sk eSk (ic ps)∧Sl H im eB (eO ps))∧(k=5→dQ H b16 [im.val,iN ps.length,iN (ec ps),sk.val]∧Sl H sk eSk (ic ps))∧(k=7→dQ H b7 [iN ((lf ps kb).1),iN ((lf ps kb).2.1),iN ((lf ps kb).2.2.1),iN ((lf ps kb).2.2.2)])) (aF 0 (k:=aF 1 (k:=?_)));refine dS 2 rfl rfl (aa) rfl (λH hH=>by have hN:=hH.1 rfl;obtain⟨n1,n2,n3⟩:=hN;exact v2_ (G1 (l:=ic ps) (e:=lf ps kb) hget hpl hn)) (?_);refine aF 3 (k:=aF 4 (k:=?_));refine dS 5 rfl rfl (aa) rfl (λH hH=>by have hN:=hH.2.1 rfl;obtain⟨n1,n2⟩:=hN;exact lU (vs:= [_,_]) rfl (Ei (l:=ic ps) (nb:=(dP ps kb).1) (a8) (QP hok (a8)))) (?_);refine aF 6 (k:=?_);refine go ?_;refine kg 8 rfl (aa) rfl (λk hk=>⟨λhi=>af,λhi=>af,λhi=>af⟩) (lU (vs:= [_,_,_]) rfl (FW (nb:=(dP ps kb).1) (l:=ei ps kb) hb1 hb2 (a8) hnb)) ?_;rintro _ _ ⟨sl,zs,hzs,rfl,rfl⟩;have hzl:zs.length=(ei ps kb).length:=by rw[←hzs,Yh]
  have hzv:(zs.map pgV).length=(ei ps kb).length:=by rw[Yh,hzl]
  obtain⟨z,hz⟩:=gE zs ((ei ps kb).length-1);have hzV:(zs.map pgV)[(ei ps kb).length-1]? =some (z.d,z.s):=by rw[Xd,hz];all_goals rfl
  have hzb:(zs.map pgP)[(ei ps kb).length-1]? =some (pgP z):=by rw[Xd,hz];all_goals rfl
  rw[hzs]at hzb;have hzd:z.d+1=(dP ps (kb+1)).1:=DJ hok hkb hzb;refine aF 9 (k:=aF 10 (k:=aF 11 (k:=aF 12 (k:=aF 13 (k:=aZ (qn_ (ws_ (ws_ (?_)))))))));refine dX dN (as_ 0 (q:=mv) (k:=as_ 1 (q:=mN) (k:=as_ 2 (q:=mv) (k:=at2 3 (q:=mv) (k:=at2 4 (q:=fla) (k:=at2 5 (q:=ldv) (k:=?_)))))));refine lH 6 rfl rfl rfl rfl (aa) rfl (ey (evq isb (congrArg (Value.int .i64) (show _=(((ei ps kb).length-1:Nat):Int)from a8)))) (?_);refine at2 7 (q:=ixa) (k:=at2 8 (q:=fle) (k:=at2 9 (q:=lfl (hy:=hzV)) (k:=at2 10 (q:=fla) (k:=at2 11 (q:=ldv) (k:=at2 12 (q:=ine) (k:=as_ 13 (q:=pkf) (k:=az_ (k:=qn_ (wi_ (k:=λh2=>?_) (m:=λh2=>?_))))))))))
  ·exact absurd h2 (a8)
  refine gk (k:=e8 (Nat) (λy=>y≤zs.length) (λy=>[(5,iN (ec (ps.take (16*kb))+ec ((ei ps kb).take y))),(60,iN y)]) [(4,_),(24,_),(25,_),(26,_),(58,_),(59,_)] (λy=>[]) _ (λy=>zs.length-y) (0) (h0:=?_) (k:=?_))
  ·try dsimp only
   exact Yl _
  rintro j hj
  try dsimp only[Yd,Ye]at*
  refine gW (λh3=>?_) (λh3=>?_)
  ·obtain⟨y,hy⟩:=gE zs j;have hyV:(zs.map pgV)[j]? =some (y.d,y.s):=by rw[Xd,hy];all_goals rfl
   have hyP:(ei ps kb)[j]? =some (pgP y):=by rw[←hzs,Xd,hy];all_goals rfl
   have hyt:=ry hyP;have htj:=mE (ei ps kb) (j+1);have hys:∀H2:dD,Sl (Cl pgH zs::H2) y.s eI (dT y.pos):=λH2=>ee (rD hy) inferInstance;have hyl:=eJ y.pos;have hyp:(pgP y).2=y.pos:=rfl;rw[hyp]at hyt;refine wk_ (qn_ (ws_ (wb_ (ws_ (wr_ (e_ ixa (k:=e_ (gr (hy:=hyV)) (k:=alc (k:=λb11=>?_)))))))));refine sto (k:=on_ (qn_ (wr_ (e_ mv (k:=e_ fla (k:=e_ ldv (k:=e_ lnn (k:=?_))))))));refine e_ (evq iad (congrArg (Value.int .i64) (show _=((ec (ps.take (16*kb))+ec ((ei ps kb).take (j+1)):Nat):Int)from a8))) (k:=?_);refine go ?_;refine ln_ (j+1) (k:=?_)
   try dsimp only
   omega
  obtain rfl:j=zs.length:=a8;rw[show ec (ps.take (16*kb))+ec ((ei ps kb).take zs.length)=ec (ps.take (16*(kb+1)))from by rw[hzl,Xn,htb]];refine go ?_;refine ln_ (kb+1) (k:=?_)
  try dsimp only
  omega
 obtain rfl:kb=B:=a8;rw[show ec (ps.take (16*kb))=ec ps from by rw[hB,qi]];refine go ?_;refine gW (λh4=>?_) (λh4=>?_)
 ·(first|exact absurd rfl h4|exact(h4).elim|simp at h4)
 refine gR ?_;exact⟨LPh (some b16) im sk ps::H,dH.trans (H':=Vr b16 [im.val,iN ps.length,iN (ec ps),sk.val]::Row im eB (eO ps)::Row sk eSk (ic ps)::H) (hsb) XD,b16,im,sk,rfl,rfl⟩
end
section
variable {G:dJ}{H:dD}{ev:SV}{key:ByteArray}{l:List En}{lp:Option Nat}{ps:List Po}{w:Nat}
theorem FZ {g n:Nat}{fi ca:List Value}{p:Nat→Bool}(hn:n≤1000000000000) (hf:∀i:Nat,i<n→SC G prog g (fi++ [iN i]++ca) H (λv r=>v=.bool (p i)∧r=H)) (c:∀a b,a≤b→b<n→p a=true→p b=true):
 SC G prog 187 [iN n,.func (.func g) fi.toArray ca.toArray] H (λv r=>(∃k:Nat,v=iN k∧k≤n∧(∀i,i<k→p i=false)∧∀i,k≤i→i<n→p i=true)∧r=H):=by
 refine sWk func187 ?_;refine go ?_;refine e8 (Nat×Nat) (λy=>y.1≤y.2∧y.2≤n∧(∀m,m<y.1→p m=false)∧∀m,y.2≤m→m<n→p m=true) (λy=>[(5,iN y.1),(6,iN y.2)]) [(1,_)] (λy=>[]) _ (λy=>y.2-y.1) ((0,n)) (h0:=?_) (k:=?_)
 ·exact⟨Yl _,Xl _,λm hm=>absurd hm a8,λm h1 h2=>absurd h1 a8⟩
 rintro⟨i,j⟩ ⟨hij,q,e,f⟩
 try dsimp only[Yd,Ye]at*
 refine gW (λh1=>?_) λh1=>?_
 ·obtain⟨h,hh⟩:=ex ((i+j)/2);refine wk_ (qn_ (wb_ (ws_ (wr_ (e_ mv (e_ mv ?_))))));refine e_ (evq iad (congrArg (Value.int .i64) (show _=((i+j:Nat):Int)from a8))) ?_;refine e_ ((ad)) ?_;refine e_ (evq (hX rfl rfl (i+j) 1 rfl rfl ae) (congrArg (λn:Nat=>uN n) (show(i+j)/2^1=h from a8))) ?_;refine e_ (ew rfl a8) (go ?_);refine s_ (qM (fi:=fi) (ca:=ca) (vs:= [_]) rfl rfl (hf h a8)) ?_;rintro _ H ⟨rfl,rfl⟩;refine gW (λh2=>?_) λh2=>?_
  ·have d:p h=false:=by simpa using h2
   refine go ?_;refine lN ((h+1,j)) ?_
   try dsimp only
   refine⟨a8,q,λm hm=>?_,f⟩;cases hpm:p m with
   |false=>rfl
   |true=>rw[c m h a8 a8 hpm]at d;cases d
  have l:p h=true:=cD;refine go ?_;refine lN ((i,h)) ?_
  exact⟨a8,a8,e,λm h1 h2=>c h m h1 h2 l⟩
 refine gR ?_;exact⟨_,hsb,⟨i,rfl,a8,e,λm h1 h2=>f m a8 h2⟩,rfl⟩
theorem AM (h:w9 l):∀(d i:Nat) (a b:En),l[i]? =some a→l[i+d+1]? =some b→dC a.key<dC b.key
 | 0,i,a,b,ha,hb=>h.2 i a b ha hb
 |d+1,i,a,b,ha,hb=>by
  have hlt:=(Yk.1 hb).1;have hc:l[i+d+1]? =some l[i+d+1]:=Yi a8;exact List.lt_trans (AM h d i a _ ha hc) (h.2 (i+d+1) _ b hc hb)
def geK (l:List En) (key:ByteArray) (i:Nat):Bool:=match l[i]? with
 |some e=>!decide (dC e.key<dC key)
 |none=>true
theorem M9 (h:w9 l) (a b:Nat) (c:a≤b) (d:b<l.length) (ha:geK l key a=true):geK l key b=true:=by
 have h1:l[a]? =some l[a]:=Yi a8;have h2:l[b]? =some l[b]:=Yi d;rw[geK,h1]at ha;rw[geK,h2];simp only[Uf,Xy]at ha⊢;rcases Uq c with h3|rfl
 ·intro h4;have:=AM h (b-a-1) a _ l[b] h1 (by rw[show a+(b-a-1)+1=b from a8];exact h2);exact ha (List.lt_trans this h4)
 ·exact ha
theorem RH {b a i:Nat} [dQ H b [pA w]] [dQ H a [.string key]] [dQ H w [ev.val]] [hs:Sl H ev eEn l] (hi:i<l.length):SC G prog 188 [iN i,pA b,pA a] H (λv c=>v=.bool (geK l key i)∧c=H):=by
 obtain⟨e,he⟩:∃e,l[i]? =some e:=⟨_,Yi hi⟩;refine sWk func188 ?_;refine go ?_;refine dX dN (as_ 0 (q:=ldv) (k:=as_ 1 (q:=nck) (k:=as_ 2 (q:=fla) (k:=as_ 3 (q:=ldv) (k:=as_ 4 (q:=mv) (k:=as_ 5 (q:=ixa) (k:=as_ 6 (q:=fle) (k:=as_ 7 (q:=lfl (hy:=he)) (k:=as_ 8 (q:=ldv) (k:=?_))))))))));refine dS 9 rfl rfl aa rfl (ey Zv) ?_;refine gR ?_;exact⟨_,hsb,by rw[geK,he];all_goals rfl,rfl⟩
theorem W1 [dQ H w [ev.val]] [hs:Sl H ev eEn l] (c:w9 l) (hl:l.length≤1000000000):SC G prog 138 [pA w,.string key] H (λv h=>(∃k:Nat,v=iN k∧k≤l.length∧(∀i,i<k→geK l key i=false)∧∀i,k≤i→i<l.length→geK l key i=true)∧h=H):=by
 refine sWk func138 ?_;refine gk (k:=bxx (k:=λg=>?_));refine bxx (k:=λf=>?_);refine e_ asn (on_ (qn_ (ws_ (wr_ (e_ ldv (e_ nck (e_ fla (e_ ldv (e_ lnn (e_ mkf ?_))))))))));refine c2_ rfl (FZ (n:=l.length) (fi:= []) (ca:= [pA g,pA f]) (p:=geK l key) a8 (λi hi=>RH (w:=w) (ev:=ev) (key:=key) hi) (λa b h1 h2 h3=>M9 c a b h1 h2 h3)) ?_;rintro _ _ ⟨⟨k,rfl,e,hk2,d⟩,rfl⟩;refine gR ?_;exact⟨_,hsb,⟨k,rfl,e,hk2,d⟩,rfl⟩
theorem Se [dQ H w [ev.val]] [hs:Sl H ev eEn l] (d:w9 l) (hl:l.length≤1000000000):SC G prog 87 [pA w,.string key] H (λv j=>((∃(i:Nat) (e:En),l[i]? =some e∧dC e.key=dC key∧v=.tuple #[iN i,.bool true])∨((∀e∈l,dC e.key≠dC key)∧v=.tuple #[.int .i64 0,.bool false]))∧j=H):=by
 refine sWk func87 ?_;refine go ?_;refine c2_ rfl (W1 d hl) ?_;rintro _ _ ⟨⟨k,rfl,hk1,hk2,g⟩,rfl⟩;refine e_ asn (on_ (qn_ (ws_ (ws_ (wr_ (e_ mv (e_ mv (e_ nck (e_ fla (e_ ldv (e_ lnn (e_ ilt (sp_ mv (k:=λh1=>?_) (m:=λh1=>?_))))))))))))))
 ·obtain⟨e,he⟩:=gE l k;refine eg_ mv (eg_ nck (eg_ fla (eg_ ldv (eg_ mv (eg_ ixa (eg_ fle (eg_ (lfl (hy:=he)) (gk (k:=eg_ tH (gW (λh2=>?_) (λh2=>?_)))))))))))
  ·have f:dC e.key=dC key:=h2;refine gR ?_;exact⟨_,hsb,.inl ⟨k,e,he,f,rfl⟩,rfl⟩
  have a:∀e∈l,dC e.key≠dC key:=by
   intro x hx b;obtain⟨i,hi⟩:=Vo hx;have h:=(Yk.1 hi).1;rcases Nat.lt_trichotomy i k with h1|h1|h1
   ·have:=hk2 i h1;rw[geK,hi]at this;simp only[X2,Xq,b]at this;exact ni _ this
   ·subst h1;rw[he]at hi;cases hi;exact absurd b (by first|exact h2|simpa using h2)
   ·have c:l[k]? =some l[k]:=Yi a8;have h2:=AM d (i-k-1) k _ x c (by rw[show k+(i-k-1)+1=i from a8];exact hi);have:=g k (Xl _) a8;rw[geK,c]at this;simp only[Uf,Xy]at this;rw[b]at h2;exact this h2
  refine gR ?_;exact⟨_,hsb,.inr ⟨a,rfl⟩,rfl⟩
 have hkl:k=l.length:=a8;have a:∀e∈l,dC e.key≠dC key:=by
  intro x hx b;obtain⟨i,hi⟩:=Vo hx;have h:=(Yk.1 hi).1;have:=hk2 i a8;rw[geK,hi]at this;simp only[X2,Xq,b]at this;exact ni _ this
 refine gk (k:=fM (k:=?_));refine gR ?_;exact⟨_,hsb,.inr ⟨a,rfl⟩,rfl⟩
theorem Zq {i:Nat}{e:En} [dQ H w [ev.val]] [hs:Sl H ev eEn l] (he:l[i]? =some e):SC G prog 89 [pA w,iN i] H (λv a=>v=.tuple #[.agg #[.string e.key,iN e.docs,iN e.tot,iN e.at_,iN e.size],.bool true]∧a=H):=by
 have hlt:=(Yk.1 he).1;refine sWk func89 ?_;refine ws_ (wr_ (alc (k:=λb4=>?_)));refine e_ asn (on_ (qn_ (ws_ (ws_ (wr_ (e_ mv (e_ ilt (e_ mv (ep 8 16 (k:=λh1=>eg_ mv (eg_ mv (eg_ nck (eg_ fla (eg_ ldv (eg_ lnn (eg_ ige (e_ pkf (on_ edq))))))))) (q:=on_ (qn_ (wi_ (k:=λh2=>?_) (m:=λh2=>?_)))))))))))))
 ·exact absurd h2 a8
 refine wk_ (qn_ (ws_ (wr_ (e_ mv (e_ nck (e_ fla (e_ ldv (e_ mv (e_ ixa (e_ (gr (hy:=he)) (sto (k:=e_ asn (on_ ?_)))))))))))));refine qn_ (wt_ (rT (k:=?_)));exact⟨_,hsb,rfl,rfl⟩
def nC (fs:List FV) (ds:List Doc) (f:Nat) (s:ByteArray):List Po:=jI (ofK (fU fs ds) (f%256::dC s))
theorem Pv {a:List Tri}{k:List Nat}(h:k ∉ a.map (·.1)):jI (ofK a k)= []:=by
 have:ofK a k= []:=by
  rw[ofK,List.map_eq_nil_iff,List.filter_eq_nil_iff];intro t b he;exact h (Xt.2 ⟨t,b,Yt he⟩)
 rw[this];all_goals rfl
theorem zx (f:Nat) (s:ByteArray):dC (tZ f s)=f%256::dC s:=by
 rw[tZ,fG,fD (by intro x hx;simp at hx;omega)];all_goals rfl
theorem GF (h1:j5 0 ps) (h2:fL ps) (h3:ec ps≤100000000):jU ⟨ps,0,0,false⟩:=⟨h1,h2,h3,Yl _,Yl _⟩
theorem QH:SC G prog 137 [lpV lp] H (λv c=>∃b,v=pA b∧c=Vr b [.int .i64 (-1),.int .i64 0,lpV lp,.int .i64 (-1),.int .i64 (-1),.slice none 0 0,.bool false]::H):=by
 refine sWk func137 ?_;refine ws_ (wr_ (e_ asn (on_ (qn_ (ws_ (wr_ (e_ (bld [(0,_)]) (e_ mv (e_ (bld [(0,_),(1,_),(2,_),(3,_)]) (bxx (k:=λa=>?_)))))))))));refine gR ?_;exact⟨_,hsb,a,rfl,rfl⟩
theorem MI {b:Nat}{im sk:SV}(hk:jU ⟨ps,0,0,false⟩) (hl:lp=none→ps= []):dH (Vr b [.int .i64 (-1),.int .i64 0,lpV lp,.int .i64 (-1),.int .i64 (-1),.slice none 0 0,.bool false]::LPh lp im sk ps::H) (CuH b ⟨ps,0,0,false⟩::H):=by
 refine dH.trans (dH.keep (dH.keep ((ga (f:=pgH) dH.refl).trans (dH.nilRow (e:=ePo) dH.refl)))) ?_;exact oZ (c:=⟨ps,0,0,false⟩) (x:=⟨lp,im,sk,SV.nil, [], -1⟩) ⟨hk,hl,.inl rfl⟩
theorem NQ:SC G prog 86 [] H (λv c=>∃b,v=pA b∧c=CuH b ⟨[],0,0,false⟩::H):=by
 refine sWk func86 ?_;refine go ?_;refine c1_ rfl (QH (lp:=none)) ?_;rintro _ _ ⟨a,rfl,rfl⟩;refine gR ?_;exact⟨_,dH.trans (dH.keep (qm dH.refl)) (MI (lp:=none) (im:=SV.nil) (sk:=SV.nil) (GF (by simp[j5]) ⟨ae,aq⟩ ae) (λ_=>rfl)),a,rfl,rfl⟩
theorem RN {s:SV} [hg:Glb G H] [hs:Sl H s eB (eO ps)] (a:j5 0 ps) (hsm:fL ps) (e:ec ps≤100000000) (hn:(eO ps).length≤10000000000):SC G prog 90 [s.val] H (λv f=>∃b,v=.tuple #[pA b,.nilIface]∧f=CuH b ⟨ps,0,0,false⟩::H):=by
 refine sWk func90 ?_;refine go ?_;refine c1_ rfl (RM a hsm hn) ?_;rintro _ _ ⟨d,im,sk,rfl,rfl⟩;refine e_ mv (e_ exr (e_ exr (e_ asn (e_ asn (on_ (qn_ (ws_ (ws_ (wr_ (e_ mv ?_))))))))));refine e_ (dL rfl) ?_;refine gk (k:=fM (k:=go ?_));refine c1_ rfl (QH (lp:=some d)) ?_;rintro _ _ ⟨c,rfl,rfl⟩;refine gR ?_;exact⟨_,MI (lp:=some d) (GF a hsm e) (λh=>bx),c,rfl,rfl⟩
theorem NU {a:PtA}{q:PtD}{f:Nat}{s:ByteArray} [hg:Glb G H] [hp:eN H a q] (l:mg q.fs q.ds) (hf:f<q.fs.length) (E:s.size≤1000000000):SC G prog 31 [pA a.g,iN f,.string s] H (λv H'=>∃b,v=pA b∧H'=CuH b ⟨nC q.fs q.ds f s,0,0,false⟩::H):=by
 have B:=l.goodT;have R:=Tq (fU q.fs q.ds);obtain⟨_,_,S,hPB⟩:=l.blocks;have hel:=ka (eE (fU q.fs q.ds)) 0;have hrl:=tJ (fU q.fs q.ds);have htk:=l.toks;obtain⟨T,Y,g3⟩:j5 0 (nC q.fs q.ds f s)∧fL (nC q.fs q.ds f s)∧ec (nC q.fs q.ds f s)≤(fU q.fs q.ds).length:=oP B;have hpok:=T;refine sWk func31 ?_;refine ws_ (wr_ (e_ asn (on_ (qn_ (ws_ (ws_ (wr_ (e_ mv (e_ ilt (e_ mv (ep 9 24 (k:=λh1=>eg_ mv (eg_ mv (eg_ nck (eg_ fla (eg_ fla (eg_ ldv (eg_ lnn (eg_ ige (e_ pkf (on_ edq)))))))))) (q:=on_ (qn_ ?_)))))))))))));refine wi_ (k:=λh2=>?_) (m:=λh2=>?_)
 ·exact absurd h2 a8
 refine wk_ (qn_ (ws_ ?_));refine wD [7] (λk H=>(k=3→dQ H a.g [a.fv.val,a.dv.val,a.lv.val,pA a.w,a.bl.val,a.im.val])) (aF 0 (k:=aF 1 (k:=aF 2 (k:=?_))));refine aN 3 rfl (λH hH=>by have hN:=hH rfl;exact ldv) ?_;refine aF 4 (k:=aF 5 (k:=?_));refine dS 6 rfl rfl aa rfl (λH hH=>v2_ (Wc E)) ?_;refine aS 7 rfl (lU (vs:= [_,_]) rfl (Se S a8)) ?_;rintro _ H ⟨(⟨i,e,p,N,rfl⟩|⟨hno,rfl⟩),rfl⟩
 ·refine aF 8 (k:=aF 9 (k:=aF 10 (k:=aF 11 (k:=aF 12 (k:=aZ (qn_ (ws_ (ws_ (wr_ (e_ mv (e_ mN (on_ (qn_ ?_)))))))))))));refine fM (k:=wk_ (qn_ (ws_ (wr_ ?_))));have M:i<(eE (fU q.fs q.ds)).length:=by have:=(Yk.1 p).1;omega
  obtain⟨r,hr⟩:∃r,(eE (fU q.fs q.ds))[i]? =some r:=⟨_,Yi M⟩;have h2:=oV (n:=0) hr;rw[h2]at p;obtain rfl:=Xk p;have w:=Yj hr;have F:=R.vals r w;have J:r.1∈(fU q.fs q.ds).map (·.1):=(R.keys _).1 (Vj w);have K:∀x∈r.1,x<256:=by
   obtain⟨t,ht,C⟩:=Xt.1 J;rw[←C];exact(B.small t ht).2.2.1
  have g:r.1=f%256::dC s:=by
   have:dC (eG r.1)=dC (tZ f s):=N
   rwa [fD K,zx]at this
  have y:r.2=nC q.fs q.ds f s:=by rw[F,g];all_goals rfl
  have L:=qR hr;have c:eV (eE (fU q.fs q.ds))=eV ((eE (fU q.fs q.ds)).take i)++(eO r.2++eV ((eE (fU q.fs q.ds)).drop (i+1))):=by
   conv=>lhs;rw[←Vd (i+1) (eE (fU q.fs q.ds)),eV,S5]
   show eV _++eV _=_;rw[L,Yf]
  obtain⟨A,hA⟩:=ex ((eV ((eE (fU q.fs q.ds)).take i)).length);have u:((eV (eE (fU q.fs q.ds))).take (A+(eO r.2).length)).drop A=eO r.2:=by
   rw[c,List.drop_take,hA,Vg,show(eV ((eE (fU q.fs q.ds)).take i)).length+(eO r.2).length-(eV ((eE (fU q.fs q.ds)).take i)).length=(eO r.2).length from a8,T9]
  have d:A+(eO r.2).length≤(eV (eE (fU q.fs q.ds))).length:=by rw[c,Ya,Ya,hA];omega
  have hcutS:∀(X:dD) [Sl X a.bl eB (eV (eE (fU q.fs q.ds)))],Sl X (a.bl.cut 1 A (A+(eO r.2).length)) eB (eO r.2):=λX h=>by
   have:=Sl.cut h (lo:=A) (hi:=A+(eO r.2).length) a8 d;rw[u]at this;exact this
  rw[←y]at T Y g3;rw[Vw,←hA]at h2;refine e_ mv (e_ nck (e_ fla (e_ ldv (e_ mv ?_))));refine c2_ rfl (Zq h2) ?_;rintro _ H ⟨rfl,rfl⟩;refine e_ mv (e_ exr (e_ exr (alc (k:=λU=>?_))));refine sto (k:=e_ asn (on_ (qn_ (ws_ ?_))));refine wD [12] (λk H=>(k=3→dQ H a.g [a.fv.val,a.dv.val,a.lv.val,pA a.w,a.bl.val,a.im.val])∧(k=5→dQ H U [.string (eG r.1),iN r.2.length,iN (ec r.2),iN A,iN ((eO r.2).length)])∧(k=7→dQ H U [.string (eG r.1),iN r.2.length,iN (ec r.2),iN A,iN ((eO r.2).length)])∧(k=9→dQ H U [.string (eG r.1),iN r.2.length,iN (ec r.2),iN A,iN ((eO r.2).length)])∧(k=11→Sl H a.bl eB (eV (eE (fU q.fs q.ds))))) (aF 0 (k:=aF 1 (k:=aF 2 (k:=?_))));refine aN 3 rfl (λH hH=>ah) ?_;refine aF 4 (k:=?_);refine aN 5 rfl (λH hH=>ar) ?_;refine aF 6 (k:=?_);refine aN 7 rfl (λH hH=>aL) ?_;refine aF 8 (k:=?_);refine aN 9 rfl (λH hH=>by have hN:=hH.2.2.2.1 rfl;exact ldv) ?_;refine aF 10 (k:=?_);refine aN 11 rfl (λH hH=>by have hN:=hH.2.2.2.2 rfl;exact fV rfl bH A (A+(eO r.2).length) ⟨_,_,rfl,rfl⟩ ⟨_,_,rfl,a8⟩ a8 d) ?_;refine aS 12 rfl (lU (vs:= [_]) rfl (RN (ps:=r.2) T Y a8 a8)) ?_;rintro _ _ ⟨Z,rfl,rfl⟩;refine aF 13 (k:=aF 14 (k:=aF 15 (k:=aF 16 (k:=aF 17 (k:=aZ (qn_ (ws_ (ws_ (wr_ (e_ mv ?_))))))))));refine e_ (dL rfl) ?_;refine on_ (qn_ (fM (k:=wk_ (qn_ (ws_ (wr_ (e_ mv (e_ asn (on_ (qn_ (wt_ (rT (k:=?_)))))))))))));exact⟨CuH Z ⟨r.2,0,0,false⟩::H,hsb,Z,rfl,by rw[y]⟩
 have z:nC q.fs q.ds f s= []:=Pv λhm=>by
  have h1:=(R.keys _).2 hm;obtain⟨r,hr,g⟩:=Xt.1 h1;obtain⟨j,hj⟩:=Vo hr;have h2:=oV (n:=0) hj;refine hno _ (Yj h2) ?_;show dC (eG r.1)=dC (tZ f s);rw[g,zx,fD];intro x hx;rcases Xo.1 hx with rfl|hx
  ·omega
  ·exact lZ _ x hx
 refine aF 8 (k:=aF 9 (k:=aF 10 (k:=aF 11 (k:=aF 12 (k:=aZ (qn_ (ws_ (ws_ (wr_ (e_ mv (e_ mN (on_ (qn_ ?_)))))))))))));refine ift (k:=ws_ (wr_ ?_));refine c0_ rfl NQ ?_;rintro _ _ ⟨V,rfl,rfl⟩;refine e_ asn (on_ (qn_ (wt_ (qr_ (rT (k:=?_))))));exact⟨_,hsb,V,rfl,by rw[z]⟩
end
section
variable {c:Cfg}{f:Nat}{pss:List (List Po)}{s:MS}{x:Hit}
theorem all_nil {S:MS}(h:nJ c (f+1) s=([],S)):fh c s=(none,S):=by
 rw[nJ]at h;cases hn:(fh c s).1 with
 |none=>
  rw[hn]at h;have h2:(fh c s).2=S:=congrArg Prod.snd h;exact Prod.ext hn h2
 |some x=>
  rw[hn]at h;have h1:=congrArg Prod.fst h;cases h1
theorem all_cons {S:MS}{r:List Hit}(h:nJ c (f+1) s=(x::r,S)):(fh c s).1=some x∧nJ c f (fh c s).2=(r,S):=by
 rw[nJ]at h;cases hn:(fh c s).1 with
 |none=>
  rw[hn]at h;have h1:=congrArg Prod.fst h;cases h1
 |some y=>
  rw[hn]at h;have h1:=congrArg Prod.fst h;have h2:=congrArg Prod.snd h;simp only[List.cons.injEq]at h1 h2;exact⟨by rw[h1.1],Prod.ext h1.2 h2⟩
theorem DQ (h:(fh c s).1=some x):nJ c (f+1) s=(x::(nJ c f (fh c s).2).1,(nJ c f (fh c s).2).2):=by rw[nJ,h]
theorem DR (h:(fh c s).1=none):nJ c (f+1) s=([],(fh c s).2):=by rw[nJ,h]
structure BA (c:Cfg) (f:Nat) (s:MS):Prop where
 one:1≤f
 in_:(c.ids.length:Int)≤((f:Nat):Int)+s.pl
theorem BA.start (h: -1≤s.pl):BA c (c.ids.length+1) s:=⟨a8,a8⟩
theorem BA.next (hl:BA c (f+1) s) (a:lq c pss.length) (hn:c.ids.length≤2147483647) (h:lT c pss s) (hx:(fh c s).1=some x):BA c f (fh c s).2:=by
 obtain⟨h1,h2,h3,h4⟩:=rJ a hn (c.ids.length+1) s h;have h5:=h4 (by intro h9;rw[show(qZ c (c.ids.length+1) s).1=(fh c s).1 from rfl,hx]at h9;cases h9);have h6:=hl.in_;unfold fh;exact⟨a8,a8⟩
theorem CN (a:lq c pss.length) (hn:c.ids.length≤2147483647) (h:lT c pss s):lT c pss (fh c s).2∧s.steps≤(fh c s).2.steps:=
 let ⟨h1,h2,_,_⟩:=rJ a hn (c.ids.length+1) s h
 ⟨h1,h2⟩
def fa (p:PrG) (q:PtD):List (List Po):=p.curs.map λc=>nC q.fs q.ds c.1.toNat c.2
def kP (p:PrG) (q:PtD):Except Nat (List Ins):=match gA p with
 |none=>.error 20
 |some _=>if q.fs.length=p.avgs.length then(match lu p with
  |none=>.error 20
  |some ins=>.ok ins)else .error 9
theorem Pf {p:PrG}{q:PtD}{ins:List Ins}(h:kP p q=.ok ins):(∃a,gA p=some a∧yG p ins a)∧q.fs.length=p.avgs.length∧lu p=some ins:=by
 unfold kP at h;cases hc:gA p with
 |none=>rw[hc]at h;cases h
 |some a=>
  rw[hc]at h;simp only at h
  split at h
  ·rename_i hl;cases hd:lu p with
   |none=>rw[hd]at h;cases h
   |some l=>
    rw[hd]at h;cases h;obtain⟨code,h2⟩:=vz hc;have h1:=h2.dec;rw[hd]at h1;cases h1;exact⟨⟨a,rfl,h2⟩,hl,rfl⟩
  ·cases h
end
section
variable {G:dJ}{H:dD}{a b q:ByteArray}{cs:List RG}{ds:List Doc}{f i j m n:Nat}{fs:List FV}{l:List (Int×SV)}{s:SV}
def eS4:Enc iD:=⟨λp=>[.int .i64 ((p.1:Nat):Int),.string p.2.1,.int .i64 ((p.2.2.1:Nat):Int),.int .i64 ((p.2.2.2:Nat):Int)],4,true,λ_=>rfl,λp v h=>by simp at h;rcases h with rfl|rfl|rfl|rfl <;> rfl,ae,λh=>aK,ae⟩
instance {p:iD}:kV eS4 p (.agg [.int .i64 ((p.1:Nat):Int),.string p.2.1,.int .i64 ((p.2.2.1:Nat):Int),.int .i64 ((p.2.2.2:Nat):Int)].toArray):=⟨rfl⟩
instance {f:Nat}{s:ByteArray}{a b:Nat}:gP eS4 (.agg [.int .i64 ((f:Nat):Int),.string s,.int .i64 ((a:Nat):Int),.int .i64 ((b:Nat):Int)].toArray) (f,s,a,b):=⟨rfl⟩
def ePa:Enc (SV×SV×SV):=⟨λp=>[p.1.val,p.2.1.val,p.2.2.val],3,true,λ_=>rfl,λp v h=>by simp at h;rcases h with rfl|rfl|rfl <;> rfl,ae,λh=>aK,ae⟩
instance {p:SV×SV×SV}:kV ePa p (.agg [p.1.val,p.2.1.val,p.2.2.val].toArray):=⟨rfl⟩
theorem XQ {g:Nat}(h:f≠g):ltT (f::dC a,i,m) (g::dC b,j,n)↔f<g:=by
 unfold ltT;rw[U0]
 constructor
 ·rintro((h1|h1)|h1)
  ·exact h1
  ·exact absurd h1.1 h
  ·exact absurd (List.cons.inj h1.1).1 h
 ·exact λh1=>.inl (.inl h1)
theorem XP (h:¬dC a=dC b):ltT (f::dC a,i,m) (f::dC b,j,n)↔dC a<dC b:=by
 unfold ltT;rw[U0]
 constructor
 ·rintro((h1|h1)|h1)
  ·exact absurd h1 (Nat.lt_irrefl _)
  ·exact h1.2
  ·exact absurd (List.cons.inj h1.1).2 h
 ·exact λh1=>.inl (.inr ⟨rfl,h1⟩)
theorem QZ (h:dC a=dC b):ltT (f::dC a,i,m) (f::dC b,j,n)↔(i<j∨i=j∧m<n):=by
 unfold ltT ltP;rw[h]
 constructor
 ·rintro(h1|h1)
  ·exact absurd h1 (ni _)
  ·exact h1.2
 ·exact λh1=>.inr ⟨rfl,h1⟩
theorem SR {g:Nat}:SC G prog 143 [.agg #[iN f,.string a,iN i,iN m],.agg #[iN g,.string b,iN j,iN n]] H (λv h=>v=.bool (decide (ltT (f::dC a,i,m) (g::dC b,j,n)))∧h=H):=by
 refine sWk func143 ?_;refine gk (k:=bxx (k:=λb2=>?_));refine bxx (k:=λb3=>?_);refine gW (λh1=>?_) λh1=>?_
 ·have e:f≠g:=by have h9:=h1;omega
  refine gR ?_;exact⟨_,hsb,congrArg Value.bool (Vm.2 (Iff.trans a8 (XQ e).symm)),rfl⟩
 obtain rfl:f=g:=ao;refine gk (k:=e_ Ka (gW (λh2=>?_) (λh2=>?_)))
 ·have c:=h2;refine go ?_;refine e_ Zs ?_;refine gR ?_;exact⟨_,hsb,congrArg Value.bool (Vm.2 (XP c).symm),rfl⟩
 have c:dC a=dC b:=aO;refine gW (λh3=>?_) λh3=>?_
 ·have d:i≠j:=by have h9:=h3;omega
  refine gR ?_;exact⟨_,hsb,congrArg Value.bool (Vm.2 (Iff.trans a8 (QZ c).symm)),rfl⟩
 have d:i=j:=aD;refine gR ?_;exact⟨_,hsb,congrArg Value.bool (Vm.2 (Iff.trans a8 (QZ c).symm)),rfl⟩
def Rn (G:dJ) (F0 H:dD) (s:SV) (l:List iD):Prop:=SC G prog 95 [s.val] (eU F0::H) (λv H'=>∃(s':SV) (out:List iD) (F:dD),v=s'.val∧out.Perm l∧out.Pairwise le4∧Sl [eU F,eU F0] s' eS4 out∧H'=eU F::eU F0::H)
theorem Sw {l:List iD}(h:l.length<2):l.Pairwise le4:=by
 match l,h with
 | [],_=>exact List.Pairwise.nil
 | [a],_=>exact Uk ..
theorem xr {f:dD}{l:List iD} [hs:Sl f s eS4 l] (z:l.length≤1000000000) (ih:∀{H:dD}{s:SV}{l':List iD},Sl f s eS4 l'→l'.length<l.length→Rn G f H s l'):SC G prog 95 [s.val] (eU f::H) (λv H'=>∃(s':SV) (out:List iD) (F:dD),v=s'.val∧out.Perm l∧out.Pairwise le4∧Sl [eU F,eU f] s' eS4 out∧H'=eU F::eU f::H):=by
 refine sWk func95 ?_;refine gW (λh1=>?_) λh1=>?_
 ·have U:l.Pairwise le4:=Sw ao;refine gR ?_;exact⟨eU []::eU f::H,qm dH.refl,s,l, [],rfl,.refl _,U,inferInstance,rfl⟩
 refine wk_ (qn_ (ws_ (wr_ (e_ mv (e_ mv (e_ lnn ?_))))));refine e_ (fX rfl rfl l.length 2 rfl rfl ae ai) ?_;refine kJ f rfl (0) (l.length/2) rfl ⟨_,_,rfl,(aT)⟩ a8 aP rfl (λsa ia=>?_);have hla:((l.take (l.length/2)).drop 0).length=l.length/2:=aQ;refine c1_ rfl (ih ia a8) ?_;rintro _ _ ⟨S,n,L,rfl,E,T,B,rfl⟩;refine e_ asn (on_ (qn_ (ws_ (wr_ (e_ mv (e_ mv (e_ lnn ?_)))))));refine e_ (fX rfl rfl l.length 2 rfl rfl ae ai) ?_;refine kJ f rfl (l.length/2) l.length ⟨_,_,rfl,(aT)⟩ rfl a8 aP rfl (λsb ib=>?_);have hlb:((l.take l.length).drop (l.length/2)).length=l.length-l.length/2:=aq;refine c1_ rfl (SC.less (H':=eU f::eU L::H) hsb (ih ib a8)) ?_;rintro _ _ ⟨R,h,F2,rfl,C,hub,A,rfl⟩;have hal:=E.length_eq;have hbl:=C.length_eq;haveI hxi:Sl (eU F2::eU f::eU L::H) S eS4 n:=ee (js (js dH.none)) B;haveI hyi:Sl (eU F2::eU f::eU L::H) R eS4 h:=ee (js (js dH.none)) A;refine go ?_;refine s_ (gn eS4 (0,ByteArray.empty,0,0) rfl rfl 0 l.length rfl rfl rfl a8 a8 a8) ?_;rintro _ _ ⟨p,rfl,hs26n,hs26c,rfl⟩;refine e_ asn (on_ (qn_ (ws_ (wr_ ?_))));rw[show Row p eS4 (List.replicate 0 ((0,ByteArray.empty,0,0):iD))=Row p eS4 []from rfl];refine gk (k:=e8 (Nat×Nat×SV×(List iD)) (λy=>y.1≤n.length∧y.2.1≤h.length∧FK l y.2.2.2 (n.drop y.1) (h.drop y.2.1)) (λy=>[(5,y.2.2.1.val),(6,iN y.1),(7,iN y.2.1)]) [(3,_),(4,_)] (λy=>[Row y.2.2.1 eS4 y.2.2.2]) (eU F2::eU f::eU L::H) (λy=>n.length+h.length-y.1-y.2.1) ((0,0,p, [])) (h0:=?_) (k:=?_))
 ·try dsimp only
  exact⟨Yl _,Yl _,⟨by
   have h1:=E.append C;simp only[Va,Xn,Ye]at h1⊢
   rwa [Vd]at h1,List.Pairwise.nil,λx hx=>by simp at hx,T,hub⟩⟩
 rintro⟨i,j,u,out⟩ ⟨hi,hj,hm⟩
 try dsimp only[Yd,Ye]at*
 have hpl:=hm.perm.length_eq;simp only[Ya,Yo]at hpl;refine gk (k:=ep 5 36 (k:=λh2=>gk (k:=edq)) (q:=gW (λh3=>?_) (λh3=>?_)))
 ·have hor:=h3;refine wk_ (qn_ (wb_ (iu Bool (λy=>(y=true→∃a,n[i]? =some a∧∀b,h[j]? =some b→le4 a b)∧(y=false→∃b,h[j]? =some b∧∀a,n[i]? =some a→le4 b a)) (λy=>[(58,.bool y)]) [37,38,39,40,41,42,43,44,45,46,47,48,49,50,51,52,53,54,55,56,57,58] ?_ ?_)))
  ·refine dX dN (as_ 0 (q:=mv) (k:=as_ 1 (q:=mv) (k:=as_ 2 (q:=lnn) (k:=as_ 3 (q:=ieq) (k:=?_)))));refine fH 4 rfl rfl aa rfl (ey mv) (λh4=>?_) (λh4=>?_)
   ·replace h4:=nrm h4;have r:j=h.length:=aJ;obtain⟨a,e⟩:=gE n i;refine go ?_;refine gk (k:=jnE true (q:=?_));exact⟨λ_=>⟨a,e,λb z=>by rw[r,Xz (Xl _)]at z;cases z⟩,λw=>(by cases w)⟩
   replace h4:=nrm h4;refine at2 5 (q:=mv) (k:=at2 6 (q:=mv) (k:=at2 7 (q:=lnn) (k:=at2 8 (q:=ilt) (k:=?_))));refine o9 9 rfl rfl rfl rfl aa rfl (ey mv) (λh5=>?_) (λh5=>?_)
   ·replace h5:=nrm h5;obtain⟨a,e⟩:∃a,n[i]? =some a:=⟨_,Yi aW⟩;obtain⟨b,d⟩:=gE h j;refine at2 10 (q:=mv) (k:=at2 11 (q:=mv) (k:=at2 12 (q:=ixa) (k:=at2 13 (q:=gr (hy:=d)) (k:=at2 14 (q:=mv) (k:=at2 15 (q:=mv) (k:=at2 16 (q:=ixa) (k:=at2 17 (q:=gr (hy:=e)) (k:=?_))))))));refine lH 18 rfl rfl rfl rfl aa rfl (iR (vs:= [_,_]) rfl SR) ?_;refine gk (k:=jnE (!decide (ltT (ji b) (ji a))) (q:=?_));exact⟨λw=>⟨a,e,λb' J=>by rw[d]at J;cases J;unfold le4;simpa using w⟩,λw=>⟨b,d,λa' K=>by rw[e]at K;cases K;exact Tl (by simpa using w)⟩⟩
   replace h5:=nrm h5;have t:i=n.length:=aW;obtain⟨b,d⟩:=gE h j;refine gk (k:=jnE false (q:=?_));exact⟨λw=>(by cases w),λ_=>⟨b,d,λa ha=>by rw[t,Xz (Xl _)]at ha;cases ha⟩⟩
  rintro c ⟨Z,a0⟩
  try dsimp only[Yd,Ye]at*
  refine wi_ (k:=λh6=>?_) (m:=λh6=>?_)
  ·obtain⟨a,e,X⟩:=Z h6;have hail:=(Yk.1 e).1;have g:=hm;rw[eh e]at g;refine ws_ (wr_ (e_ mv (e_ mv (e_ mv (e_ ixa (e_ (gr (hy:=e)) (fS eS4 (k:=λs64=>?_))))))));refine app (k:=λN=>?_);refine go ?_;refine lN ((i+1,j,N,out++ [a])) ?_
   try dsimp only
   exact⟨a8,hj,g.left λb z=>X b (by rw[List.head?_drop]at z;exact z)⟩
  obtain⟨b,d,Y⟩:=a0 cY;have hbjl:=(Yk.1 d).1;have g:=hm;rw[eh d]at g;refine ws_ (wr_ (e_ mv (e_ mv (e_ mv (e_ ixa (e_ (gr (hy:=d)) (fS eS4 (k:=λs73=>?_))))))));refine app (k:=λM=>?_);refine go ?_;refine lN ((i,j+1,M,out++ [b])) ?_
  try dsimp only
  exact⟨hi,a8,g.right λa ha=>Y a (by rw[List.head?_drop]at ha;exact ha)⟩
 have t:n.length≤i:=aD;have r:h.length≤j:=aD;have V:out.Perm l:=by have h9:=hm.perm;rw[Vn t,Vn r]at h9;simpa using h9
 refine gR ?_;exact⟨eU [Row u eS4 out]::eU f::H,dH.star (F:= [Row u eS4 out]) hsb,u,out, [Row u eS4 out],rfl,V,hm.up,inferInstance,rfl⟩
theorem Kw {b:dD}:∀(n:Nat) {H:dD}{s:SV}{l:List iD},Sl b s eS4 l→l.length≤n→l.length≤1000000000→Rn G b H s l
 | 0,H,s,l,hs,hn,hb=>xr (hs:=hs) hb λ_ hl=>absurd hl a8
 |n+1,H,s,l,hs,hn,hb=>xr (hs:=hs) hb λa hl=>Kw n a a8 a8
theorem WT {fv dv:SV} [hd:Sl H dv eD l] (hn:l.length≤1000000):SC G prog 94 [.agg #[fv.val,dv.val,.slice none 0 0]] H (λv e=>∃b:SV,v=b.val∧e=Row b eD l::H):=by
 haveI hnil:∀c,Sl c SV.nil eBo []:=λc=>⟨λL hL=>⟨rfl,Xl _,.inl ⟨rfl,rfl⟩⟩⟩;refine sWk func94 ?_;refine gk (k:=bxx (k:=λb1=>?_));refine go ?_;refine s_ (fk eD rfl) ?_;rintro _ _ ⟨d,rfl,rfl⟩;refine gk (k:=e8 (Nat×SV) (λy=>y.1≤l.length) (λy=>[(3,y.2.val),(10,iN y.1)]) [(1,_),(8,_),(9,_)] (λy=>[Row y.2 eD (l.take y.1)]) _ (λy=>l.length-y.1) ((0,d)) (h0:=?_) (k:=?_))
 ·exact Yl _
 rintro⟨i,u⟩ hi
 try dsimp only[Yd,Ye]at*
 refine gW (λh1=>?_) λh1=>?_
 ·obtain⟨x,hx⟩:∃x,l[i]? =some x:=⟨_,Yi ao⟩;have htl:(l.take i).length≤1000000:=az;refine wk_ (qn_ (ws_ (wb_ (ws_ (wr_ (e_ mv (e_ ixa (e_ (gr (hy:=hx)) (alc (k:=λb5=>?_))))))))));refine e_ asn (sto (k:=on_ (qn_ (ws_ (wr_ (e_ mv (e_ fla (e_ ldv (e_ (lnn (s:=SV.nil) (xs:=([]:List Bool))) (e_ ige (sp_ mv (k:=λh2=>?_) (m:=λh2=>?_))))))))))))
  ·refine gk (k:=ift (k:=gk (k:=fS eD (k:=λs30=>?_))));refine app (k:=λa=>?_);rw[show l.take i++ [(x.1,x.2)]=l.take (i+1)from by rw[dK hx]];refine go ?_;refine lN ((i+1,a)) ?_
   try dsimp only
   omega
  exact absurd h2 aq
 obtain rfl:i=l.length:=ao;rw[Xn];refine gR ?_;exact⟨_,hsb,u,rfl,rfl⟩
def pg (cs:List RG):List nQ:=cs.map λz=>(z.f::dC z.e.key,z.e.l.map pgP)
theorem Ag (cs:List RG) (z:RG):pg (cs++ [z])=pg cs++ [(z.f::dC z.e.key,z.e.l.map pgP)]:=by simp[pg]
theorem N4 (cs:List RG):(pg cs).length=cs.length:=by simp[pg]
theorem Kn {a:List RG}{z:RG}{d p:Nat}(hf:z.f=f) (h:z.e.key=q):pd (pg (a++ [z])) (f::dC q) d p=pg a++ [(f::dC q,fI (z.e.l.map pgP) d p)]:=by
 subst h;subst hf;rw[Ag,Ae]
theorem Ko {d p:Nat}(h:∀c,cs.getLast? =some c→¬(c.f=f∧c.e.key=q)):pd (pg cs) (f::dC q) d p=pg cs++ [(f::dC q,fI [] d p)]:=
 DU λr hr he=>by
  rw[pg,List.getLast?_map]at hr;cases hc:cs.getLast? with
  |none=>rw[hc]at hr;cases hr
  |some c=>
   rw[hc]at hr;obtain rfl:=Xk hr;obtain⟨h1,h2⟩:=List.cons.inj he;exact h c hc ⟨h1,jy.1 h2⟩
theorem Cp {a:List Tri}(h:pg cs=nO a):cs.length≤a.length∧∀z∈cs,z.e.l.length≤a.length∧∀g∈z.e.l,g.pos.length≤a.length:=by
 obtain⟨h1,h2,h3⟩:=M0 a;rw[←h]at h1 h2 h3;rw[N4]at h1;refine⟨h1,λz b=>⟨?_,λg c=>?_⟩⟩
 ·have:=AV (l:=(pg cs).map λr=>r.2.length) (x:=z.e.l.length) (Xt.2 ⟨_,Vj b,aq⟩);exact Xi this h2
 ·have a1:=AV (l:=(pg cs).map λr=>ec r.2) (x:=ec (z.e.l.map pgP)) (Xt.2 ⟨_,Vj b,rfl⟩);have a2:=AV (l:=(z.e.l.map pgP).map λp=>p.2.length) (x:=g.pos.length) (Xt.2 ⟨_,Vj c,rfl⟩);have a4:ec (z.e.l.map pgP)=((z.e.l.map pgP).map λp=>p.2.length).sum:=rfl;have a5:Br (pg cs)=((pg cs).map λr=>ec r.2).sum:=rfl;omega
theorem SB {sp fv dv:SV} [hsp:Sl H sp ePa [(fv,dv,SV.nil)]] [hf:Sl H fv eF fs] [hd:Sl H dv eD l] (c4:gK H l ds) (d6:fs.length≤16) (hn:ds.length≤100000) (hq:∀d∈ds,d.2.length≤100000000∧∀v∈d.2,v.2.size≤3000000) (hz:dsz ds≤30000000):
 SC G prog 34 [sp.val] H (λv H'=>∃(s:SV) (zs:List RG) (out:List iD),v=s.val∧out.Perm (eM fs 0 ds)∧out.Pairwise le4∧pg zs=nO (out.map ji)∧H'=Row s eRw (zs.map rwV)::Cl rgH zs::H):=by
 have c2:=c4.1;have hsz:=pF fs ds 0;have hsz2:fs.length*dsz ds≤16*30000000:=Uv d6 hz;refine sWk func34 ?_;refine go ?_;refine s_ (fk eS4 rfl) ?_;rintro _ _ ⟨a3,rfl,rfl⟩;refine e_ asn (on_ (qn_ (ws_ (wr_ (e_ asn (on_ (qn_ (ws_ (ws_ (wr_ ?_))))))))));rw[show Row a3 eS4 ([]:List iD)=Row a3 eS4 (eM fs 0 (ds.take (ds.length*0)))from by simp[eM]];refine gk (k:=e8 (Nat×SV) (λy=>y.1≤1) (λy=>[(3,y.2.val),(4,.int .i64 ((ds.length*y.1:Nat):Int)),(21,.int .i64 ((y.1:Nat):Int))]) [(19,_),(20,_)] (λy=>[Row y.2 eS4 (eM fs 0 (ds.take (ds.length*y.1)))]) _ (λy=>1-y.1) ((0,a3)) (h0:=?_) (k:=?_))
 ·exact Yl _
 rintro⟨k,u⟩ hk
 try dsimp only[Yd,Ye]at*
 have hpl:([(fv,dv,SV.nil)]:List (SV×SV×SV)).length=1:=rfl;refine gW (λh1=>?_) λh1=>?_
 ·obtain rfl:k=0:=by have h9:=h1;omega
  rw[show eM fs 0 (ds.take (ds.length*0))=eM fs 0 (ds.take 0)from aq,show((ds.length*0:Nat):Int)=((0:Nat):Int)from aq];refine wk_ (qn_ (ws_ (wb_ (ws_ (wr_ (e_ ixa (e_ (gr (hy:=show([(fv,dv,SV.nil)]:List (SV×SV×SV))[0]? =some (fv,dv,SV.nil)from rfl)) (alc (k:=λb6=>?_)))))))));refine go ?_;refine c1_ rfl (WT (fv:=fv) (dv:=dv) (l:=l) a8) ?_;rintro _ _ ⟨s26,rfl,rfl⟩;refine gk (k:=e8 (Nat×SV) (λy=>y.1≤l.length) (λy=>[(3,y.2.val),(4,.int .i64 ((y.1:Nat):Int)),(28,.int .i64 ((y.1:Nat):Int))]) [(6,_),(19,_),(20,_),(21,_),(26,_),(27,_)] (λy=>[Row y.2 eS4 (eM fs 0 (ds.take y.1))]) _ (λy=>l.length-y.1) ((0,u)) (h0:=?_) (k:=?_))
  ·exact Yl _
  rintro⟨i,u⟩ hi
  try dsimp only[Yd,Ye]at*
  refine go ?_;refine gW (λh2=>?_) λh2=>?_
  ·obtain⟨d,s,B,d3,c3,hsl⟩:=c4.get (i:=i) aw;have a1:=Yj c3;obtain⟨c0,b9⟩:=hq _ a1;have c9:=rP a1;have hp2:=pF fs (ds.take i) 0;have hp3:fs.length*dsz (ds.take i)≤fs.length*dsz ds:=Uv (Xl _) (Fx ds i);simp only at c0 b9 c9;refine wk_ (qn_ (ws_ (wb_ (ws_ (wr_ (e_ ixa (e_ (gr (hy:=d3)) (alc (k:=λb8=>?_)))))))));refine sto (k:=?_);rw[show eM fs 0 (ds.take i)=eM fs 0 (ds.take i)++lC fs 0 i B from by simp[lC]];refine gk (k:=e8 (Nat×SV) (λy=>y.1≤fs.length) (λy=>[(3,y.2.val),(36,.int .i64 ((y.1:Nat):Int))]) [(4,_),(6,_),(8,_),(19,_),(20,_),(21,_),(26,_),(27,_),(28,_),(35,_)] (λy=>[Row y.2 eS4 (eM fs 0 (ds.take i)++lC fs y.1 i B)]) _ (λy=>fs.length-y.1) ((0,u)) (h0:=?_) (k:=?_))
   ·exact Yl _
   rintro⟨f,u⟩ hff
   try dsimp only[Yd,Ye]at*
   refine gW (λh3=>?_) λh3=>?_
   ·have hs4:=uM fs i B f;have hfl3:f<fs.length:=aD;have hs5:f*vsz B≤16*30000000:=Uv a8 a8;have hfl2:=oU fs f B;refine go ?_;refine c3_ rfl (KB a8 a8 c0 b9 a8) ?_;rintro _ _ ⟨s44,rfl,rfl⟩;rw[show eM fs 0 (ds.take i)++lC fs f i B=eM fs 0 (ds.take i)++lC fs f i B++(mz fs i B f).take 0 from aq];refine gk (k:=e8 (Nat×SV) (λy=>y.1≤(eZ fs f B).length) (λy=>[(3,y.2.val),(46,.int .i64 ((y.1:Nat):Int))]) [(4,_),(6,_),(8,_),(9,_),(19,_),(20,_),(21,_),(26,_),(27,_),(28,_),(35,_),(36,_),(44,_),(45,_)] (λy=>[Row y.2 eS4 (eM fs 0 (ds.take i)++lC fs f i B++(mz fs i B f).take y.1)]) _ (λy=>(eZ fs f B).length-y.1) ((0,u)) (h0:=?_) (k:=?_))
    ·exact Yl _
    rintro⟨m,u⟩ hm
    try dsimp only[Yd,Ye]at*
    refine gW (λh4=>?_) λh4=>?_
    ·obtain⟨t,ht⟩:∃t,(eZ fs f B)[m]? =some t:=⟨_,Yi aJ⟩;have a9:(mz fs i B f).take (m+1)=(mz fs i B f).take m++ [(f,eG t.text,i,t.pos)]:=by simp only[mz,←List.map_take];exact tS ht
     have htl3:((mz fs i B f).take m).length≤(eZ fs f B).length:=by rw[Yg,mz,Yh];omega
     refine wk_ (qn_ (ws_ (wb_ (ws_ (wr_ (e_ ixa (e_ (gr (hy:=ht)) (alc (k:=λb11=>?_)))))))));refine sto (k:=on_ (qn_ (wr_ (e_ mv (e_ mv (e_ fla (e_ ldv (e_ mv (e_ fla (e_ ldv (e_ (bld [(0,_),(1,_),(2,_),(3,_)]) (fS eS4 (k:=λs58=>?_)))))))))))));refine app (k:=λc7=>?_);rw[Yf,←a9];refine go ?_;refine lN ((m+1,c7)) ?_
     try dsimp only
     have h9:=hm;omega
    obtain rfl:m=(eZ fs f B).length:=aJ;rw[show eM fs 0 (ds.take i)++lC fs f i B++(mz fs i B f).take (eZ fs f B).length=eM fs 0 (ds.take i)++lC fs (f+1) i B from by rw[sQ,Yf,show(mz fs i B f).take (eZ fs f B).length=mz fs i B f from Xr (by simp[mz])]];refine go ?_;refine lN ((f+1,u)) ?_
    try dsimp only
    omega
   obtain rfl:f=fs.length:=aD;rw[show eM fs 0 (ds.take i)++lC fs fs.length i B=eM fs 0 (ds.take (i+1))from by rw[Cd c3]];refine go ?_;refine lN ((i+1,u)) ?_
   try dsimp only
   omega
  obtain rfl:i=l.length:=aw;rw[show ds.take l.length=ds.take (ds.length*1)from by rw[c2,U5],show((l.length:Nat):Int)=((ds.length*1:Nat):Int)from by rw[c2,U5]];refine go ?_;refine lN ((1,u)) ?_
  exact Xl _
 obtain rfl:k=1:=ao;rw[show ds.take (ds.length*1)=ds from by rw[U5,Xn]];refine go ?_;refine s_ (fk eRw rfl) ?_;rintro _ _ ⟨K,rfl,rfl⟩;refine e_ asn (on_ (qn_ (ws_ (ws_ (wr_ ?_)))));refine eu (dH.trans (H':=Row K eRw []::Row u eS4 (eM fs 0 ds)::H) hsb (dH.trans (H':=eU [Row u eS4 (eM fs 0 ds)]::Row K eRw []::H) (dH.trans (H':=Row u eS4 (eM fs 0 ds)::Row K eRw []::H) hsb (dH.star (F:= [Row u eS4 (eM fs 0 ds)]) dH.refl)) dH.refl)) ?_;refine go ?_;refine c1_ rfl (Kw (l:=eM fs 0 ds) _ inferInstance (Xl _) a8) ?_;rintro _ _ ⟨b7,out,X,rfl,L,d0,Z,rfl⟩;have hol:=L.length_eq;haveI hso0:Sl (eU X::eU [Row u eS4 (eM fs 0 ds)]::Row K eRw []::H) b7 eS4 out:=ee (js (js dH.none)) Z;refine gk (k:=e8 (Nat×SV×(List RG)) (λy=>y.1≤out.length∧pg y.2.2=nO ((out.take y.1).map ji)) (λy=>[(12,y.2.1.val),(70,.int .i64 ((y.1:Nat):Int))]) [(68,_),(69,_)] (λy=>[Row y.2.1 eRw (y.2.2.map rwV),Cl rgH y.2.2]) (eU X::eU [Row u eS4 (eM fs 0 ds)]::H) (λy=>out.length-y.1) ((0,K, [])) (h0:=?_) (k:=?_))
 ·exact⟨Yl _,rfl⟩
 rintro⟨j,r,cs⟩ ⟨hj,V⟩
 try dsimp only[Yd,Ye]at*
 haveI hso:Sl (eU X::eU [Row u eS4 (eM fs 0 ds)]::H) b7 eS4 out:=ee (js (js dH.none)) Z;have hcl:(cs.map rwV).length=cs.length:=Yh ..;have a2:=Cp V;have d1:((out.take j).map ji).length=j:=by rw[Yh,Yg];omega
 rw[d1]at a2;obtain⟨hcn,c5⟩:=a2;refine go ?_;refine gW (λh5=>?_) λh5=>?_
 ·obtain⟨c6,Y⟩:∃x,out[j]? =some x:=⟨_,Yi aW⟩;obtain⟨f,q,d,p⟩:=c6;have a9:(out.take (j+1)).map ji=(out.take j).map ji++ [(f::dC q,d,p)]:=tS Y;refine wk_ (qn_ (ws_ (wb_ (ws_ (wr_ (e_ ixa (e_ (gr (hy:=Y)) (alc (k:=λN=>?_)))))))));refine sto (k:=on_ (qn_ (ws_ (wr_ (e_ mv (e_ lnn (e_ asn (on_ (qn_ (ru (SV×(List RG)×RG×Nat) (λy=>y.2.2.2=y.2.1.length+1∧y.2.2.1.f=f∧y.2.2.1.e.key=q∧pd (pg cs) (f::dC q) d p=pg y.2.1++ [(f::dC q,fI (y.2.2.1.e.l.map pgP) d p)]∧y.2.1.length≤j∧y.2.2.1.e.l.length≤j∧(∀g∈y.2.2.1.e.l,g.pos.length≤j)) (λy=>[(12,y.1.val),(15,.int .i64 ((y.2.2.2:Nat):Int))]) [12,15,76,77,78,79,80,81,82,83,84,85,86,87,88,89,90,91,92,93,94,95,96,97,98,99,100,101,102,103,104,105,106,107,108,109] (λy=>[Row y.1 eRw ((y.2.1++ [y.2.2.1]).map rwV),Row y.2.2.1.e.s ePo (y.2.2.1.e.l.map pgV),Cl pgH y.2.2.1.e.l,Cl rgH y.2.1,Vr N [.int .i64 ((f:Nat):Int),.string q,.int .i64 ((d:Nat):Int),.int .i64 ((p:Nat):Int)]]) ((eU X::eU [Row u eS4 (eM fs 0 ds)]::H)) ?_ ?_))))))))))
  ·refine iu Bool (λy=>(y=true→∀z,cs.getLast? =some z→¬(z.f=f∧z.e.key=q))∧(y=false→∃h z,cs=h++ [z]∧z.f=f∧z.e.key=q)) (λy=>[(99,.bool y)]) [76,77,78,79,80,81,82,83,84,85,86,87,88,89,90,91,92,93,94,95,96,97,98,99] ?_ ?_
   ·refine dX dN (as_ 0 (q:=mv) (k:=as_ 1 (q:=ieq) (k:=?_)));refine fH 2 rfl rfl aa rfl (ey mv) (λh6=>?_) (λh6=>?_)
    ·replace h6:=nrm h6;have A:cs= []:=Uc (by have h9:=h6;omega);refine go ?_;refine gk (k:=jnE true (q:=?_));exact⟨λ_ z hz=>(by rw[A]at hz;cases hz),λE=>(by cases E)⟩
    replace h6:=nrm h6;obtain⟨h,z,A⟩:=Gf (l:=cs) (λE=>by have h9:=h6;rw[E]at h9;exact h9 rfl);have b3:cs.length=h.length+1:=by rw[A];simp
    have M:(cs.map rwV)[h.length]? =some (z.f,z.e.key,z.e.s):=by
     rw[A,Xp,Yu aq,show h.length-(h.map rwV).length=0 from aq];all_goals rfl
    refine at2 3 (q:=mv) (k:=at2 4 (q:=mv) (k:=at2 5 (q:=isb) (k:=at2 6 (q:=ixa (i:=h.length) (hj:=by omega)) (k:=at2 7 (q:=fle) (k:=at2 8 (q:=lfl (hy:=M)) (k:=at2 9 (q:=fla) (k:=at2 10 (q:=ldv) (k:=at2 11 (q:=ine) (k:=as_ 12 (q:=pkf) (k:=?_))))))))));refine fH 13 rfl rfl aa rfl (ey mv) (λh7=>?_) (λh7=>?_)
    ·replace h7:=nrm h7;have hfn:=h7;refine gk (k:=jnE true (q:=?_));exact⟨λ_ y hy=>(by rw[A]at hy;simp at hy;subst hy;intro h8;exact absurd h8.1 a8),λE=>(by cases E)⟩
    replace h7:=nrm h7;have J:z.f=f:=by have h9:=h7;omega
    refine at2 14 (q:=mv) (k:=at2 15 (q:=mv) (k:=at2 16 (q:=isb) (k:=at2 17 (q:=ixa (i:=h.length) (hj:=by omega)) (k:=at2 18 (q:=fle) (k:=at2 19 (q:=lfl (hy:=M)) (k:=at2 20 (q:=fla) (k:=at2 21 (q:=ldv) (k:=at2 22 (q:=Ka) (k:=gk (k:=jnE (!decide (dC z.e.key=dC q)) (q:=?_)))))))))));exact⟨λE y hy=>(by rw[A]at hy;simp at hy;subst hy;intro h8;rw[h8.2]at E;simp at E),λE=>⟨h,z,A,J,jy.1 (by simpa using E)⟩⟩
   rintro c ⟨d7,d8⟩
   try dsimp only at*
   refine wi_ (k:=λh8=>?_) (m:=λh8=>?_)
   ·have b0:=d7 h8;refine ws_ (wr_ (e_ mv (e_ fla (e_ ldv (e_ fla (e_ ldv (e_ (bld [(0,_),(1,_)]) (fS eRw (k:=λs106=>?_)))))))));refine app (k:=λa5=>?_);rw[show cs.map rwV++ [(f,q,SV.nil)]=(cs++ [(⟨f,⟨q,SV.nil, []⟩⟩:RG)]).map rwV from by simp[rwV]];refine eu (ga (f:=pgH) (dH.nilRow (e:=ePo) dH.refl)) ?_;refine e_ asn (on_ (qn_ (wr_ (e_ mv (e_ iad (e_ asn (on_ (jnE ((a5,cs,⟨f,⟨q,SV.nil, []⟩⟩,(cs.map rwV).length+1)) (q:=?_)))))))));dsimp only;exact⟨a8,rfl,rfl,Ko b0,a8,Yl _,λg hg=>by simp at hg⟩
   obtain⟨h,z,A,J,S⟩:=d8 (by have h9:=h8;simpa using h9);have b3:cs.length=h.length+1:=by rw[A];simp
   refine wO (dH.trans (H':=Cl rgH ([]++cs)::Row r eRw (([]++cs).map rwV)::Vr N [.int .i64 ((f:Nat):Int),.string q,.int .i64 ((d:Nat):Int),.int .i64 ((p:Nat):Int)]::eU X::eU [Row u eS4 (eM fs 0 ds)]::H) (by rw[Ye];exact hsb) (Kp A)) ?_;rw[Ye,Ye];refine gk (k:=jnE ((r,h,z,(cs.map rwV).length)) (q:=?_));dsimp only;exact⟨a8,J,S,by rw[A];exact Kn J S,a8,(c5 z (by rw[A];simp)).1,(c5 z (by rw[A];simp)).2⟩
  rintro⟨r2,h,z,n⟩ ⟨hn1,J,S,b5,hcpl,a7,a6⟩
  try dsimp only[Yd,Ye]at*
  have hn0:((h++ [z]).map rwV).length=n:=aQ;have c1:((h++ [z]).map rwV)[n-1]? =some (z.f,z.e.key,z.e.s):=by
   rw[Xp,Yu aQ,show n-1-(h.map rwV).length=0 from aQ];all_goals rfl
  have hzm2:(z.e.l.map pgV).length=z.e.l.length:=Yh ..;refine ws_ (wr_ (e_ mv (e_ mv (e_ isb (e_ (ixa (i:=n-1) (hj:=by omega)) (e_ fle (e_ (lfl (hy:=c1)) (e_ asn (on_ (qn_ (ru (SV×(List PG)×PG) (λy=>y.2.2.d=d∧fI (z.e.l.map pgP) d p=y.2.1.map pgP++ [(d,y.2.2.pos++ [p])]∧y.2.1.length≤j∧y.2.2.pos.length≤j) (λy=>[(16,y.1.val)]) [16,116,117,118,119,120,121,122,123,124,125,126,127,128,129,130,131,132,133,134,135,136] (λy=>[Row y.1 ePo ((y.2.1++ [y.2.2]).map pgV),Row y.2.2.s eI (dT y.2.2.pos),Cl pgH y.2.1,Row r2 eRw ((h++ [z]).map rwV),Cl rgH h,Vr N [.int .i64 ((f:Nat):Int),.string q,.int .i64 ((d:Nat):Int),.int .i64 ((p:Nat):Int)]]) ((eU X::eU [Row u eS4 (eM fs 0 ds)]::H)) ?_ ?_)))))))))))
  ·refine iu Bool (λy=>(y=true→∀g,z.e.l.getLast? =some g→g.d≠d)∧(y=false→∃lp g,z.e.l=lp++ [g]∧g.d=d)) (λy=>[(130,.bool y)]) [116,117,118,119,120,121,122,123,124,125,126,127,128,129,130] ?_ ?_
   ·refine dX dN (as_ 0 (q:=mv) (k:=as_ 1 (q:=lnn) (k:=as_ 2 (q:=ieq) (k:=?_))));refine fH 3 rfl rfl aa rfl (ey mv) (λh9=>?_) (λh9=>?_)
    ·replace h9:=nrm h9;have c8:z.e.l= []:=Uc (by have h9:=h9;omega);refine gk (k:=jnE true (q:=?_));exact⟨λ_ g hg=>(by rw[c8]at hg;cases hg),λE=>(by cases E)⟩
    replace h9:=nrm h9;obtain⟨lp,g,C⟩:=Gf (l:=z.e.l) (λE=>by have h9:=h9;rw[E]at h9;exact h9 rfl);have b1:z.e.l.length=lp.length+1:=by rw[C];simp
    have T:(z.e.l.map pgV)[lp.length]? =some (g.d,g.s):=by
     rw[C,Xp,Yu aq,show lp.length-(lp.map pgV).length=0 from aq];all_goals rfl
    refine at2 4 (q:=mv) (k:=at2 5 (q:=mv) (k:=at2 6 (q:=lnn) (k:=at2 7 (q:=isb) (k:=at2 8 (q:=ixa (i:=lp.length) (hj:=by omega)) (k:=at2 9 (q:=fle) (k:=at2 10 (q:=lfl (hy:=T)) (k:=gk (k:=jnE (decide (((g.d:Nat):Int)≠((d:Nat):Int))) (q:=?_)))))))));exact⟨λE y hy=>(by rw[C]at hy;simp at hy;subst hy;intro h8;rw[h8]at E;simp at E),λE=>⟨lp,g,C,by simp at E;omega⟩⟩
   rintro c ⟨b2,b4⟩
   try dsimp only at*
   refine wi_ (k:=λh10=>?_) (m:=λh10=>?_)
   ·have a0:=b2 h10;refine wr_ (e_ mv (e_ fla (e_ ldv (e_ (bld [(0,_)]) (fS ePo (k:=λs135=>?_))))));refine app (k:=λa4=>?_);rw[show z.e.l.map pgV++ [(d,SV.nil)]=(z.e.l++ [(⟨d,SV.nil, []⟩:PG)]).map pgV from by simp[pgV]];refine eu (dH.nilRow (e:=eI) dH.refl) ?_;refine e_ asn (on_ (jnE ((a4,z.e.l,⟨d,SV.nil, []⟩)) (q:=?_)));dsimp only;exact⟨rfl,by rw[SX a0];all_goals rfl,a7,Yl _⟩
   obtain⟨lp,g,C,U⟩:=b4 ck;have b1:z.e.l.length=lp.length+1:=by rw[C];simp
   refine wO (dH.trans (H':=Cl pgH z.e.l::Row z.e.s ePo (z.e.l.map pgV)::Row r2 eRw ((h++ [z]).map rwV)::Cl rgH h::Vr N [.int .i64 ((f:Nat):Int),.string q,.int .i64 ((d:Nat):Int),.int .i64 ((p:Nat):Int)]::eU X::eU [Row u eS4 (eM fs 0 ds)]::H) hsb (KO C)) ?_;refine gk (k:=jnE ((z.e.s,lp,g)) (q:=?_));dsimp only;exact⟨U,by rw[C];exact SW U,a8,a6 g (by rw[C];simp)⟩
  rintro⟨w,lp,g⟩ ⟨U,hpo,hlpl,hgpl⟩
  try dsimp only[Yd,Ye]at*
  have hk0:((lp++ [g]).map pgV).length=lp.length+1:=aq;have hk2:((lp++ [g]).map pgV)[lp.length]? =some (g.d,g.s):=by
   rw[Xp,Yu aq,show lp.length-(lp.map pgV).length=0 from aq];all_goals rfl
  have hil:=eJ g.pos;refine ws_ (wr_ (e_ mv (e_ lnn ?_)));refine e_ (evq isb (congrArg (Value.int .i64) (show _=((lp.length:Nat):Int)from a8))) (go ?_);refine wD [9,10,13] (λk H=>(k=4→Sl H w ePo ((lp++ [g]).map pgV))∧(k=5→Sl H w ePo ((lp++ [g]).map pgV))∧(k=6→Sl H w ePo ((lp++ [g]).map pgV))∧(k=8→dQ H N [.int .i64 ((f:Nat):Int),.string q,.int .i64 ((d:Nat):Int),.int .i64 ((p:Nat):Int)])∧(k=11→∃R:List (Nat×SV),R.length=lp.length+1∧Sl H w ePo R)∧(k=12→∃R:List (Nat×SV),R.length=lp.length+1∧Sl H w ePo R)) (aF 0 (k:=aF 1 (k:=aF 2 (k:=aF 3 (k:=?_)))));refine aN 4 rfl (λH hH=>by have hN:=hH.1 rfl;exact ixa) ?_;refine aN 5 rfl (λH hH=>by have hN:=hH.2.1 rfl;exact fle) ?_;refine aN 6 rfl (λH hH=>by have hN:=hH.2.2.1 rfl;exact lfl (hy:=hk2)) ?_;refine aF 7 (k:=?_);refine go ?_;refine kg 9 rfl aa rfl (λk hk=>⟨λhi=>by subst hi;first|infer_instance|(refine⟨_,?_,inferInstance⟩;simp),λhi=>by subst hi;first|infer_instance|(refine⟨_,?_,inferInstance⟩;simp),λhi=>by subst hi;first|infer_instance|(refine⟨_,?_,inferInstance⟩;simp),λhi=>by subst hi;first|infer_instance|(refine⟨_,?_,inferInstance⟩;simp),λhi=>by subst hi;first|infer_instance|(refine⟨_,?_,inferInstance⟩;simp),λhi=>by subst hi;first|infer_instance|(refine⟨_,?_,inferInstance⟩;simp)⟩) (fK eI rfl rfl) ?_;rintro _ _ ⟨s149,rfl,rfl⟩;refine kg 10 rfl aa rfl (λk hk=>⟨λhi=>by subst hi;first|infer_instance|(refine⟨_,?_,inferInstance⟩;simp),λhi=>by subst hi;first|infer_instance|(refine⟨_,?_,inferInstance⟩;simp),λhi=>by subst hi;first|infer_instance|(refine⟨_,?_,inferInstance⟩;simp),λhi=>absurd hk aB,λhi=>by subst hi;first|infer_instance|(refine⟨_,?_,inferInstance⟩;simp),λhi=>by subst hi;first|infer_instance|(refine⟨_,?_,inferInstance⟩;simp)⟩) (gf rfl rfl rfl rfl ab ab) ?_;rintro _ _ ⟨b,rfl,rfl⟩;rw[show dT g.pos++ [((p:Nat):Int)]=dT (g.pos++ [p])from by simp[dT]];refine aN 11 rfl (λH hH=>by have hN:=hH.2.2.2.2.1 rfl;exact(by obtain⟨R,d4,d2⟩:=hN;exact ixa (xs:=R))) ?_;refine aN 12 rfl (λH hH=>by have hN:=hH.2.2.2.2.2 rfl;exact(by obtain⟨R,d4,d2⟩:=hN;exact fle (xs:=R))) ?_;refine kg 13 rfl aa rfl (λk hk=>⟨λhi=>by subst hi;first|infer_instance|(refine⟨_,?_,inferInstance⟩;simp),λhi=>by subst hi;first|infer_instance|(refine⟨_,?_,inferInstance⟩;simp),λhi=>absurd hk aB,λhi=>absurd hk aB,λhi=>by subst hi;first|infer_instance|(refine⟨_,?_,inferInstance⟩;simp),λhi=>by subst hi;first|infer_instance|(refine⟨_,?_,inferInstance⟩;simp)⟩) (nT (i:=lp.length) (o:=1) rfl rfl rfl (g.d,g.s) hk2 ae (a:=(g.d,b)) rfl) ?_;rintro _ _ ⟨rfl,rfl⟩;rw[show((lp++ [g]).map pgV).set lp.length (g.d,b)=(lp++ [(⟨d,b,g.pos++ [p]⟩:PG)]).map pgV from by
   rw[Xp,Ux _ _ aq,show lp.length-(lp.map pgV).length=0 from aq,U];simp[pgV]]
  refine FF aa (λk hk=>⟨λhi=>absurd hk aB,λhi=>absurd hk aB,λhi=>absurd hk aB,λhi=>absurd hk aB,λhi=>by subst hi;first|infer_instance|(refine⟨_,?_,inferInstance⟩;simp),λhi=>absurd hk aB⟩) (qn_ (wr_ (e_ mv (e_ mv (e_ isb (e_ mv (e_ (ixa (i:=n-1) (hj:=by omega)) (go ?_))))))));refine s_ (nT (i:=n-1) (o:=2) rfl rfl rfl (z.f,z.e.key,z.e.s) c1 ae (a:=(z.f,z.e.key,w)) rfl) ?_;rintro _ _ ⟨rfl,rfl⟩;rw[show((h++ [z]).map rwV).set (n-1) (z.f,z.e.key,w)=(h++ [(⟨f,⟨q,w,lp++ [⟨d,b,g.pos++ [p]⟩]⟩⟩:RG)]).map rwV from by
   rw[Xp,Ux _ _ aQ,show n-1-(h.map rwV).length=0 from aQ,J,S];simp[rwV]]
  refine eu (dH.trans (H':=Row b eI (dT (g.pos++ [p]))::Cl pgH lp::Row w ePo ((lp++ [(⟨d,b,g.pos++ [p]⟩:PG)]).map pgV)::Cl rgH h::Row r2 eRw ((h++ [(⟨f,⟨q,w,lp++ [⟨d,b,g.pos++ [p]⟩]⟩⟩:RG)]).map rwV)::eU X::eU [Row u eS4 (eM fs 0 ds)]::H) hsb ((wj ⟨d,b,g.pos++ [p]⟩).trans (dH.trans (H':=Row w ePo ((lp++ [(⟨d,b,g.pos++ [p]⟩:PG)]).map pgV)::Cl pgH (lp++ [(⟨d,b,g.pos++ [p]⟩:PG)])::Cl rgH h::Row r2 eRw ((h++ [(⟨f,⟨q,w,lp++ [⟨d,b,g.pos++ [p]⟩]⟩⟩:RG)]).map rwV)::eU X::eU [Row u eS4 (eM fs 0 ds)]::H) hsb (Oq ⟨f,⟨q,w,lp++ [⟨d,b,g.pos++ [p]⟩]⟩⟩)))) ?_;refine go ?_;refine lN ((j+1,r2,h++ [⟨f,⟨q,w,lp++ [⟨d,b,g.pos++ [p]⟩]⟩⟩])) ?_
  try dsimp only
  exact⟨a8,by rw[a9,vj,←V,b5,hpo,Ag];simp[pgP]⟩
 have d5:j=out.length:=aW;rw[d5,Xn]at V;refine gR ?_;exact⟨_,hsb,r,cs,out,rfl,L,d0,V,rfl⟩
theorem Ia {R:dD}{zs:List RG}{out:List iD}{b:Nat}{c:ByteArray}(h:dH H R) (hs0:Sl R s eRw (zs.map rwV)) (w:∀z∈zs,gV R z.e.s (z.e.l.map pgP)) (hf:fs.length≤16) (hfd:b<fs.length) (hp:out.Perm (eM fs 0 ds)) (x:out.Pairwise le4) (ha:pg zs=nO (out.map ji)) (hn:zs.length≤1000000000000):
 SC G prog 36 [s.val,.agg #[iN b,.string c]] H (λv B=>(∃r:SV,v=r.val∧gV R r (nC fs ds b c))∧B=H):=by
 haveI hs:=ee h hs0;haveI hnil:∀u,Sl u SV.nil ePo []:=λu=>⟨λL hL=>⟨rfl,Xl _,.inl ⟨rfl,rfl⟩⟩⟩;have hzl:(zs.map rwV).length=zs.length:=Yh ..;obtain⟨h,t⟩:=Wz a8 hp x;rw[←ha]at h;have g:nC fs ds b c=jI (ofK (fU fs ds) (b::dC c)):=by rw[nC,Xw a8]
 refine sWk func36 ?_;refine gk (k:=bxx (k:=λb3=>?_));refine gk (k:=e8 Nat (λy=>y≤zs.length∧∀z∈zs.take y,¬(z.f=b∧z.e.key=c)) (λy=>[(9,iN y)]) [(3,_),(7,_),(8,_)] (λy=>[]) _ (λy=>zs.length-y) (0) (h0:=?_) (k:=?_))
 ·exact⟨Yl _,aq⟩
 rintro i ⟨hi,hno⟩
 try dsimp only[Yd,Ye]at*
 refine gW (λh1=>?_) λh1=>?_
 ·obtain⟨z,d⟩:∃z,zs[i]? =some z:=⟨_,Yi ao⟩;have j:(zs.map rwV)[i]? =some (z.f,z.e.key,z.e.s):=by rw[Xd,d];all_goals rfl
  have a:=Yj d;refine wk_ (qn_ (ws_ (wb_ (ws_ (wr_ (e_ ixa (e_ (gr (hy:=j)) (alc (k:=λb6=>?_)))))))));refine gk (k:=dV 6 24 (k:=λh2=>gk (k:=eg_ tH (gk (k:=edq)))) (q:=go ?_));refine wi_ (k:=λh3=>?_) (m:=λh3=>?_)
  ·have hfk:z.f=b∧z.e.key=c:=by have h9:=h3;exact⟨a8,jy.1 h9.2⟩
   have l:=I6 h t (e:=(z.f::dC z.e.key,z.e.l.map pgP)) (Xt.2 ⟨z,a,rfl⟩);refine gR ?_;exact⟨_,hsb,⟨z.e.s,rfl,by
    rw[g,←hfk.1,←hfk.2];have h8:z.e.l.map pgP=jI (ofK (fU fs ds) (z.f::dC z.e.key)):=l;rw[←h8];exact w z a⟩,rfl⟩
  have n:¬(z.f=b∧z.e.key=c):=λA=>by
   rcases h3 with c9|c9
   ·omega
   ·exact c9 (by rw[A.2])
  refine go ?_;refine lN (i+1) ?_
  try dsimp only
  exact⟨a8,λy hy=>by
   rw[dK d]at hy;rcases Xm.1 hy with hy|hy
   ·exact hno y hy
   ·rw[Vb.1 hy];exact n⟩
 obtain rfl:i=zs.length:=ao;rw[Xn]at hno;have f:nC fs ds b c= []:=by
  rw[g];refine Km h t λe he h8=>?_;obtain⟨z,a,rfl⟩:=Xt.1 he;obtain⟨h1,h2⟩:=List.cons.inj h8;exact hno z a ⟨h1,jy.1 h2⟩
 refine gR ?_;exact⟨_,hsb,⟨SV.nil,rfl,by rw[f];exact⟨[],inferInstance,rfl,λi p q h8=>by cases h8⟩⟩,rfl⟩
end
end Go.Sx
