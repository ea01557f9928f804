import Derived.Test.YtefgpomabdplbaaGreatDoorQ33
set_option linter.unusedVariables false
set_option linter.unusedSimpArgs false
set_option linter.unusedSectionVars false
set_option linter.unnecessarySimpa false
set_option maxHeartbeats 0
namespace Go.Sx
open Go Go.Proofs
set_option maxRecDepth 100000
theorem LX {G:cK}{H R:cG}{b:Nat}{im:SV}{ps:List Po} [hg:Glb G R] [hr:Rem H Vr b [im.val, .int .i64 0, .int .i64 0, .slice none 0 0] R] [hi:Sl R im eB (dx ps)] (hok:fW 0 ps) (hsm:e8 ps) (hn:(dx ps).length≤10000000000):SC G Tryz.prog 121 [.pointer (some ⟨b,0,none⟩)] H (fun v H'=> ∃sk:SV,v= .bool true∧H'=Vr b [im.val, .int .i64 ((ps.length:Nat):Int), .int .i64 ((dg ps:Nat):Int),sk.val]::Row sk eSk (fj ps)::R):=by
 have hb:=z8 hsm
 have hto:=tF hok
 have hte:=Ck ps
 have hpl:=hsm.1
 obtain⟨xs,hxs⟩:∃xs,xs=dx ps:=⟨_,rfl⟩
 have hi2:Sl R im eB xs:=by rw[hxs];exact hi
 clear hi
 rw[←hxs]at hb hte hn
 obtain⟨B,hB⟩:∃B,B=dk ps:=⟨_,rfl⟩
 have hB16:ps.length≤16*B∧16*B≤ps.length+15:=by rw[hB];unfold dk;omega
 obtain⟨A,hA⟩:∃A,A=(uv ps.length).length+(uv (dg ps)).length:=⟨_,rfl⟩
 have hd0:gP 0 (xs.drop 0)= .ok (ps.length,(uv ps.length).length):=by rw[List.drop_zero,hxs,uk];exact wx _ (aa)
 have hd1:gP 0 (xs.drop (0+(uv ps.length).length))= .ok (dg ps,(uv (dg ps)).length):=by rw[Nat.zero_add,hxs,uk,List.drop_left];exact wx _ (aa)
 have hlen:A+(cO ps B).2.1.length≤xs.length:=by rw[hxs,uk,hA,hB];simp only[Ya];omega
 have hoff0:kz ps 0=A+(cO ps B).2.1.length:=by rw[kz,Ca,hA,hB];simp[cO]
 have hoffB:kz ps B=xs.length:=by rw[hB,Ju,hxs]
 refine SC.rem (h:=hr) ?_
 refine sWk Tryz.func121 Tryz.ntmps121 ?_
 refine go ?_
 refine c1_ rfl (iS (xs:=xs) (aa)) (k:=?_)
 rintro _ _ ⟨br,rfl,rfl⟩
 refine go ?_
 refine d1_ rfl (EN (aa) (aa) hb hd0) (k:=e_ mv (k:=e_ exr (k:=e_ exr (k:=e_ asn (k:=e_ asn (k:=on_ (qn_ (ws_ (ws_ (wr_ (e_ mv (k:=?_))))))))))))
 refine e_ (cM rfl) (k:=?_)
 refine e_ mv (k:=eg_ mv (k:=?_))
 refine eg_ (gn rfl rfl _ 16 rfl rfl (aa) (by first|decide|(show _≤(18446744073709551615:Int);omega))) (k:=?_)
 refine eg_ mv (k:=eg_ nck (k:=eg_ fla (k:=eg_ ldv (k:=eg_ lnn (k:=?_)))))
 refine eg_ ((ae)) (k:=?_)
 refine gk (k:=wi_ (k:=fun h1=>?_) (m:=fun h1=>?_))
 ·exact absurd h1 (aa)
 refine go ?_
 refine d1_ rfl (EN (aa) (aa) hb hd1) (k:=?_)
 rw[Nat.zero_add,←hA]
 refine e_ mv (k:=e_ exr (k:=e_ exr (k:=e_ asn (k:=e_ asn (k:=on_ (qn_ (ws_ (ws_ (wr_ (e_ mv (k:=?_)))))))))))
 refine e_ (cM rfl) (k:=?_)
 refine e_ mv (k:=eg_ mv (k:=eg_ mv (k:=eg_ nck (k:=eg_ fla (k:=eg_ ldv (k:=eg_ lnn (k:=?_)))))))
 refine eg_ ((ae)) (k:=?_)
 refine gk (k:=wi_ (k:=fun h2=>?_) (m:=fun h2=>?_))
 ·exact absurd h2 (aa)
 refine wk_ (qn_ (ws_ (wr_ (e_ mv (k:=e_ mv (k:=e_ mv (k:=?_)))))))
 refine e_ (dy rfl (aa)) (k:=?_)
 refine e_ mv (k:=?_)
 refine e_ (dy rfl (aa)) (k:=?_)
 refine e_ nck (k:=e_ fla (k:=sto (k:=e_ nck (k:=e_ fla (k:=sto (k:=on_ (qn_ (ws_ (ws_ (wr_ (?_)))))))))))
 refine du (cJ.nilRow (e:=eSk) cJ.refl) ?_
 rw[show Row SV.nil eSk ([]:List Sk)=Row SV.nil eSk (nt ps 0)from rfl]
 refine gk (k:=dt (Nat×Nat×SV) (fun y=> y.1=16*y.2.1∧y.2.1≤B) (fun y=> [(7, .int .i64 ((y.1:Nat):Int))]) [(0,_),(3,_)] (fun y=> [Vr b [im.val, .int .i64 ((ps.length:Nat):Int), .int .i64 ((dg ps:Nat):Int),y.2.2.val],Row y.2.2 eSk (nt ps y.2.1),Rd br (xs,A+(cO ps y.2.1).2.1.length)]) _ (fun y=> B - y.2.1) ((0,0,SV.nil)) (h0:=?_) (k:=?_))
 ·try dsimp only
  exact⟨rfl,Yl _⟩
 rintro⟨i,k,u⟩ ⟨hi,hk⟩
 try dsimp only[Yd,Ye]at*
 refine gk (k:=wi_ (k:=fun h3=>?_) (m:=fun h3=>?_))
 ·have hkB:k<B:=by omega
  have hkb:k<dk ps:=aa
  have hnb:=q9 hok hkb
  have hnb6:=(iA hsm (k+1)).2.2
  have hnbe:(cO ps (k+1)).1=dS (cO ps k).1 (de ps k):=rfl
  obtain⟨r,hr0⟩:=DI ps hkb
  rw[←hnbe,←hA,←hxs]at hr0
  obtain⟨_,hpl2⟩:=ox ps hkb
  rw[←hxs]at hpl2
  have hbn:=kQ hkb
  obtain⟨gp,hgp⟩:∃gp,gp=(cO ps (k+1)).1 - 1 - (cO ps k).1:=⟨_,rfl⟩
  rw[←hgp]at hr0
  obtain⟨K,hK⟩:∃K,K=A+(cO ps k).2.1.length:=⟨_,rfl⟩
  rw[←hK]at hr0
  have hr1:xs.drop (K+(uv gp).length)=uv (fY ps k)++r:=by rw[←List.drop_drop,hr0,List.drop_left]
  have hr2:=congrArg List.length hr0
  rw[Yo,Ya,Ya]at hr2
  have hu1:=oV gp
  have hrd0:fG 2147483647 (xs.drop K)= .ok (gp,(uv gp).length):=by rw[hr0];exact ey _ (aa) (aa)
  have hrd1:fG xs.length (xs.drop (K+(uv gp).length))= .ok (fY ps k,(uv (fY ps k)).length):=by rw[hr1];exact ey _ (aa) (aa)
  have hskl:=pP ps k
  have hKn:K+(uv gp).length+(uv (fY ps k)).length=A+(cO ps (k+1)).2.1.length:=by
   simp only[cO,Ya];rw[←hnbe,←hgp,hK];simp only[fY];omega
  rw[←hK]
  refine wk_ (qn_ (ws_ (wb_ (ws_ (wr_ (e_ mv (k:=e_ mv (k:=e_ nck (k:=e_ fla (k:=e_ ldv (k:=?_)))))))))))
  refine e_ (evq lnn (congrArg (fun n:Nat=> Value.int .i64 (n:Int)) hskl)) (k:=?_)
  refine d2_ rfl (A5 (l:=nt ps k) (nb:=(cO ps k).1) (aa) (Mm hok (k:=k) (aa))) (k:=go ?_)
  refine d2_ rfl (sj (most:=2147483647) (aa) (aa) hb (aa) hrd0) (k:=e_ mv (k:=e_ exr (k:=e_ exr (k:=e_ asn (k:=e_ asn (k:=on_ (qn_ (ws_ (ws_ (wr_ (e_ mv (k:=?_))))))))))))
  refine e_ (cM rfl) (k:=?_)
  refine gk (k:=wi_ (k:=fun h4=>?_) (m:=fun h4=>?_))
  ·exact absurd h4 (aa)
  refine go ?_
  refine d2_ rfl (sj (most:=xs.length) (aa) (aa) hb (aa) hrd1) (k:=?_)
  rw[hKn]
  refine e_ mv (k:=e_ exr (k:=e_ exr (k:=e_ asn (k:=e_ asn (k:=on_ (qn_ (ws_ (ws_ (wr_ (e_ mv (k:=?_)))))))))))
  refine e_ (cM rfl) (k:=?_)
  refine gk (k:=eg (k:=go ?_))
  refine df cI (fun i=> [18,19,22].contains i) (fun k H=> (k=4→cQ H b [im.val, .int .i64 ((ps.length:Nat):Int), .int .i64 ((dg ps:Nat):Int),u.val])∧(k=12→cQ H b [im.val, .int .i64 ((ps.length:Nat):Int), .int .i64 ((dg ps:Nat):Int),u.val])) (af_ 0 (q:=cD fun H hH=>mv) (k:=af_ 1 (q:=cD fun H hH=>mv) (k:=af_ 2 (q:=cD fun H hH=>nck) (k:=af_ 3 (q:=cD fun H hH=>fla) (k:=?_)))))
  refine cE 4 rfl rfl (a8) rfl (cD fun H hH=>ak) (?_)
  refine af_ 5 (q:=cD fun H hH=>mv) (k:=af_ 6 (q:=cD fun H hH=>mv) (k:=af_ 7 (q:=cD fun H hH=>iad) (k:=?_)))
  refine cE 8 rfl rfl (a8) rfl (cD fun H hH=>evq iad (congrArg (Value.int .i64) (show _=(((cO ps (k+1)).1 - 1:Nat):Int)from aa))) (?_)
  refine af_ 9 (q:=cD fun H hH=>mv) (k:=af_ 10 (q:=cD fun H hH=>nck) (k:=af_ 11 (q:=cD fun H hH=>fla) (k:=?_)))
  refine cE 12 rfl rfl (a8) rfl (cD fun H hH=>aE) (?_)
  refine af_ 13 (q:=cD fun H hH=>mv) (k:=af_ 14 (q:=cD fun H hH=>isb) (k:=?_))
  refine cE 15 rfl rfl (a8) rfl (cD fun H hH=>evq (mN rfl rfl) (congrArg (Value.int .i64) (show _=(((de ps k).length:Nat):Int)from aa))) (?_)
  refine af_ 16 (q:=cD fun H hH=>mv) (k:=af_ 17 (q:=cD fun H hH=>bld [(0,_),(1,_),(3,_)]) (k:=?_))
  refine cN 18 rfl (a8) rfl (fun k hk=> ⟨fun hi=> ab,fun hi=> ab⟩) (ew eSk rfl rfl) ?_
  rintro _ _ ⟨s123,rfl,rfl⟩
  refine cN 19 rfl (a8) rfl (fun k hk=> ⟨fun hi=> ab,fun hi=> ab⟩) (eY rfl rfl rfl rfl (af) (af)) ?_
  rintro _ _ ⟨s124,rfl,rfl⟩
  rw[show nt ps k++ [((cO ps (k+1)).1 - 1,(de ps k).length,0,fY ps k)]=nt ps (k+1)from(D2 ps k).symm]
  refine af_ 20 (q:=cD fun H hH=>nck) (k:=af_ 21 (q:=cD fun H hH=>fla) (k:=?_))
  refine cN 22 rfl (a8) rfl (fun k hk=> ⟨fun hi=> absurd hk (ad),fun hi=> ab⟩) (dM rfl rfl rfl) ?_
  rintro _ _ ⟨rfl,rfl⟩
  refine db (a8) (fun k hk=> ⟨fun hi=> absurd hk (ad),fun hi=> absurd hk (ad)⟩) (go ?_)
  refine ln_ ((i+16,k+1,s124)) (k:=?_)
  try dsimp only
  exact⟨aa,aa⟩
 obtain rfl:k=B:=aa
 have hskl:=pP ps k
 refine go ?_
 refine d1_ rfl (tl) (k:=?_)
 rw[←hoff0,show nt ps k=skM ps 0 from by rw[hB,Od]]
 refine e_ asn (k:=on_ (qn_ (ws_ (ws_ (wr_ (e_ mv (k:=e_ nck (k:=e_ fla (k:=e_ ldv (k:=?_))))))))))
 have hml:=wk (l:=ps) (i:=0) (Yl _)
 refine e_ (evq lnn (congrArg (fun n:Nat=> Value.int .i64 (n:Int)) (hml.trans hB.symm))) (k:=?_)
 refine gk (k:=dt (Nat) (fun y=> y≤k) (fun y=> [(12, .int .i64 ((kz ps y:Nat):Int)),(136, .int .i64 ((y:Nat):Int))]) [(0,_),(135,_)] (fun y=> [Row u eSk (skM ps y)]) _ (fun y=> k - y) (0) (h0:=?_) (k:=?_))
 ·try dsimp only
  exact Yl _
 rintro i hik
 try dsimp only[Yd,Ye]at*
 refine gk (k:=wi_ (k:=fun h5=>?_) (m:=fun h5=>?_))
 ·have hib:i<dk ps:=by omega
  have hml:=wk (l:=ps) (i:=i) (aa)
  have hml1:=wk (l:=ps) (i:=i+1) (aa)
  have hgt:=J5 hib
  have hos:=FQ ps i
  obtain⟨_,hpl2⟩:=ox ps hib
  rw[←hxs]at hpl2
  refine go ?_
  refine go ?_
  refine s_ (rz (o:=2) (a:=iZ ps i) rfl rfl rfl (sk0 ps i) (J6 hib) (ag) rfl) (k:=?_)
  rintro _ _ ⟨rfl,rfl⟩
  rw[J4 hib]
  refine go ?_
  refine cX cI (as_ 0 (q:=mv) (k:=as_ 1 (q:=nck) (k:=as_ 2 (q:=fla) (k:=as_ 3 (q:=ldv) (k:=as_ 4 (q:=mv) (k:=as_ 5 (q:=ixa) (k:=as_ 6 (q:=fle) (k:=as_ 7 (q:=lfl (hy:=hgt)) (k:=as_ 8 (q:=mv) (k:=as_ 9 (q:=nck) (k:=as_ 10 (q:=fla) (k:=as_ 11 (q:=ldv) (k:=as_ 12 (q:=lnn) (k:=?_))))))))))))))
  refine as_ 13 (q:=mv) (k:=as_ 14 (q:=isb) (k:=as_ 15 (q:=igt) (k:=az_ (k:=gk (k:=wi_ (k:=fun h6=>?_) (m:=fun h6=>?_))))))
  ·exact absurd h6 (by show ¬_;simp only[iZ];omega)
  refine wk_ (qn_ (wr_ (e_ mv (k:=e_ mv (k:=e_ nck (k:=e_ fla (k:=e_ ldv (k:=e_ mv (k:=e_ ixa (k:=e_ fle (k:=e_ (lfl (hy:=hgt)) (k:=?_))))))))))))
  refine e_ (evq iad (congrArg (Value.int .i64) (show((kz ps i:Nat):Int)+((fY ps i:Nat):Int)=((kz ps (i+1):Nat):Int)from aa))) (k:=?_)
  refine go ?_
  refine ln_ (i+1) (k:=?_)
  try dsimp only
  omega
 obtain rfl:i=k:=aa
 rw[show skM ps i=fj ps from by rw[hB,J7]]
 refine we_ (qe_ (le_ (bh_ (qn_ (ws_ (wr_ (e_ mv (k:=e_ mv (k:=e_ nck (k:=e_ fla (k:=e_ ldv (k:=e_ lnn (k:=?_)))))))))))))
 refine e_ (evq ieq (congrArg Value.bool (Ys (aa)))) (k:=?_)
 refine gk (k:=rt_ Tryz.results121 (k:=?_))
 exact⟨_,hsb,u,rfl,rfl⟩
theorem EA {ps:List Po}{k:Nat}:dg (ps.take (16*(k+1)))=dg (ps.take (16*k))+dg (de ps k):=by rw[←jt,jz]
theorem zu {l:List Po}(h:fW 0 l) {k:Nat}(hk:k<dk l) {p:Po}(hp:(de l k)[(de l k).length - 1]? =some p):p.1+1=(cO l (k+1)).1:=by
 have h2:=(kQ hk).1
 have:(de l k).getLast? =some p:=by rw[List.getLast?_eq_getElem?];exact hp
 show p.1+1=dS (cO l k).1 (de l k)
 rw[dS,this]
theorem Ow {b:Nat}{ps:List Po}{im sk:SV}{R:cG}:cJ (Vr b [im.val, .int .i64 ((ps.length:Nat):Int), .int .i64 ((dg ps:Nat):Int),sk.val]::Row im eB (dx ps)::Row sk eSk (fj ps)::R) (LPh (some b) im sk ps::R):=cJ.star (F:= [Vr b [im.val, .int .i64 ((ps.length:Nat):Int), .int .i64 ((dg ps:Nat):Int),sk.val],Row im eB (dx ps),Row sk eSk (fj ps)]) cJ.refl
theorem LM {G:cK}{H:cG}{s:SV}{ps:List Po} [hg:Glb G H] [hs:Sl H s eB (dx ps)] (hok:fW 0 ps) (hsm:e8 ps) (hn:(dx ps).length≤10000000000):SC G Tryz.prog 67 [s.val] H (fun v H'=> ∃(b:Nat) (im sk:SV),v= .tuple #[.pointer (some ⟨b,0,none⟩), .nilIface]∧H'=LPh (some b) im sk ps::H):=by
 have hto:=tF hok
 have hte:=Ck ps
 have hsl:=jl ps
 obtain⟨B,hB⟩:∃B,B=dk ps:=⟨_,rfl⟩
 have hB16:ps.length≤16*B∧16*B≤ps.length+15:=by rw[hB];unfold dk;omega
 refine sWk Tryz.func67 Tryz.ntmps67 ?_
 refine gk (k:=gz eSV (k:=fun s13=>?_))
 refine c1_ rfl (sI (xs:=dx ps) (aa)) (k:=?_)
 rintro _ _ ⟨im,rfl,rfl⟩
 refine e_ (bld [(0,_)]) (k:=bxx (k:=fun b16=>?_))
 refine go ?_
 refine c1_ rfl (LX hok hsm hn) (k:=?_)
 rintro _ _ ⟨sk,rfl,rfl⟩
 refine gk (k:=eg (k:=go ?_))
 refine gk (k:=dt (Nat) (fun y=> y≤B) (fun y=> [(5, .int .i64 ((dg (ps.take (16*y)):Nat):Int)),(26, .int .i64 ((y:Nat):Int))]) [(4,_),(24,_),(25,_)] (fun y=> []) _ (fun y=> B - y) (0) (h0:=?_) (k:=?_))
 ·try dsimp only
  exact Yl _
 rintro kb hk
 try dsimp only[Yd,Ye]at*
 refine gk (k:=wi_ (k:=fun h1=>?_) (m:=fun h1=>?_))
 ·have hkb:kb<dk ps:=by omega
  have hget:=ka hkb
  obtain⟨hpc,hpl⟩:=ox ps hkb
  have hb1:=kP hok kb
  have hb2:=m7 hsm kb
  have hb3:=kQ hkb
  have hnb:=(iA hsm kb).2.2
  have hnb1:=(iA hsm (kb+1)).2.2
  have hst:=q9 hok hkb
  have hcut:∀(H2:cG) [Sl H2 im eB (dx ps)],Sl H2 (im.cut3 1 (iZ ps kb).2.2.1 ((iZ ps kb).2.2.1+(iZ ps kb).2.2.2) ((iZ ps kb).2.2.1+(iZ ps kb).2.2.2)) eB (jN (cO ps kb).1 (de ps kb)):=fun H2 hi=> by
   have:=Sl.cut3 hi (lo:=kz ps kb) (hi:=kz ps kb+fY ps kb) (aa) hpl
   rw[hpc]at this;exact this
  have hs1:(iZ ps kb).1=(cO ps (kb+1)).1 - 1:=rfl
  have hs2:(iZ ps kb).2.1=(de ps kb).length:=rfl
  have htb:=EA (ps:=ps) (k:=kb)
  have htl:=jU ps (16*kb)
  have htl1:=jU ps (16*(kb+1))
  refine wk_ (qn_ (ws_ (wb_ (ws_ (wr_ (e_ mv (k:=e_ ixa (k:=e_ (jn (hy:=hget)) (k:=alc (k:=fun b7=>?_))))))))))
  refine go ?_
  refine df cI (fun i=> [8].contains i) (fun k H=> (k=2→cQ H b16 [im.val, .int .i64 ((ps.length:Nat):Int), .int .i64 ((dg ps:Nat):Int),sk.val]∧Sl H sk eSk (fj ps)∧Sl H im eB (dx ps))∧(k=5→cQ H b16 [im.val, .int .i64 ((ps.length:Nat):Int), .int .i64 ((dg ps:Nat):Int),sk.val]∧Sl H sk eSk (fj ps))∧(k=7→cQ H b7 [.int .i64 (((iZ ps kb).1:Nat):Int), .int .i64 (((iZ ps kb).2.1:Nat):Int), .int .i64 (((iZ ps kb).2.2.1:Nat):Int), .int .i64 (((iZ ps kb).2.2.2:Nat):Int)])) (af_ 0 (q:=cD fun H hH=>mv) (k:=af_ 1 (q:=cD fun H hH=>mv) (k:=?_)))
  refine cE 2 rfl rfl (a8) rfl (fun H hH=> by have hN:=hH.1 rfl;obtain⟨n1,n2,n3⟩:=hN;exact cW (vs:= [_,_]) rfl (Bz (l:=fj ps) (e:=iZ ps kb) hget hpl hn)) (?_)
  refine af_ 3 (q:=cD fun H hH=>mv) (k:=af_ 4 (q:=cD fun H hH=>mv) (k:=?_))
  refine cE 5 rfl rfl (a8) rfl (fun H hH=> by have hN:=hH.2.1 rfl;obtain⟨n1,n2⟩:=hN;exact cW (vs:= [_,_]) rfl (A5 (l:=fj ps) (nb:=(cO ps kb).1) (aa) (KZ hok (aa)))) (?_)
  refine af_ 6 (q:=cD fun H hH=>fla) (k:=?_)
  refine cE 7 rfl rfl (a8) rfl (cD fun H hH=>aZ) (?_)
  refine cN 8 rfl (a8) rfl (fun k hk=> ⟨fun hi=> ah,fun hi=> ah,fun hi=> ah⟩) (cW (vs:= [_,_,_]) rfl (Bt (nb:=(cO ps kb).1) (l:=de ps kb) hb1 hb2 (aa) hnb)) ?_
  rintro _ _ ⟨sl,zs,hzs,rfl,rfl⟩
  have hzl:zs.length=(de ps kb).length:=by rw[←hzs,Yh]
  have hzv:(zs.map pgV).length=(de ps kb).length:=by rw[Yh,hzl]
  obtain⟨z,hz⟩:∃z,zs[(de ps kb).length - 1]? =some z:=⟨_,Yi (aa)⟩
  have hzV:(zs.map pgV)[(de ps kb).length - 1]? =some (z.d,z.s):=by rw[Xd,hz];all_goals rfl
  have hzb:(zs.map pgP)[(de ps kb).length - 1]? =some (pgP z):=by rw[Xd,hz];all_goals rfl
  rw[hzs]at hzb
  have hzd:z.d+1=(cO ps (kb+1)).1:=zu hok hkb hzb
  refine af_ 9 (q:=cD fun H hH=>mv) (k:=af_ 10 (q:=cD fun H hH=>exr) (k:=af_ 11 (q:=cD fun H hH=>exr) (k:=af_ 12 (q:=cD fun H hH=>asn) (k:=af_ 13 (q:=cD fun H hH=>asn) (k:=db (a8) (fun k hk=> ⟨fun hi=> absurd hk (ad),fun hi=> absurd hk (ad),fun hi=> absurd hk (ad)⟩) (go ?_))))))
  refine cX cI (as_ 0 (q:=mv) (k:=as_ 1 (q:=k8) (k:=as_ 2 (q:=mv) (k:=at2 3 (q:=mv) (k:=at2 4 (q:=fla) (k:=at2 5 (q:=ldv) (k:=?_)))))))
  refine ld 6 rfl rfl rfl rfl (a8) rfl (dz (evq isb (congrArg (Value.int .i64) (show _=(((de ps kb).length - 1:Nat):Int)from aa)))) (?_)
  refine at2 7 (q:=ixa) (k:=at2 8 (q:=fle) (k:=at2 9 (q:=lfl (hy:=hzV)) (k:=at2 10 (q:=fla) (k:=at2 11 (q:=ldv) (k:=at2 12 (q:=ine) (k:=as_ 13 (q:=pkf) (k:=az_ (k:=gk (k:=wi_ (k:=fun h2=>?_) (m:=fun h2=>?_))))))))))
  ·exact absurd h2 (aa)
  refine gk (k:=dt (Nat) (fun y=> y≤zs.length) (fun y=> [(5, .int .i64 ((dg (ps.take (16*kb))+dg ((de ps kb).take y):Nat):Int)),(60, .int .i64 ((y:Nat):Int))]) [(4,_),(24,_),(25,_),(26,_),(58,_),(59,_)] (fun y=> []) _ (fun y=> zs.length - y) (0) (h0:=?_) (k:=?_))
  ·try dsimp only
   exact Yl _
  rintro j hj
  try dsimp only[Yd,Ye]at*
  refine gk (k:=wi_ (k:=fun h3=>?_) (m:=fun h3=>?_))
  ·obtain⟨y,hy⟩:∃y,zs[j]? =some y:=⟨_,Yi (aa)⟩
   have hyV:(zs.map pgV)[j]? =some (y.d,y.s):=by rw[Xd,hy];all_goals rfl
   have hyP:(de ps kb)[j]? =some (pgP y):=by rw[←hzs,Xd,hy];all_goals rfl
   have hyt:=o9 hyP
   have htj:=jU (de ps kb) (j+1)
   have hys:∀H2:cG,Sl (Cl pgH zs::H2) y.s eI (cV y.pos):=fun H2=> dD (pX hy) inferInstance
   have hyl:=dO y.pos
   have hyp:(pgP y).2=y.pos:=rfl
   rw[hyp]at hyt
   refine wk_ (qn_ (ws_ (wb_ (ws_ (wr_ (e_ ixa (k:=e_ (jn (hy:=hyV)) (k:=alc (k:=fun b11=>?_)))))))))
   refine sto (k:=on_ (qn_ (wr_ (e_ mv (k:=e_ fla (k:=e_ ldv (k:=e_ lnn (k:=?_))))))))
   refine e_ (evq iad (congrArg (Value.int .i64) (show _=((dg (ps.take (16*kb))+dg ((de ps kb).take (j+1)):Nat):Int)from aa))) (k:=?_)
   refine go ?_
   refine ln_ (j+1) (k:=?_)
   try dsimp only
   omega
  obtain rfl:j=zs.length:=aa
  rw[show dg (ps.take (16*kb))+dg ((de ps kb).take zs.length)=dg (ps.take (16*(kb+1)))from by rw[hzl,List.take_length,htb]]
  refine go ?_
  refine ln_ (kb+1) (k:=?_)
  try dsimp only
  omega
 obtain rfl:kb=B:=aa
 rw[show dg (ps.take (16*kb))=dg ps from by rw[hB,n5]]
 refine go ?_
 refine gk (k:=wi_ (k:=fun h4=>?_) (m:=fun h4=>?_))
 ·(first|exact absurd rfl h4|exact(h4).elim|simp at h4)
 refine gk (k:=rt_ Tryz.results67 (k:=?_))
 exact⟨LPh (some b16) im sk ps::H,cJ.trans (H':=Vr b16 [im.val, .int .i64 ((ps.length:Nat):Int), .int .i64 ((dg ps:Nat):Int),sk.val]::Row im eB (dx ps)::Row sk eSk (fj ps)::H) (hsb) Ow,b16,im,sk,rfl,rfl⟩
theorem zG {G:cK}{P:Program}{f:FuncId}{args:List Value}{H H':cG}{K:Value→cG→Prop}(hs:cJ H H') (h:SC G P f args H' K):SC G P f args H K:=h.heap fun w hw=> hs.sat hw
theorem LK {G:cK}{H:cG}{b:Nat}{n:Int}{v0 v2 v3:Value} [cQ H b [v0, .int .i64 n,v2,v3]]:SC G Tryz.prog 36 [.pointer (some ⟨b,0,none⟩)] H (fun v H'=> v= .int .i64 n∧H'=H):=by
 refine sWk Tryz.func36 Tryz.ntmps36 ?_
 refine go ?_
 refine gk (k:=rt_ Tryz.results36 (k:=?_))
 exact⟨_,hsb,rfl,rfl⟩
class zI (H:cG) (lp:Option Nat) (im sk:outParam SV) (ps:outParam (List Po)):Prop where
 at_:∀p,lp=some p→cQ H p [im.val, .int .i64 ((ps.length:Nat):Int), .int .i64 ((dg ps:Nat):Int),sk.val]∧Sl H im eB (dx ps)∧Sl H sk eSk (fj ps)
instance {H:cG}{lp:Option Nat}{im sk:SV}{ps:List Po}:zI (LPh lp im sk ps::H) lp im sk ps:=⟨fun p hp=> by subst hp;exact⟨inferInstance,inferInstance,inferInstance⟩⟩
instance zI.tail {A:Hp}{H:cG}{lp:Option Nat}{im sk:SV}{ps:List Po} [h:zI H lp im sk ps]:zI (A::H) lp im sk ps:=⟨fun p hp=> by
 obtain⟨h1,h2,h3⟩:=h.at_ p hp
 exact⟨inferInstance,inferInstance,inferInstance⟩⟩
theorem wg {G:cK}{H:cG}{b:Nat}{lp:Option Nat}{im sk:SV}{ps:List Po}{v0 v1 v3 v4 v5 v6:Value} [cQ H b [v0,v1,lpV lp,v3,v4,v5,v6]] [hl:zI H lp im sk ps] (hn:lp=none→ps= []):SC G Tryz.prog 13 [.pointer (some ⟨b,0,none⟩)] H (fun v H'=> v= .int .i64 ((ps.length:Nat):Int)∧H'=H):=by
 refine sWk Tryz.func13 Tryz.ntmps13 ?_
 refine ws_ (wr_ (e_ asn (k:=on_ (qn_ (ws_ (ws_ (wr_ (e_ mv (k:=e_ nck (k:=e_ fla (k:=e_ ldv (k:=?_))))))))))))
 refine e_ (dU rfl) (k:=?_)
 refine gk (k:=wi_ (k:=fun h1=>?_) (m:=fun h1=>?_))
 ·have hln:lp=none:=by have h9:=h1;cases lp with|none=> rfl|some p=> simp at h9
  have hps:=hn hln
  refine gk (k:=rt_ Tryz.results13 (k:=?_))
  exact⟨_,hsb,by rw[hps];all_goals rfl,rfl⟩
 obtain⟨p,rfl⟩:∃p,lp=some p:=by have h9:=h1;cases lp with|none=> simp at h9|some p=> exact⟨p,rfl⟩
 obtain⟨hv1,hv2,hv3⟩:=hl.at_ p rfl
 refine go ?_
 refine d1_ rfl (LK (b:=p)) (k:=gk (k:=rt_ Tryz.results13 (k:=?_)))
 exact⟨_,hsb,rfl,rfl⟩
theorem HA {ps:List Po}{q:Nat}(h:q<ps.length):q / 16<dk ps∧q % 16<(de ps (q / 16)).length∧(de ps (q / 16))[q % 16]? =ps[q]? :=by
 have h1:q / 16<dk ps:=cp
 refine⟨h1,by rw[(kQ h1).2];omega,?_⟩
 rw[w2 (Nat.mod_lt _ (ag))]
 congr 1;omega
theorem KJ {ps:List Po}{zs:List PG}{k i q:Nat}(h:zs.map pgP=de ps k) (hi:(de ps k)[i]? =ps[q]?) (hq:q<ps.length):∃z:PG,zs[i]? =some z∧ps[q]? =some (pgP z):=by
 have hp:ps[q]? =some ps[q]:=Yi hq
 rw[←h,Xd]at hi
 cases hz:zs[i]? with
 |none=> rw[hz,hp]at hi;cases hi
 |some z=> exact⟨z,rfl,by rw[hz]at hi;exact hi.symm⟩
theorem xK {G:cK}{H R1 R2 R:cG}{b q:Nat}{lp:Option Nat}{im sk rd:SV}{ps:List Po}{zs:List PG}{blk:Int}{v0 v1 v3 v6:Value} [hg:Glb G R] [hr:Rem H Vr b [v0,v1,lpV lp,v3, .int .i64 blk,rd.val,v6] R1] [hr1:na R1 rd ePo (zs.map pgV) R2] [hr2:nd R2 (Cl pgH zs) R] [hl:zI R lp im sk ps] (hn:lp=none→ps= []) (hbk:uH ps zs blk) (hok:fW 0 ps) (hsm:e8 ps) (htt:dg ps≤100000000) (hq:q<ps.length):
 SC G Tryz.prog 165 [.pointer (some ⟨b,0,none⟩), .int .i64 ((q:Nat):Int)] H (fun v H'=> ∃(rd':SV) (zs':List PG) (blk':Int) (z:PG),uH ps zs' blk'∧ps[q]? =some (pgP z)∧(∀H2:cG,Sl (Cl pgH zs'::H2) z.s eI (cV z.pos))∧v= .agg [.int .i64 ((z.d:Nat):Int),z.s.val].toArray∧H'=Vr b [v0,v1,lpV lp,v3, .int .i64 blk',rd'.val,v6]::Row rd' ePo (zs'.map pgV)::Cl pgH zs'::R):=by
 have hpn:ps≠ []:=fun e=> by rw[e]at hq;simp at hq
 obtain⟨p,rfl⟩:∃p,lp=some p:=by cases lp with|none=> exact absurd (hn rfl) hpn|some p=> exact⟨p,rfl⟩
 obtain⟨hv1,hv2,hv3⟩:=hl.at_ p rfl
 obtain⟨hb1,hb2,hb3⟩:=HA hq
 have hen:=vM hsm (aa)
 have hpl:=hsm.1
 refine zG (cJ.rem hr (cJ.keep (gB hr1 (cJ.keep (fm hr2 cJ.refl))))) ?_
 refine sWk Tryz.func165 Tryz.ntmps165 ?_
 refine gk (k:=alc (k:=fun b4=>?_))
 refine on_ (qn_ (ws_ (wr_ (e_ mv (k:=?_)))))
 refine e_ (gn rfl rfl q 16 rfl rfl (ag) (aq)) (k:=?_)
 refine go ?_
 refine wi_ (k:=fun h1=>?_) (m:=fun h1=>?_)
 ·refine go ?_
  refine c2_ rfl (IN (l:=ps) hok hsm (aa) hb1) (k:=?_)
  rintro _ _ ⟨sl,zs2,hzs,rfl,rfl⟩
  obtain⟨z,hz,hzq⟩:=KJ hzs hb3 hq
  have hzl:(zs2.map pgV).length=(de ps (q / 16)).length:=by rw[←hzs,Yh,Yh]
  have hzv:(zs2.map pgV)[q % 16]? =some (z.d,z.s):=by rw[Xd,hz];all_goals rfl
  refine e_ nck (k:=e_ fla (k:=sto (k:=e_ nck (k:=e_ fla (k:=sto (k:=on_ (qn_ (ws_ (wr_ (e_ mv (k:=e_ nck (k:=e_ fla (k:=e_ ldv (k:=?_))))))))))))))
  refine e_ mv (k:=?_)
  refine e_ (kG rfl rfl q 16 rfl rfl (ag)) (k:=?_)
  refine e_ ixa (k:=e_ (jn (hy:=hzv)) (k:=gk (k:=rt_ Tryz.results165 (k:=?_))))
  exact⟨_,hsb,sl,zs2,((q / 16:Nat):Int),z, .inr ⟨_,rfl,hzs⟩,hzq,fun H2=> dD (pX hz) inferInstance,rfl,rfl⟩
 have hbe:blk=((q / 16:Nat):Int):=az
 have hzs:zs.map pgP=de ps (q / 16):=by
  rcases hbk with h1|⟨k,h1,h2⟩
  ·omega
  ·have:k=q / 16:=by omega
   rw[←this];exact h2
 obtain⟨z,hz,hzq⟩:=KJ hzs hb3 hq
 have hzl:(zs.map pgV).length=(de ps (q / 16)).length:=by rw[←hzs,Yh,Yh]
 have hzv:(zs.map pgV)[q % 16]? =some (z.d,z.s):=by rw[Xd,hz];all_goals rfl
 refine wk_ (qn_ (ws_ (wr_ (e_ mv (k:=e_ nck (k:=e_ fla (k:=e_ ldv (k:=e_ mv (k:=?_)))))))))
 refine e_ (kG rfl rfl q 16 rfl rfl (ag)) (k:=?_)
 refine e_ ixa (k:=e_ (jn (hy:=hzv)) (k:=gk (k:=rt_ Tryz.results165 (k:=?_))))
 exact⟨_,hsb,rd,zs,blk,z,hbk,hzq,fun H2=> dD (pX hz) inferInstance,rfl,rfl⟩
theorem F3 {G:cK}{H R1 R2 R:cG}{b:Nat}{lp:Option Nat}{im sk rd:SV}{c:CuS}{zs:List PG}{blk:Int}{v0 v1 v6:Value} [hg:Glb G R] [hr:Rem H Vr b [v0,v1,lpV lp, .int .i64 (((c.u:Nat):Int) - 1), .int .i64 blk,rd.val,v6] R1] [hr1:na R1 rd ePo (zs.map pgV) R2] [hr2:nd R2 (Cl pgH zs) R] [hl:zI R lp im sk c.ps] (hn:lp=none→c.ps= []) (hbk:uH c.ps zs blk) (hc:iK c):
 SC G Tryz.prog 132 [.pointer (some ⟨b,0,none⟩)] H (fun v H'=> v= .int .i64 (((eV c).length:Nat):Int)∧∃(rd':SV) (zs':List PG) (blk':Int),uH c.ps zs' blk'∧H'=Vr b [v0,v1,lpV lp, .int .i64 (((c.u:Nat):Int) - 1), .int .i64 blk',rd'.val,v6]::Row rd' ePo (zs'.map pgV)::Cl pgH zs'::R):=by
 have hat:=hc.at_
 have hpl:=hc.small.1
 refine zG (cJ.rem hr (cJ.keep (gB hr1 (cJ.keep (fm hr2 cJ.refl))))) ?_
 refine sWk Tryz.func132 Tryz.ntmps132 ?_
 refine go ?_
 refine cX cI (as_ 0 (q:=mv) (k:=as_ 1 (q:=nck) (k:=as_ 2 (q:=fla) (k:=as_ 3 (q:=ldv) (k:=as_ 4 (q:=ilt) (k:=?_))))))
 refine gq 5 rfl rfl (a8) rfl (dz (mv)) (fun h1=> ?_) (fun h1=> ?_)
 ·replace h1:=nrm h1
  have hh:eV c= []:=oh (.inl (az))
  refine ao_ 6 (k:=ao_ 7 (k:=ao_ 8 (k:=ao_ 9 (k:=ao_ 10 (k:=ao_ 11 (k:=ao_ 12 (k:=as_ 13 (q:=pkt) (k:=az_ (k:=gk (k:=ift (k:=go ?_)))))))))))
  refine gk (k:=rt_ Tryz.results132 (k:=?_))
  exact⟨_,hsb,by rw[hh];all_goals rfl,rd,zs,blk,hbk,rfl⟩
 replace h1:=nrm h1
 have hu:¬c.u=0:=az
 refine at2 6 (q:=mv) (k:=at2 7 (q:=nck) (k:=at2 8 (q:=fla) (k:=at2 9 (q:=ldv) (k:=at2 10 (q:=mv) (k:=?_)))))
 refine ld 11 rfl rfl rfl rfl (a8) rfl (gQ (vs:= [_]) rfl (wg hn)) (?_)
 refine at2 12 (q:=ige) (k:=as_ 13 (q:=pkf) (k:=az_ (k:=gk (k:=wi_ (k:=fun h2=>?_) (m:=fun h2=>?_)))))
 ·refine gk (k:=rt_ Tryz.results132 (k:=?_))
  exact⟨_,hsb,by rw[show eV c= []from oh (.inr (aa))];all_goals rfl,rd,zs,blk,hbk,rfl⟩
 obtain⟨u,hu2⟩:∃u,c.u=u+1:=⟨c.u - 1,aa⟩
 have hul:u<c.ps.length:=aQ
 refine wk_ (qn_ (ws_ (wr_ (e_ mv (k:=e_ mv (k:=e_ nck (k:=e_ fla (k:=?_))))))))
 refine e_ (evq ldv (congrArg (Value.int .i64) (show(((c.u:Nat):Int) - 1)=((u:Nat):Int)from aa))) (k:=?_)
 refine c2_ rfl (xK hn hbk hc.ok hc.small hc.tot hul) (k:=?_)
 rintro _ _ ⟨rd2,zs2,blk2,z,hbk2,hzq,hzs,rfl,rfl⟩
 have hz0:=dO z.pos
 have hh:eV c=z.pos:=tW hu2 hzq
 refine e_ (gA (ft:=28) (off:=1) Tryz.underlying237 rfl rfl rfl) (k:=?_)
 refine gk (k:=rt_ Tryz.results132 (k:=?_))
 exact⟨_,hsb,congrArg (fun n:Nat=> Value.int .i64 (n:Int)) (hz0.trans (by rw[hh])),rd2,zs2,blk2,hbk2,rfl⟩
theorem KV {G:cK}{H R:cG}{b:Nat}{c:CuS} [hg:Glb G R] [hr:Rem H CuH b c R]:SC G Tryz.prog 132 [.pointer (some ⟨b,0,none⟩)] H (fun v H'=> v= .int .i64 (((eV c).length:Nat):Int)∧H'=CuH b c::R):=by
 refine⟨ko Tryz.func132 rfl (a8),fun w hw=> ?_⟩
 obtain⟨x,⟨h1,h2,h3⟩,h4⟩:=wm hr hw
 have hs:=(F3 (G:=G) (H:=Vr b [.int .i64 (gJ c.ps c.u), .int .i64 ((c.mv:Nat):Int),lpV x.lp, .int .i64 (((c.u:Nat):Int) - 1), .int .i64 x.blk,x.rd.val, .bool c.told]::LPh x.lp x.im x.sk c.ps::Row x.rd ePo (x.zs.map pgV)::Cl pgH x.zs::R) (R1:=LPh x.lp x.im x.sk c.ps::Row x.rd ePo (x.zs.map pgV)::Cl pgH x.zs::R) (R2:=LPh x.lp x.im x.sk c.ps::Cl pgH x.zs::R) (R:=LPh x.lp x.im x.sk c.ps::R) (b:=b) (im:=x.im) (sk:=x.sk) (rd:=x.rd) (zs:=x.zs) (c:=c) h2 h3 h1).call w h4
 refine hs.mono fun e w' he=> ?_
 cases e with
 |returned v=>
  obtain⟨H',hw',rfl,rd',zs',blk',hb',rfl⟩:=he
  refine⟨_,(m6 (c:=c) (x:=⟨x.lp,x.im,x.sk,rd',zs',blk'⟩) (R:=R) ⟨h1,h2,hb'⟩).sat ?_,rfl,rfl⟩
  exact(cJ.trans (H':=Vr b [.int .i64 (gJ c.ps c.u), .int .i64 ((c.mv:Nat):Int),lpV x.lp, .int .i64 (((c.u:Nat):Int) - 1), .int .i64 blk',rd'.val, .bool c.told]::LPh x.lp x.im x.sk c.ps::Row rd' ePo (zs'.map pgV)::Cl pgH zs'::R) hsb cJ.refl).sat hw'
 |panicked ch=> exact he
 |outgrown=> exact he
end Go.Sx
