import Derived.Test.YtefgpomabdplbaaGreatDoorQ29
set_option linter.unusedVariables false
set_option linter.unusedSimpArgs false
set_option linter.unusedSectionVars false
set_option linter.unnecessarySimpa false
set_option maxHeartbeats 0
namespace Go.Sx
open Go Go.Proofs
set_option maxRecDepth 100000
theorem O5 {G:cK}{H:cG}{fv si sb:SV}{fs:List FV}{ids body:List Nat} [hg:Glb G H] [hf:Sl H fv eF fs] [hsi:Sl H si eB ids] [hsc:Sl H sb eB body] (hc:fI fs=true) (hn:ids.length≤100000000) (hm:body.length≤100000000) (hb:∀x∈ids,x<256) (hb2:∀x∈body,x<256):
 SC G Tryz.prog 109 [.agg [fv.val].toArray,si.val,sb.val] H (fun v H'=> (kJ fs ids body=none∧∃s':SV,v= .tuple #[s'.val, .bool false]∧H'=H)∨(∃(zs:List DG) (s':SV),kJ fs ids body=some (zs.map dgD)∧v= .tuple #[s'.val, .bool true]∧H'=Row s' eD (zs.map dgV)::Cl dgH zs::H)):=by
 obtain⟨hc1,hc2⟩:=il hc
 refine sWk Tryz.func109 Tryz.ntmps109 ?_
 refine gk (k:=bxx (k:=fun b3=>?_))
 refine go ?_
 refine c1_ rfl (iS (aa)) (k:=?_)
 rintro _ _ ⟨br,rfl,rfl⟩
 refine go ?_
 refine c2_ rfl (Jk (k:=0) (most:=4096) (Yl _) (aa) hb (ag)) (k:=?_)
 rintro _ _ hK
 rw[List.drop_zero]at hK
 rcases hK with⟨e,hr,rfl,rfl⟩|⟨l,m,s8,hr,rfl,rfl⟩
 all_goals try rw[Nat.zero_add]
 ·have hD:kJ fs ids body=none:=by rw[kJ,hr]
  refine e_ mv (k:=e_ exr (k:=e_ exr (k:=e_ asn (k:=e_ asn (k:=on_ (qn_ (ws_ (ws_ (wr_ (e_ mv (k:=?_)))))))))))
  refine e_ (cZ rfl) (k:=?_)
  refine gk (k:=ift (k:=go ?_))
  refine gk (k:=rt_ Tryz.results109 (k:=?_))
  exact⟨_,hsb, .inl ⟨hD,SV.nil,rfl,rfl⟩⟩
 obtain⟨g1,g2,g3,g4,g5⟩:=uL hb hr
 have hll:l.length≤4096:=by
  rw[eH]at hr
  split at hr
  ·cases hr
  ·rename_i n0 m0 hr0
   split at hr
   ·cases hr
   ·rename_i r0 m1 hr1
    obtain⟨hr2,_⟩:=(by simpa using hr:r0=l∧m0+m1=m)
    obtain⟨k1,_⟩:=jm hb hr0
    obtain⟨k2,_⟩:=oY _ _ _ _ _ (fun x hx=> hb x (Yp hx)) (Int.le_refl _) hr1
    rw[←hr2];omega
 refine e_ mv (k:=e_ exr (k:=e_ exr (k:=e_ asn (k:=e_ asn (k:=on_ (qn_ (ws_ (ws_ (wr_ (e_ mv (k:=?_)))))))))))
 refine e_ (cM rfl) (k:=?_)
 refine go ?_
 refine sg_ (cW (vs:= [_]) rfl (pO g1)) (k:=?_)
 rintro _ _ ⟨rfl,(⟨hml,rfl⟩|⟨hml,rfl⟩)⟩
 ·have hD:kJ fs ids body=none:=by rw[kJ,hr];simp only[];rw[if_pos (aa)]
  refine eg_ (cZ rfl) (k:=?_)
  refine gk (k:=ift (k:=gk (k:=rt_ Tryz.results109 (k:=?_))))
  exact⟨_,hsb, .inl ⟨hD,SV.nil,rfl,rfl⟩⟩
 have hD:kJ fs ids body=match ku fs l body with
  |none=> none
  |some (ds,c)=> if c<body.length then none else some ds:=by
  rw[kJ,hr];simp only[];rw[if_neg (aa)]
  all_goals (cases ku fs l body <;> rfl)
 refine eg_ (cM rfl) (k:=?_)
 refine gk (k:=eg (k:=go ?_))
 refine c1_ rfl (iS (xs:=body) (aa)) (k:=?_)
 rintro _ _ ⟨bq,rfl,rfl⟩
 refine e_ asn (k:=on_ (qn_ (ws_ (wr_ (e_ asn (k:=on_ (qn_ (ws_ (ws_ (wr_ (?_)))))))))))
 refine du (cJ.nilRow (e:=eD) (fe (f:=dgH) cJ.refl)) ?_
 rw[show Row SV.nil eD ([]:List (Int×SV))=Row SV.nil eD (([]:List DG).map dgV)from rfl]
 refine gk (k:=dt (Nat×SV×(List DG)×Nat) (fun y=> y.1≤l.length∧y.2.2.2≤body.length∧y.2.2.1.length=y.1∧ku fs l body=rK (y.2.2.1.map dgD) y.2.2.2 (ku fs (l.drop y.1) (body.drop y.2.2.2))) (fun y=> [(11,y.2.1.val),(40, .int .i64 ((y.1:Nat):Int))]) [(3,_),(8,_),(38,_),(39,_)] (fun y=> [Row y.2.1 eD (y.2.2.1.map dgV),Cl dgH y.2.2.1,Rd bq (body,y.2.2.2)]) (Row s8 eI l::Vr b3 [fv.val]::H) (fun y=> l.length - y.1) ((0,SV.nil, [],0)) (h0:=?_) (k:=?_))
 ·try dsimp only
  exact⟨Yl _,Yl _,rfl,by rw[List.drop_zero,List.drop_zero];exact(Cd _).symm⟩
 rintro⟨i,u,zs,a⟩ ⟨hi,ha,hzl,hI⟩
 try dsimp only[Yd,Ye]at*
 refine gk (k:=wi_ (k:=fun h1=>?_) (m:=fun h1=>?_))
 ·obtain⟨d,hdi⟩:∃d,l[i]? =some d:=⟨_,Yi (aa)⟩
  have hzm:(zs.map dgV).length=zs.length:=Yh ..
  rw[dF hdi,ku]at hI
  refine wk_ (qn_ (ws_ (wb_ (ws_ (wr_ (e_ ixa (k:=e_ lel (k:=e_ asn (k:=on_ (qn_ (ws_ (wr_ (e_ mv (k:=?_))))))))))))))
  refine e_ (bld [(0,_)]) (k:=alc (k:=fun b14=>?_))
  refine go ?_
  refine c2_ rfl (ye (most:=64) ha (aa) hb2 (ag)) (k:=?_)
  rintro _ _ (⟨e,hr2,rfl,rfl⟩|⟨n,m2,hr2,rfl,rfl⟩)
  ·rw[hr2]at hI
   refine e_ mv (k:=e_ exr (k:=e_ exr (k:=e_ asn (k:=e_ asn (k:=on_ (qn_ (ws_ (ws_ (wr_ (e_ mv (k:=?_)))))))))))
   refine e_ (cZ rfl) (k:=?_)
   refine gk (k:=ift (k:=go ?_))
   refine gk (k:=rt_ Tryz.results109 (k:=?_))
   exact⟨_,hsb, .inl ⟨by rw[hD,hI];all_goals rfl,SV.nil,rfl,rfl⟩⟩
  rw[hr2]at hI
  simp only[]at hI
  obtain⟨q1,q2,q3,q4⟩:=jm (fun x hx=> hb2 x (Yp hx)) hr2
  rw[Yo]at q2
  rw[List.drop_drop]at hI
  refine e_ mv (k:=e_ exr (k:=e_ exr (k:=e_ asn (k:=e_ asn (k:=on_ (qn_ (ws_ (ws_ (wr_ (e_ mv (k:=?_)))))))))))
  refine e_ (cM rfl) (k:=?_)
  refine gk (k:=eg (k:=go ?_))
  refine gk (k:=dt (SV×(List Val)×Nat×Nat) (fun y=> y.2.2.2=y.2.1.length∧y.2.2.1≤body.length∧a+m2≤y.2.2.1∧y.2.1.length≤n∧ll fs n (body.drop (a+m2))=rK y.2.1 (y.2.2.1 - (a+m2)) (ll fs (n - y.2.1.length) (body.drop y.2.2.1))) (fun y=> [(54, .int .i64 ((y.2.2.2:Nat):Int))]) [(3,_),(8,_),(11,_),(14,_),(38,_),(39,_),(40,_),(53,_)] (fun y=> [Vr b14 [.int .i64 d,y.1.val],Row y.1 eVl y.2.1,Rd bq (body,y.2.2.1)]) (Row u eD (zs.map dgV)::Cl dgH zs::Row s8 eI l::Vr b3 [fv.val]::H) (fun y=> n - y.2.1.length) ((SV.nil, [],a+m2,0)) (h0:=?_) (k:=?_))
  ·try dsimp only
   exact⟨rfl,aa,Nat.le_refl _,Yl _,by rw[Nat.sub_self,Yc,Nat.sub_zero];exact(Cd _).symm⟩
  rintro⟨sv,vs,e,j⟩ ⟨hjv,he,hae,hvl,hV⟩
  try dsimp only[Yd,Ye]at*
  refine gk (k:=wi_ (k:=fun h2=>?_) (m:=fun h2=>?_))
  ·obtain⟨k,hk⟩:∃k,n - vs.length=k+1:=⟨n - vs.length - 1,aa⟩
   rw[hk,ll]at hV
   refine wk_ (qn_ (ws_ (wb_ (ws_ (wr_ (e_ mv (k:=e_ fla (k:=e_ ldv (k:=e_ lnn (k:=?_))))))))))
   refine e_ (evq isb (congrArg (Value.int .i64) (by omega:((fs.length:Nat):Int) - 1=((fs.length - 1:Nat):Int)))) (k:=?_)
   refine c2_ rfl (ye (most:=fs.length - 1) he (aa) hb2 (aa)) (k:=?_)
   rintro _ _ (⟨e9,hr3,rfl,rfl⟩|⟨f,m3,hr3,rfl,rfl⟩)
   ·rw[hr3]at hV
    simp only[]at hV
    refine e_ mv (k:=e_ exr (k:=e_ exr (k:=e_ asn (k:=e_ asn (k:=on_ (qn_ (ws_ (ws_ (wr_ (e_ mv (k:=?_)))))))))))
    refine e_ (cZ rfl) (k:=?_)
    refine gk (k:=ift (k:=go ?_))
    refine gk (k:=rt_ Tryz.results109 (k:=?_))
    exact⟨_,hsb, .inl ⟨by rw[hD,hI,hV];all_goals rfl,SV.nil,rfl,rfl⟩⟩
   rw[hr3]at hV
   simp only[]at hV
   obtain⟨p1,p2,p3,p4⟩:=jm (fun x hx=> hb2 x (Yp hx)) hr3
   rw[Yo]at p2
   rw[List.drop_drop]at hV
   refine e_ mv (k:=e_ exr (k:=e_ exr (k:=e_ asn (k:=e_ asn (k:=on_ (qn_ (ws_ (ws_ (wr_ (e_ mv (k:=?_)))))))))))
   refine e_ (cM rfl) (k:=?_)
   refine gk (k:=eg (k:=go ?_))
   refine c2_ rfl (L0 (most:=4096) (aa) (aa) hb2 (ag)) (k:=?_)
   rintro _ _ (⟨e9,hr4,rfl,rfl⟩|⟨q,m4,hr4,rfl,rfl⟩)
   ·rw[hr4]at hV
    simp only[]at hV
    refine e_ mv (k:=e_ exr (k:=e_ exr (k:=e_ asn (k:=e_ asn (k:=on_ (qn_ (ws_ (ws_ (wr_ (e_ mv (k:=?_)))))))))))
    refine e_ (cZ rfl) (k:=?_)
    refine gk (k:=ift (k:=go ?_))
    refine gk (k:=rt_ Tryz.results109 (k:=?_))
    exact⟨_,hsb, .inl ⟨by rw[hD,hI,hV];all_goals rfl,SV.nil,rfl,rfl⟩⟩
   rw[hr4]at hV
   simp only[]at hV
   obtain⟨r1,r2,r3,r4⟩:=D7 (fun x hx=> hb2 x (Yp hx)) hr4
   rw[Yo]at r1
   obtain⟨fp,hfp⟩:∃fp,fs[f]? =some fp:=⟨_,Yi (aa)⟩
   rw[List.drop_drop,hfp]at hV
   refine e_ mv (k:=e_ exr (k:=e_ exr (k:=e_ asn (k:=e_ asn (k:=on_ (qn_ (ws_ (ws_ (wr_ (e_ mv (k:=?_)))))))))))
   refine e_ (cM rfl) (k:=?_)
   refine gk (k:=eg (k:=go ?_))
   refine df cI (fun i=> [10,11,13].contains i) (fun k H=> (k=1→cQ H b14 [.int .i64 d,sv.val])∧(k=3→cQ H b3 [fv.val])∧(k=5→Sl H fv eF fs)∧(k=6→Sl H fv eF fs)∧(k=7→Sl H fv eF fs)) (af_ 0 (q:=cD fun H hH=>fla) (k:=?_))
   refine cE 1 rfl rfl (a8) rfl (cD fun H hH=>ak) (?_)
   refine af_ 2 (q:=cD fun H hH=>fla) (k:=?_)
   refine cE 3 rfl rfl (a8) rfl (cD fun H hH=>ar) (?_)
   refine af_ 4 (q:=cD fun H hH=>mv) (k:=?_)
   refine cE 5 rfl rfl (a8) rfl (cD fun H hH=>aV) (?_)
   refine cE 6 rfl rfl (a8) rfl (cD fun H hH=>by have hN:=hH.2.2.2.1 rfl;exact fle) (?_)
   refine cE 7 rfl rfl (a8) rfl (cD fun H hH=>by have hN:=hH.2.2.2.2 rfl;exact lfl) (?_)
   refine af_ 8 (q:=cD fun H hH=>mv) (k:=af_ 9 (q:=cD fun H hH=>bld [(0,_),(1,_)]) (k:=?_))
   refine cN 10 rfl (a8) rfl (fun k hk=> ⟨fun hi=> ab,fun hi=> ab,fun hi=> ab,fun hi=> ab,fun hi=> ab⟩) (ew eVl rfl rfl) ?_
   rintro _ _ ⟨s84,rfl,rfl⟩
   refine cN 11 rfl (a8) rfl (fun k hk=> ⟨fun hi=> ab,fun hi=> ab,fun hi=> ab,fun hi=> ab,fun hi=> ab⟩) (eY rfl rfl rfl rfl (af) (af)) ?_
   rintro _ _ ⟨s85,rfl,rfl⟩
   refine af_ 12 (q:=cD fun H hH=>fla) (k:=?_)
   refine cN 13 rfl (a8) rfl (fun k hk=> ⟨fun hi=> absurd hk (ad),fun hi=> ab,fun hi=> ab,fun hi=> ab,fun hi=> ab⟩) (dM rfl rfl rfl) ?_
   rintro _ _ ⟨rfl,rfl⟩
   refine db (a8) (fun k hk=> ⟨fun hi=> absurd hk (ad),fun hi=> absurd hk (ad),fun hi=> absurd hk (ad),fun hi=> absurd hk (ad),fun hi=> absurd hk (ad)⟩) (go ?_)
   refine ln_ ((s85,vs++ [(fp.name,dL q)],e+m3+m4,j+1)) (h2:=?_) (k:=?_)
   ·try dsimp only
    simp;omega
   try dsimp only
   refine⟨aM,aa,aa,aM,?_⟩
   rw[hV,show n - (vs++ [(fp.name,dL q)]).length=k from aM,show e+m3+m4 - (a+m2)=e - (a+m2)+(m3+m4)from aa,Nat.add_assoc e m3 m4]
   cases ll fs k (body.drop (e+(m3+m4)))with
   |none=> rfl
   |some p=> simp only[rK,Yf,Yd,Ye,Option.map_some,Option.getD_some,Nat.add_assoc]
  have hkn:n - vs.length=0:=aa
  rw[hkn,ll]at hV
  have hV2:ll fs n (body.drop (a+m2))=some (vs,e - (a+m2)):=by rw[hV];simp[rK]
  rw[hV2]at hI
  simp only[]at hI
  refine gk (k:=gz eD (k:=fun s90=>?_))
  refine app (k:=fun s91=>?_)
  rw[show zs.map dgV++ [(d,sv)]=(zs++ [(⟨d,sv,vs⟩:DG)]).map dgV from by simp[dgV]]
  refine du (cJ.trans (H':=Row sv eVl vs::Cl dgH zs::Row s91 eD ((zs++ [(⟨d,sv,vs⟩:DG)]).map dgV)::Rd bq (body,e)::Row s8 eI l::Vr b3 [fv.val]::H) (hsb) (Cr ⟨d,sv,vs⟩)) ?_
  refine go ?_
  refine ln_ ((i+1,s91,zs++ [⟨d,sv,vs⟩],e)) (k:=?_)
  try dsimp only
  refine⟨aa,he,aM,?_⟩
  rw[hI,show(zs++ [(⟨d,sv,vs⟩:DG)]).map dgD=zs.map dgD++ [(d,vs)]from by simp[dgD],List.drop_drop,show m2+(e - (a+m2))=e - a from aa,show a+(e - a)=e from aa]
  cases ku fs (l.drop (i+1)) (body.drop e)with
  |none=> rfl
  |some p=> simp only[rK,Yf,Yd,Ye,Option.some.injEq,Prod.mk.injEq,true_and];omega
 have hii:i=l.length:=aa
 rw[hii,List.drop_length,ku]at hI
 have hD2:kJ fs ids body=if a<body.length then none else some (zs.map dgD):=by rw[hD,hI];simp[rK]
 refine go ?_
 refine df cI (fun i=> [4].contains i) (fun _ _=> True) (af_ 0 (q:=cD fun H hH=>mv) (k:=af_ 1 (q:=cD fun H hH=>mv) (k:=af_ 2 (q:=cD fun H hH=>nck) (k:=af_ 3 (q:=cD fun H hH=>fla) (k:=?_)))))
 refine cN 4 rfl (a8) rfl (fun _ _=> trivial) (cW (vs:= [_]) rfl (pO ha)) ?_
 rintro v _ ⟨rfl,hK⟩
 refine qv (fun _=> trivial) (?_)
 refine cE 5 rfl rfl (a8) rfl (dz ((show Ev G _ _ _ _ (.bool (decide (a=body.length)))from by
  rcases hK with⟨hal,rfl⟩|⟨hal,rfl⟩
  ·exact evq (kI rfl) (congrArg Value.bool (Yr (aa)).symm)
  ·exact evq (fy rfl) (congrArg Value.bool (Ys (aa)).symm)))) (?_)
 refine as_ 6 (q:=asn) (k:=as_ 7 (q:=asn) (k:=az_ (k:=gk (k:=rt_ Tryz.results109 (k:=?_)))))
 by_cases hal:a<body.length
 ·rw[if_pos hal]at hD2
  exact⟨_,hsb, .inl ⟨hD2,u,by rw[show decide (a=body.length)=false from Yr (aa)];all_goals rfl,rfl⟩⟩
 ·rw[if_neg hal]at hD2
  exact⟨_,hsb, .inr ⟨zs,u,hD2,by rw[show decide (a=body.length)=true from Ys (aa)];all_goals rfl,rfl⟩⟩
theorem JM {kind:Nat}{bl:List (Nat×List Nat)}(hk:kind<256) (h:∀q∈bl,q.1<256∧∀x∈q.2,x<256):∀x∈kT kind bl,x<256:=fun x hx=> by
 rcases List.mem_append.1 hx with hx|hx
 ·exact wI hk h x hx
 ·exact Ej _ x hx
theorem j7 (l:List En) (k:Nat):∀n,k≤n→∃r r',(dn l n).1=(dn l k).1++r∧(dn l n).2=(dn l k).2++r'
 | 0,h=> by obtain rfl:k=0:=by omega
            exact⟨[], [],an,an⟩
 |n+1,h=> by
  by_cases he:k=n+1
  ·subst he;exact⟨[], [],an,an⟩
  ·obtain⟨r,r',h1,h2⟩:=j7 l k n (aa)
   exact⟨r++uv (dI [] (eC l n)).length,r'++dI [] (eC l n),by rw[dn];simp only[h1,Yf],by rw[dn];simp only[h2,Yf]⟩
theorem DK {l:List En}{j:Nat}(h:j<eQ l):∃r,(fA l).drop ((uv l.length).length+(dn l j).1.length)=uv (dI [] (eC l j)).length++r∧(dI [] (eC l j)).length≤r.length:=by
 obtain⟨r,r',h1,h2⟩:=j7 l (j+1) (eQ l) (aa)
 rw[dn]at h1 h2
 simp only at h1 h2
 refine⟨r++((dn l j).2++dI [] (eC l j)++r'),?_,ai⟩
 rw[fA,h1,h2,←Ya]
 simp only[Yf]
 rw[←Yf,List.drop_left]
theorem Hr {l:List En}{j:Nat}(h:j<eQ l):∃r,(fA l).drop ((uv l.length).length+(dn l (eQ l)).1.length+(dn l j).2.length)=dI [] (eC l j)++r:=by
 obtain⟨r,r',h1,h2⟩:=j7 l (j+1) (eQ l) (aa)
 rw[dn]at h2
 simp only at h2
 refine⟨r',?_⟩
 have e:fA l=(uv l.length++(dn l (eQ l)).1++(dn l j).2)++(dI [] (eC l j)++r'):=by rw[fA,h2];simp only[Yf]
 rw[e,←Ya,←Ya,List.drop_left]
theorem Hi (p:List Nat) (e:En):1≤(lZ p e).length:=by
 have:=oV (dE p (cF e.key))
 simp only[lZ,Ya];omega
theorem yX:∀(l:List En) (p:List Nat),l.length≤(dI p l).length
 | [],_=> an
 |e::r,p=> by
  have h1:=Hi p e
  have h2:=yX r (cF e.key)
  simp only[dI,Ya,Yb];omega
theorem vS (l:List En):∀k,min (16*k) l.length≤(dn l k).2.length
 | 0=> an
 |k+1=> by
  have h1:=vS l k
  have h2:=yX (eC l k) []
  rw[o6]at h2
  simp only[dn,Ya];omega
theorem Ht (l:List En):l.length≤(fA l).length:=by
 have h1:=vS l (eQ l)
 have h2:l.length≤16*eQ l:=cq
 simp only[fA,Ya];omega
theorem DM (l:List En):(fA l).length=(uv l.length).length+(dn l (eQ l)).1.length+(dn l (eQ l)).2.length:=by simp only[fA,Ya]
theorem Ky {l:List En}{j k:Nat}{e:En}{xs r:List Nat}{P:Nat}(hx:xs.drop P=dI [] (eC l j)++r) (hk:k<16) (he:l[16*j+k]? =some e):∃r',xs.drop (P+(dI [] ((eC l j).take k)).length)=lZ (kC [] ((eC l j).take k)) e++r':=by
 have hb:=zx l j k hk
 rw[he]at hb
 have h1:eC l j=(eC l j).take (k+1)++(eC l j).drop (k+1):=(List.take_append_drop ..).symm
 have h2:dI [] (eC l j)=dI [] ((eC l j).take (k+1))++dI (kC [] ((eC l j).take (k+1))) ((eC l j).drop (k+1)):=by
  conv=> lhs;rw[h1]
  exact ow _ _ _
 rw[mT hb]at h2
 refine⟨dI (kC [] ((eC l j).take (k+1))) ((eC l j).drop (k+1))++r,?_⟩
 rw[←List.drop_drop,hx,h2]
 simp only[Yf]
 rw[List.drop_left]
def kl (l:List En) (j:Nat):List Int:=(List.range j).map fun k=> (((dI [] (eC l k)).length:Nat):Int)
theorem xX (l:List En) (j:Nat):kl l (j+1)=kl l j++ [(((dI [] (eC l j)).length:Nat):Int)]:=by simp[kl,List.range_succ]
theorem tn (l:List En) (j:Nat):(kl l j).length=j:=by simp[kl]
theorem Ac {l:List En}{n j:Nat}(h:j<n):(kl l n)[j]? =some (((dI [] (eC l j)).length:Nat):Int):=by
 rw[kl,Xd,List.getElem?_range h];all_goals rfl
theorem ru {G:cK}{H:cG}:SC G Tryz.prog 187 [.bool true] H (fun v H'=> v= .tuple #[]∧H'=H):=by
 refine sWk Tryz.func187 Tryz.ntmps187 ?_
 refine gk (k:=wi_ (k:=fun h1=>?_) (m:=fun h1=>?_))
 ·exact absurd h1 (ag)
 refine gk (k:=rt_ Tryz.results187 (k:=?_))
 exact⟨_,hsb,rfl,rfl⟩
theorem Iq {G:cK}{H R:cG}{b k most m:Nat}{xs q:List Nat} [hg:Glb G R] [hr:Rem H Rd b (xs,k) R] (hk:k≤xs.length) (hn:xs.length≤1000000000000) (hb:∀x∈xs,x<256) (hm:most≤4611686018427387904) (h:jK most (xs.drop k)= .ok (q,m)):SC G Tryz.prog 156 [.pointer (some ⟨b,0,none⟩), .int .i64 ((most:Nat):Int)] H (fun v H'=> v= .tuple #[.string (dL q), .nilIface]∧H'=Rd b (xs,k+m)::R):=
 SC.mono (L0 hk hn hb hm) fun v H' h2=> by
  rcases h2 with⟨e,h3,_⟩|⟨n',m',h3,h4,h5⟩
  ·rw[h]at h3;cases h3
  ·rw[h]at h3;cases h3;exact⟨h4,h5⟩
theorem sj {G:cK}{H R:cG}{b k most n m:Nat}{xs:List Nat} [hg:Glb G R] [hr:Rem H Rd b (xs,k) R] (hk:k≤xs.length) (hn:xs.length≤1000000000000) (hb:∀x∈xs,x<256) (hm:most≤4611686018427387904) (h:fG most (xs.drop k)= .ok (n,m)):SC G Tryz.prog 155 [.pointer (some ⟨b,0,none⟩), .int .i64 ((most:Nat):Int)] H (fun v H'=> v= .tuple #[.int .i64 ((n:Nat):Int), .nilIface]∧H'=Rd b (xs,k+m)::R):=
 SC.mono (ye hk hn hb hm) fun v H' h2=> by
  rcases h2 with⟨e,h3,_⟩|⟨n',m',h3,h4,h5⟩
  ·rw[h]at h3;cases h3
  ·rw[h]at h3;cases h3;exact⟨h4,h5⟩
theorem sn {G:cK}{H R:cG}{b k most n m:Nat}{xs:List Nat} [hg:Glb G R] [hr:Rem H Rd b (xs,k) R] (hk:k≤xs.length) (hn:xs.length≤1000000000000) (hb:∀x∈xs,x<256) (hm:most≤4611686018427387904) (h:fG most (xs.drop k)= .ok (n,m)):SC G Tryz.prog 186 [.pointer (some ⟨b,0,none⟩), .int .i64 ((most:Nat):Int)] H (fun v H'=> v= .int .i64 ((n:Nat):Int)∧H'=Rd b (xs,k+m)::R):=by
 refine sWk Tryz.func186 Tryz.ntmps186 ?_
 refine go ?_
 refine d2_ rfl (sj hk hn hb hm h) (k:=e_ mv (k:=e_ exr (k:=e_ exr (k:=e_ asn (k:=e_ asn (k:=on_ (qn_ (ws_ (wr_ (e_ mv (k:=?_)))))))))))
 refine e_ (fy rfl) (k:=?_)
 refine d1_ rfl (ru) (k:=gk (k:=rt_ Tryz.results186 (k:=?_)))
 exact⟨_,hsb,rfl,rfl⟩
def ePt:Enc (Nat×Nat):=⟨fun p=> [.pointer (some ⟨p.1,p.2,none⟩)],1,false,fun _=> rfl,fun _ v h=> ba,ag,fun _=> rfl,ag⟩
instance {b o:Nat}:fK ePt (.pointer (some ⟨b,o,none⟩)) (b,o):=⟨rfl⟩
instance {p:Nat×Nat}:jG ePt p (.pointer (some ⟨p.1,p.2,none⟩)):=⟨rfl⟩
theorem Gp (a b:List Nat):a.take (dE a b)++b.drop (dE a b)=b:=by rw[pQ,List.take_append_drop]
theorem F4 {G:cK}{H R:cG}{b k:Nat}{xs rest:List Nat}{last:ByteArray}{first:Bool}{e:En} [hg:Glb G R] [hr:Rem H Rd b (xs,k) R] (hk:k≤xs.length) (hn:xs.length≤1000000000) (hb:∀x∈xs,x<256) (h:xs.drop k=lZ (cF last) e++rest) (hks:1≤e.key.size∧e.key.size≤65) (hls:last.size≤65) (hnm:∀x∈gG e,x≤2147483647):
 SC G Tryz.prog 188 [.pointer (some ⟨b,0,none⟩), .string last, .bool first] H (fun v H'=> v= .agg [.string e.key, .int .i64 ((e.docs:Nat):Int), .int .i64 ((e.tot:Nat):Int), .int .i64 ((e.at_:Nat):Int), .int .i64 ((e.size:Nat):Int)].toArray∧H'=Rd b (xs,k+(lZ (cF last) e).length)::R):=by
 obtain⟨hs1,hs2⟩:=km (cF last) (cF e.key)
 have hbl:=cL last
 have hbk:=cL e.key
 have hkx:k+(lZ (cF last) e).length+rest.length=xs.length:=by
  have:=congrArg List.length h
  rw[Yo,Ya]at this;omega
 obtain⟨sh,hsh⟩:∃sh,sh=dE (cF last) (cF e.key):=⟨_,rfl⟩
 rw[←hsh]at hs1 hs2
 have he:lZ (cF last) e=uv sh++(uv ((cF e.key).length - sh)++(cF e.key).drop sh)++(uv e.docs++uv e.tot++uv e.at_++uv e.size):=by rw[lZ,hsh]
 have hdl:((cF e.key).drop sh).length=(cF e.key).length - sh:=Yo ..
 have h0:fG last.size (xs.drop k)= .ok (sh,(uv sh).length):=by
  rw[h,he];simp only[Yf];exact ey _ (aa) (aa)
 have hd1:xs.drop (k+(uv sh).length)=uv ((cF e.key).drop sh).length++(cF e.key).drop sh++(uv e.docs++(uv e.tot++(uv e.at_++(uv e.size++rest)))):=by
  rw[←List.drop_drop,h,he,hdl];simp only[Yf];rw[List.drop_left]
 have h1:jK (65 - sh) (xs.drop (k+(uv sh).length))= .ok ((cF e.key).drop sh,(uv ((cF e.key).drop sh).length).length+((cF e.key).drop sh).length):=by
  rw[hd1];exact vl _ (aa) (aa)
 obtain⟨k1,hk1⟩:∃k1,k1=k+(uv sh).length+((uv ((cF e.key).drop sh).length).length+((cF e.key).drop sh).length):=⟨_,rfl⟩
 have hd2:xs.drop k1=uv e.docs++(uv e.tot++(uv e.at_++(uv e.size++rest))):=by
  rw[hk1,←List.drop_drop,hd1,←Ya,List.drop_left]
 have hlen:(lZ (cF last) e).length=k1 - k+((uv e.docs).length+(uv e.tot).length+(uv e.at_).length+(uv e.size).length):=by
  rw[he,hk1,hdl];simp only[Ya,hdl];omega
 have hk1x:k1+((uv e.docs).length+(uv e.tot).length+(uv e.at_).length+(uv e.size).length)≤xs.length:=aa
 have hkey:last.extract 0 sh++dL ((cF e.key).drop sh)=e.key:=by
  apply kM.1
  rw[fQ,fa (fun x hx=> k7 _ x (Yp hx)),gT,List.drop_zero,hsh]
  exact Gp _ _
 have hn1:=hnm e.docs (by simp[gG])
 have hn2:=hnm e.tot (by simp[gG])
 have hn3:=hnm e.at_ (by simp[gG])
 have hn4:=hnm e.size (by simp[gG])
 have hss:(dL ((cF e.key).drop sh)).size=(cF e.key).length - sh:=by rw[jg,hdl]
 have hse:(last.extract 0 sh).size=sh:=by rw[ByteArray.size_extract];omega
 refine sWk Tryz.func188 Tryz.ntmps188 ?_
 refine gk (k:=alc (k:=fun b6=>?_))
 refine go ?_
 refine d2_ rfl (sn hk (aa) hb (aa) h0) (k:=e_ asn (k:=on_ (qn_ (ws_ (wr_ (e_ mv (k:=e_ mv (k:=?_))))))))
 refine e_ (evq isb (congrArg (Value.int .i64) (by omega:(65:Int) - ((sh:Nat):Int)=((65 - sh:Nat):Int)))) (k:=?_)
 refine d2_ rfl (Iq (most:=65 - sh) (aa) (aa) hb (aa) h1) (k:=?_)
 rw[←hk1]
 refine e_ mv (k:=e_ exr (k:=e_ exr (k:=e_ asn (k:=e_ asn (k:=on_ (qn_ (ws_ (wr_ (e_ mv (k:=?_))))))))))
 refine e_ (fy rfl) (k:=?_)
 refine d1_ rfl (ru) (k:=on_ (qn_ (ws_ (wr_ (e_ mv (k:=e_ mv (k:=e_ (Ab (b:=sh)) (k:=e_ mv (k:=e_ Mq (k:=?_))))))))))
 rw[hkey]
 refine e_ (bld [(0,_)]) (k:=alc (k:=fun b10=>?_))
 refine gk (k:=dh 10 47 (k:=fun h1=>gk (k:=dN 7 46 (k:=fun h2=>gk (k:=kK (vs:=[_,_]) (hc:=(Bv (aa) (aa))) (k:=eg_ mv (k:=eg_ (evq ieq (congrArg Value.bool (Ys (aa)))) (k:=gk (k:=edq)))))) (q:=gk (k:=edq)))) (q:=?_))
 rw[show(decide ((0:Int)<((e.key.size:Nat):Int)) && (first ||true))=true from by rw[Ys (aa)];simp]
 refine d1_ rfl (ru) (k:=go ?_)
 refine s_ (dC ePt [(b10,1),(b10,2),(b10,3),(b10,4)] (bQ) rfl (ay)) (k:=?_)
 rintro _ _ ⟨s53,rfl,rfl⟩
 refine gk (k:=dt (Nat×Nat×Nat×Nat×Nat×Nat) (fun y=> (y.1=0∧y.2.1=k1∨y.1=1∧y.2.1=k1+(uv e.docs).length∧y.2.2.1=e.docs∨y.1=2∧y.2.1=k1+(uv e.docs).length+(uv e.tot).length∧y.2.2.1=e.docs∧y.2.2.2.1=e.tot∨y.1=3∧y.2.1=k1+(uv e.docs).length+(uv e.tot).length+(uv e.at_).length∧y.2.2.1=e.docs∧y.2.2.2.1=e.tot∧y.2.2.2.2.1=e.at_∨y.1=4∧y.2.1=k1+(uv e.docs).length+(uv e.tot).length+(uv e.at_).length+(uv e.size).length∧y.2.2.1=e.docs∧y.2.2.2.1=e.tot∧y.2.2.2.2.1=e.at_∧y.2.2.2.2.2=e.size)) (fun y=> [(55, .int .i64 ((y.1:Nat):Int))]) [(0,_),(6,_),(10,_),(53,_),(54,_)] (fun y=> [Rd b (xs,y.2.1),Vr b10 [.string e.key, .int .i64 ((y.2.2.1:Nat):Int), .int .i64 ((y.2.2.2.1:Nat):Int), .int .i64 ((y.2.2.2.2.1:Nat):Int), .int .i64 ((y.2.2.2.2.2:Nat):Int)]]) _ (fun y=> 4 - y.1) ((0,k1,0,0,0,0)) (h0:=?_) (k:=?_))
 ·try dsimp only
  exact .inl ⟨rfl,rfl⟩
 rintro⟨j,kk,va,vb,vc,vd⟩ hj
 try dsimp only[Yd,Ye]at*
 have hpl:([(b10,1),(b10,2),(b10,3),(b10,4)]:List (Nat×Nat)).length=4:=rfl
 refine gk (k:=wi_ (k:=fun h3=>?_) (m:=fun h3=>?_))
 ·obtain⟨pj,hpj⟩:∃pj,([(b10,1),(b10,2),(b10,3),(b10,4)]:List (Nat×Nat))[j]? =some pj:=⟨_,Yi (aa)⟩
  have hd3:xs.drop (k1+(uv e.docs).length)=uv e.tot++(uv e.at_++(uv e.size++rest)):=by rw[←List.drop_drop,hd2,List.drop_left]
  have hd4:xs.drop (k1+(uv e.docs).length+(uv e.tot).length)=uv e.at_++(uv e.size++rest):=by rw[←List.drop_drop,hd3,List.drop_left]
  have hd5:xs.drop (k1+(uv e.docs).length+(uv e.tot).length+(uv e.at_).length)=uv e.size++rest:=by rw[←List.drop_drop,hd4,List.drop_left]
  obtain⟨nj,hnj,hrj,hkx⟩:∃nj,(gG e)[j]? =some nj∧fG 2147483647 (xs.drop kk)= .ok (nj,(uv nj).length)∧kk≤xs.length:=by
   rcases hj with⟨rfl,rfl⟩|⟨rfl,rfl,_⟩|⟨rfl,rfl,_⟩|⟨rfl,rfl,_⟩|⟨rfl,_⟩
   ·exact⟨e.docs,rfl,by rw[hd2];exact ey _ (aa) hn1,aa⟩
   ·exact⟨e.tot,rfl,by rw[hd3];exact ey _ (aa) hn2,aa⟩
   ·exact⟨e.at_,rfl,by rw[hd4];exact ey _ (aa) hn3,aa⟩
   ·exact⟨e.size,rfl,by rw[hd5];exact ey _ (aa) hn4,aa⟩
   ·omega
  refine go ?_
  refine d2_ rfl (sn (most:=2147483647) hkx (aa) hb (aa) hrj) (k:=?_)
  rcases hj with⟨rfl,rfl⟩|⟨rfl,rfl,rfl⟩|⟨rfl,rfl,rfl,rfl⟩|⟨rfl,rfl,rfl,rfl,rfl⟩|⟨rfl,_⟩
  all_goals (first|(simp only[Xb,Xc,gG,Option.some.injEq]at hpj hnj;subst hpj;subst hnj)|(exfalso;omega))
  ·refine go ?_
   refine ln_ ((1,kk+(uv e.docs).length,e.docs,vb,vc,vd)) (k:=?_)
   try dsimp only
   exact .inr (.inl ⟨rfl,rfl,rfl⟩)
  ·refine go ?_
   refine ln_ ((2,k1+(uv e.docs).length+(uv e.tot).length,e.docs,e.tot,vc,vd)) (k:=?_)
   try dsimp only
   exact .inr (.inr (.inl ⟨rfl,rfl,rfl,rfl⟩))
  ·refine go ?_
   refine ln_ ((3,k1+(uv e.docs).length+(uv e.tot).length+(uv e.at_).length,e.docs,e.tot,e.at_,vd)) (k:=?_)
   try dsimp only
   exact .inr (.inr (.inr (.inl ⟨rfl,rfl,rfl,rfl,rfl⟩)))
  refine go ?_
  refine ln_ ((4,k1+(uv e.docs).length+(uv e.tot).length+(uv e.at_).length+(uv e.size).length,e.docs,e.tot,e.at_,e.size)) (k:=?_)
  try dsimp only
  exact .inr (.inr (.inr (.inr ⟨rfl,rfl,rfl,rfl,rfl,rfl⟩)))
 rcases hj with⟨rfl,rfl⟩|⟨rfl,rfl,rfl⟩|⟨rfl,rfl,rfl,rfl⟩|⟨rfl,rfl,rfl,rfl,rfl⟩|⟨rfl,rfl,rfl,rfl,rfl,rfl⟩
 ·exfalso;omega
 ·exfalso;omega
 ·exfalso;omega
 ·exfalso;omega
 rw[show k1+(uv e.docs).length+(uv e.tot).length+(uv e.at_).length+(uv e.size).length=k+(lZ (cF last) e).length from aa]
 refine gk (k:=rt_ Tryz.results188 (k:=?_))
 exact⟨_,hsb,rfl,rfl⟩
end Go.Sx
