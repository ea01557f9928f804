import Derived.Test.YtcbidldebfibkaaGreatDoorQ33
set_option linter.unusedVariables false
set_option linter.unusedSimpArgs false
set_option linter.unusedSectionVars false
set_option linter.unnecessarySimpa false
set_option maxHeartbeats 0
namespace Go.Sx
open Go Go.Proofs
set_option maxRecDepth 100000
theorem LK {G:cM}{H:cG}{fv si sb:SV}{fs:List FV}{ids body:List Nat} [hg:Glb G H] [hf:Sl H fv eF fs] [hsi:Sl H si eB ids] [hsc:Sl H sb eB body] (hc:e7 fs=true) (hn:ids.length≤100000000) (hm:body.length≤100000000) (hb:∀x∈ids,x<256) (hb2:∀x∈body,x<256):
 SC G Tryz.prog 147 [.agg [fv.val].toArray,si.val,sb.val] H (fun v H'=> (gi fs ids body=none∧∃s':SV,v= .tuple #[s'.val, .bool false]∧H'=H)∨(∃(zs:List DG) (s':SV),gi fs ids body=some (zs.map dgD)∧v= .tuple #[s'.val, .bool true]∧H'=Row s' eD (zs.map dgV)::Cl dgH zs::H)):=by
 obtain⟨hc1,hc2⟩:=eG hc
 refine sWk Tryz.func147 Tryz.ntmps147 ?_
 refine gk (k:=bxx (k:=fun b3=>?_))
 refine go ?_
 refine c1_ rfl (jo (a8)) (k:=?_)
 rintro _ _ ⟨br,rfl,rfl⟩
 refine go ?_
 refine c2_ rfl (B9 (k:=0) (most:=4096) (Yl _) (a8) hb (ag)) (k:=?_)
 rintro _ _ hK
 rw[List.drop_zero]at hK
 rcases hK with⟨e,hr,rfl,rfl⟩|⟨l,m,s8,hr,rfl,rfl⟩
 all_goals try rw[Nat.zero_add]
 ·have hD:gi fs ids body=none:=by rw[gi,hr]
  refine e_ mv (k:=e_ exr (k:=e_ exr (k:=e_ asn (k:=e_ asn (k:=on_ (qn_ (ws_ (ws_ (wr_ (e_ mv (k:=?_)))))))))))
  refine e_ (cR rfl) (k:=?_)
  refine gk (k:=ift (k:=go ?_))
  refine gk (k:=rt_ Tryz.results147 (k:=?_))
  exact⟨_,hsb, .inl ⟨hD,SV.nil,rfl,rfl⟩⟩
 obtain⟨g1,g2,g3,g4,g5⟩:=gx hb hr
 have hll:l.length≤4096:=by
  rw[dL]at hr
  split at hr
  ·cases hr
  ·rename_i n0 m0 hr0
   split at hr
   ·cases hr
   ·rename_i r0 m1 hr1
    obtain⟨hr2,_⟩:=(by simpa using hr:r0=l∧m0+m1=m)
    obtain⟨k1,_⟩:=dI hb hr0
    obtain⟨k2,_⟩:=lh _ _ _ _ _ (fun x hx=> hb x (Yp hx)) (Int.le_refl _) hr1
    rw[←hr2];omega
 refine e_ mv (k:=e_ exr (k:=e_ exr (k:=e_ asn (k:=e_ asn (k:=on_ (qn_ (ws_ (ws_ (wr_ (e_ mv (k:=?_)))))))))))
 refine e_ (cN rfl) (k:=?_)
 refine go ?_
 refine sg_ (dm (vs:= [_]) rfl (mj g1)) (k:=?_)
 rintro _ _ ⟨rfl,(⟨hml,rfl⟩|⟨hml,rfl⟩)⟩
 ·have hD:gi fs ids body=none:=by rw[gi,hr];simp only[];rw[if_pos (a8)]
  refine eg_ (cR rfl) (k:=?_)
  refine gk (k:=ift (k:=gk (k:=rt_ Tryz.results147 (k:=?_))))
  exact⟨_,hsb, .inl ⟨hD,SV.nil,rfl,rfl⟩⟩
 have hD:gi fs ids body=match gf fs l body with
  |none=> none
  |some (ds,c)=> if c<body.length then none else some ds:=by
  rw[gi,hr];simp only[];rw[if_neg (a8)]
  all_goals (cases gf fs l body <;> rfl)
 refine eg_ (cN rfl) (k:=?_)
 refine gk (k:=dw (k:=go ?_))
 refine c1_ rfl (jo (xs:=body) (a8)) (k:=?_)
 rintro _ _ ⟨bq,rfl,rfl⟩
 refine e_ asn (k:=on_ (qn_ (ws_ (wr_ (e_ asn (k:=on_ (qn_ (ws_ (ws_ (wr_ (?_)))))))))))
 refine dE (cK.nilRow (e:=eD) (eA (f:=dgH) cK.refl)) ?_
 rw[show Row SV.nil eD ([]:List (Int×SV))=Row SV.nil eD (([]:List DG).map dgV)from rfl]
 refine gk (k:=dn (Nat×SV×(List DG)×Nat) (fun y=> y.1≤l.length∧y.2.2.2≤body.length∧y.2.2.1.length=y.1∧gf fs l body=lT (y.2.2.1.map dgD) y.2.2.2 (gf fs (l.drop y.1) (body.drop y.2.2.2))) (fun y=> [(11,y.2.1.val),(40, .int .i64 ((y.1:Nat):Int))]) [(3,_),(8,_),(38,_),(39,_)] (fun y=> [Row y.2.1 eD (y.2.2.1.map dgV),Cl dgH y.2.2.1,Rd bq (body,y.2.2.2)]) (Row s8 eI l::Vr b3 [fv.val]::H) (fun y=> l.length - y.1) ((0,SV.nil, [],0)) (h0:=?_) (k:=?_))
 ·try dsimp only
  exact⟨Yl _,Yl _,rfl,by rw[List.drop_zero,List.drop_zero];exact(sW _).symm⟩
 rintro⟨i,u,zs,a⟩ ⟨hi,ha,hzl,hI⟩
 try dsimp only[Yd,Ye]at*
 refine gk (k:=wi_ (k:=fun h1=>?_) (m:=fun h1=>?_))
 ·obtain⟨d,hdi⟩:∃d,l[i]? =some d:=⟨_,Yi (a8)⟩
  have hzm:(zs.map dgV).length=zs.length:=Yh ..
  rw[dV hdi,gf]at hI
  refine wk_ (qn_ (ws_ (wb_ (ws_ (wr_ (e_ ixa (k:=e_ lel (k:=e_ asn (k:=on_ (qn_ (ws_ (wr_ (e_ mv (k:=?_))))))))))))))
  refine e_ (bld [(0,_)]) (k:=alc (k:=fun b14=>?_))
  refine go ?_
  refine c2_ rfl (tR (most:=64) ha (a8) hb2 (ag)) (k:=?_)
  rintro _ _ (⟨e,hr2,rfl,rfl⟩|⟨n,m2,hr2,rfl,rfl⟩)
  ·rw[hr2]at hI
   refine e_ mv (k:=e_ exr (k:=e_ exr (k:=e_ asn (k:=e_ asn (k:=on_ (qn_ (ws_ (ws_ (wr_ (e_ mv (k:=?_)))))))))))
   refine e_ (cR rfl) (k:=?_)
   refine gk (k:=ift (k:=go ?_))
   refine gk (k:=rt_ Tryz.results147 (k:=?_))
   exact⟨_,hsb, .inl ⟨by rw[hD,hI];all_goals rfl,SV.nil,rfl,rfl⟩⟩
  rw[hr2]at hI
  simp only[]at hI
  obtain⟨q1,q2,q3,q4⟩:=dI (fun x hx=> hb2 x (Yp hx)) hr2
  rw[Yo]at q2
  rw[List.drop_drop]at hI
  refine e_ mv (k:=e_ exr (k:=e_ exr (k:=e_ asn (k:=e_ asn (k:=on_ (qn_ (ws_ (ws_ (wr_ (e_ mv (k:=?_)))))))))))
  refine e_ (cN rfl) (k:=?_)
  refine gk (k:=dw (k:=go ?_))
  refine gk (k:=dn (SV×(List Val)×Nat×Nat) (fun y=> y.2.2.2=y.2.1.length∧y.2.2.1≤body.length∧a+m2≤y.2.2.1∧y.2.1.length≤n∧gK fs n (body.drop (a+m2))=lT y.2.1 (y.2.2.1 - (a+m2)) (gK fs (n - y.2.1.length) (body.drop y.2.2.1))) (fun y=> [(54, .int .i64 ((y.2.2.2:Nat):Int))]) [(3,_),(8,_),(11,_),(14,_),(38,_),(39,_),(40,_),(53,_)] (fun y=> [Vr b14 [.int .i64 d,y.1.val],Row y.1 eVl y.2.1,Rd bq (body,y.2.2.1)]) (Row u eD (zs.map dgV)::Cl dgH zs::Row s8 eI l::Vr b3 [fv.val]::H) (fun y=> n - y.2.1.length) ((SV.nil, [],a+m2,0)) (h0:=?_) (k:=?_))
  ·try dsimp only
   exact⟨rfl,a8,Nat.le_refl _,Yl _,by rw[Nat.sub_self,Yc,Nat.sub_zero];exact(sW _).symm⟩
  rintro⟨sv,vs,e,j⟩ ⟨hjv,he,hae,hvl,hV⟩
  try dsimp only[Yd,Ye]at*
  refine gk (k:=wi_ (k:=fun h2=>?_) (m:=fun h2=>?_))
  ·obtain⟨k,hk⟩:∃k,n - vs.length=k+1:=⟨n - vs.length - 1,a8⟩
   rw[hk,gK]at hV
   refine wk_ (qn_ (ws_ (wb_ (ws_ (wr_ (e_ mv (k:=e_ fla (k:=e_ ldv (k:=e_ lnn (k:=?_))))))))))
   refine e_ (evq isb (congrArg (Value.int .i64) (by omega:((fs.length:Nat):Int) - 1=((fs.length - 1:Nat):Int)))) (k:=?_)
   refine c2_ rfl (tR (most:=fs.length - 1) he (a8) hb2 (a8)) (k:=?_)
   rintro _ _ (⟨e9,hr3,rfl,rfl⟩|⟨f,m3,hr3,rfl,rfl⟩)
   ·rw[hr3]at hV
    simp only[]at hV
    refine e_ mv (k:=e_ exr (k:=e_ exr (k:=e_ asn (k:=e_ asn (k:=on_ (qn_ (ws_ (ws_ (wr_ (e_ mv (k:=?_)))))))))))
    refine e_ (cR rfl) (k:=?_)
    refine gk (k:=ift (k:=go ?_))
    refine gk (k:=rt_ Tryz.results147 (k:=?_))
    exact⟨_,hsb, .inl ⟨by rw[hD,hI,hV];all_goals rfl,SV.nil,rfl,rfl⟩⟩
   rw[hr3]at hV
   simp only[]at hV
   obtain⟨p1,p2,p3,p4⟩:=dI (fun x hx=> hb2 x (Yp hx)) hr3
   rw[Yo]at p2
   rw[List.drop_drop]at hV
   refine e_ mv (k:=e_ exr (k:=e_ exr (k:=e_ asn (k:=e_ asn (k:=on_ (qn_ (ws_ (ws_ (wr_ (e_ mv (k:=?_)))))))))))
   refine e_ (cN rfl) (k:=?_)
   refine gk (k:=dw (k:=go ?_))
   refine c2_ rfl (Ee (most:=4096) (a8) (a8) hb2 (ag)) (k:=?_)
   rintro _ _ (⟨e9,hr4,rfl,rfl⟩|⟨q,m4,hr4,rfl,rfl⟩)
   ·rw[hr4]at hV
    simp only[]at hV
    refine e_ mv (k:=e_ exr (k:=e_ exr (k:=e_ asn (k:=e_ asn (k:=on_ (qn_ (ws_ (ws_ (wr_ (e_ mv (k:=?_)))))))))))
    refine e_ (cR rfl) (k:=?_)
    refine gk (k:=ift (k:=go ?_))
    refine gk (k:=rt_ Tryz.results147 (k:=?_))
    exact⟨_,hsb, .inl ⟨by rw[hD,hI,hV];all_goals rfl,SV.nil,rfl,rfl⟩⟩
   rw[hr4]at hV
   simp only[]at hV
   obtain⟨r1,r2,r3,r4⟩:=jm (fun x hx=> hb2 x (Yp hx)) hr4
   rw[Yo]at r1
   obtain⟨fp,hfp⟩:∃fp,fs[f]? =some fp:=⟨_,Yi (a8)⟩
   rw[List.drop_drop,hfp]at hV
   refine e_ mv (k:=e_ exr (k:=e_ exr (k:=e_ asn (k:=e_ asn (k:=on_ (qn_ (ws_ (ws_ (wr_ (e_ mv (k:=?_)))))))))))
   refine e_ (cN rfl) (k:=?_)
   refine gk (k:=dw (k:=go ?_))
   refine di cL (fun i=> [10,11,13].contains i) (fun k H=> (k=1→dh H b14 [.int .i64 d,sv.val])∧(k=3→dh H b3 [fv.val])∧(k=5→Sl H fv eF fs)∧(k=6→Sl H fv eF fs)∧(k=7→Sl H fv eF fs)) (af_ 0 (q:=cE fun H hH=>fla) (k:=?_))
   refine cH 1 rfl rfl (aa) rfl (cE fun H hH=>aD) (?_)
   refine af_ 2 (q:=cE fun H hH=>fla) (k:=?_)
   refine cH 3 rfl rfl (aa) rfl (cE fun H hH=>aO) (?_)
   refine af_ 4 (q:=cE fun H hH=>mv) (k:=?_)
   refine cH 5 rfl rfl (aa) rfl (cE fun H hH=>by have hN:=hH.2.2.1 rfl;exact ixa) (?_)
   refine cH 6 rfl rfl (aa) rfl (cE fun H hH=>by have hN:=hH.2.2.2.1 rfl;exact fle) (?_)
   refine cH 7 rfl rfl (aa) rfl (cE fun H hH=>by have hN:=hH.2.2.2.2 rfl;exact lfl) (?_)
   refine af_ 8 (q:=cE fun H hH=>mv) (k:=af_ 9 (q:=cE fun H hH=>bld [(0,_),(1,_)]) (k:=?_))
   refine cQ 10 rfl (aa) rfl (fun k hk=> ⟨fun hi=> ab,fun hi=> ab,fun hi=> ab,fun hi=> ab,fun hi=> ab⟩) (dW eVl rfl rfl) ?_
   rintro _ _ ⟨s84,rfl,rfl⟩
   refine cQ 11 rfl (aa) rfl (fun k hk=> ⟨fun hi=> ab,fun hi=> ab,fun hi=> ab,fun hi=> ab,fun hi=> ab⟩) (ek rfl rfl rfl rfl (af) (af)) ?_
   rintro _ _ ⟨s85,rfl,rfl⟩
   refine af_ 12 (q:=cE fun H hH=>fla) (k:=?_)
   refine cQ 13 rfl (aa) rfl (fun k hk=> ⟨fun hi=> absurd hk (ad),fun hi=> ab,fun hi=> ab,fun hi=> ab,fun hi=> ab⟩) (dk rfl rfl rfl) ?_
   rintro _ _ ⟨rfl,rfl⟩
   refine db (aa) (fun k hk=> ⟨fun hi=> absurd hk (ad),fun hi=> absurd hk (ad),fun hi=> absurd hk (ad),fun hi=> absurd hk (ad),fun hi=> absurd hk (ad)⟩) (go ?_)
   refine ln_ ((s85,vs++ [(fp.name,dO q)],e+m3+m4,j+1)) (h2:=?_) (k:=?_)
   ·try dsimp only
    simp;omega
   try dsimp only
   refine⟨au,a8,a8,au,?_⟩
   rw[hV,show n - (vs++ [(fp.name,dO q)]).length=k from au,show e+m3+m4 - (a+m2)=e - (a+m2)+(m3+m4)from a8,Nat.add_assoc e m3 m4]
   cases gK fs k (body.drop (e+(m3+m4)))with
   |none=> rfl
   |some p=> simp only[lT,Yf,Yd,Ye,Option.map_some,Option.getD_some,Nat.add_assoc]
  have hkn:n - vs.length=0:=a8
  rw[hkn,gK]at hV
  have hV2:gK fs n (body.drop (a+m2))=some (vs,e - (a+m2)):=by rw[hV];simp[lT]
  rw[hV2]at hI
  simp only[]at hI
  refine gk (k:=dD eD (k:=fun s90=>?_))
  refine app (k:=fun s91=>?_)
  rw[show zs.map dgV++ [(d,sv)]=(zs++ [(⟨d,sv,vs⟩:DG)]).map dgV from by simp[dgV]]
  refine dE (cK.trans (H':=Row sv eVl vs::Cl dgH zs::Row s91 eD ((zs++ [(⟨d,sv,vs⟩:DG)]).map dgV)::Rd bq (body,e)::Row s8 eI l::Vr b3 [fv.val]::H) (hsb) (BE ⟨d,sv,vs⟩)) ?_
  refine go ?_
  refine ln_ ((i+1,s91,zs++ [⟨d,sv,vs⟩],e)) (k:=?_)
  try dsimp only
  refine⟨a8,he,au,?_⟩
  rw[hI,show(zs++ [(⟨d,sv,vs⟩:DG)]).map dgD=zs.map dgD++ [(d,vs)]from by simp[dgD],List.drop_drop,show m2+(e - (a+m2))=e - a from a8,show a+(e - a)=e from a8]
  cases gf fs (l.drop (i+1)) (body.drop e)with
  |none=> rfl
  |some p=> simp only[lT,Yf,Yd,Ye,Option.some.injEq,Prod.mk.injEq,true_and];omega
 have hii:i=l.length:=a8
 rw[hii,List.drop_length,gf]at hI
 have hD2:gi fs ids body=if a<body.length then none else some (zs.map dgD):=by rw[hD,hI];simp[lT]
 refine go ?_
 refine di cL (fun i=> [4].contains i) (fun _ _=> True) (af_ 0 (q:=cE fun H hH=>mv) (k:=af_ 1 (q:=cE fun H hH=>mv) (k:=af_ 2 (q:=cE fun H hH=>nck) (k:=af_ 3 (q:=cE fun H hH=>fla) (k:=?_)))))
 refine cQ 4 rfl (aa) rfl (fun _ _=> trivial) (dm (vs:= [_]) rfl (mj ha)) ?_
 rintro v _ ⟨rfl,hK⟩
 refine tg (fun _=> trivial) (?_)
 refine cH 5 rfl rfl (aa) rfl (du ((show Ev G _ _ _ _ (.bool (decide (a=body.length)))from by
  rcases hK with⟨hal,rfl⟩|⟨hal,rfl⟩
  ·exact evq (gR rfl) (congrArg Value.bool (Yr (a8)).symm)
  ·exact evq (gS rfl) (congrArg Value.bool (Ys (a8)).symm)))) (?_)
 refine as_ 6 (q:=asn) (k:=as_ 7 (q:=asn) (k:=az_ (k:=gk (k:=rt_ Tryz.results147 (k:=?_)))))
 by_cases hal:a<body.length
 ·rw[if_pos hal]at hD2
  exact⟨_,hsb, .inl ⟨hD2,u,by rw[show decide (a=body.length)=false from Yr (a8)];all_goals rfl,rfl⟩⟩
 ·rw[if_neg hal]at hD2
  exact⟨_,hsb, .inr ⟨zs,u,hD2,by rw[show decide (a=body.length)=true from Ys (a8)];all_goals rfl,rfl⟩⟩
theorem Bs {kind:Nat}{bl:List (Nat×List Nat)}(hk:kind<256) (h:∀q∈bl,q.1<256∧∀x∈q.2,x<256):∀x∈jW kind bl,x<256:=fun x hx=> by
 rcases List.mem_append.1 hx with hx|hx
 ·exact ow hk h x hx
 ·exact tk _ x hx
theorem xU {G:cM}{H:cG}{s:SV}{xs:List Nat} [hs:Sl H s eB xs] (hn:xs.length≤1000000000) (hb:∀x∈xs,x<256):SC G Tryz.prog 50 [.int .u8 83,s.val] H (fun v H'=>
 (eZ 83 xs=none∧H'=H∧∃e:Int,e≠0∧v= .tuple #[SV.nil.val, .int .i64 e])∨(∃bl l F,∃s':SV,eZ 83 xs=some bl∧kL F l bl∧v= .tuple #[s'.val, .int .i64 0]∧H'=Row s' eK l::dH F::H)):=
 (tI 83 (ag) hn hb).mono fun v H' h=> h
theorem HM {G:cM}{H:cG}{fv s:SV}{fs:List FV}{xs:List Nat} [hf:Sl H fv eF fs] [hs:Sl H s eB xs] (hc:e7 fs=true) (hn:xs.length≤2000000) (hb:∀x∈xs,x<256):
 SC G Tryz.prog 91 [.agg [fv.val].toArray,s.val] H (fun v H'=> (fM fs xs=none∧∃(s':SV) (c:Int),c≠0∧v= .tuple #[s'.val, .int .i64 c]∧H'=H)∨(∃(zs:List DG) (s':SV),fM fs xs=some (zs.map dgD)∧v= .tuple #[s'.val, .int .i64 0]∧H'=Row s' eD (zs.map dgV)::Cl dgH zs::H)):=by
 obtain⟨hc1,hc2⟩:=eG hc
 refine sWk Tryz.func91 Tryz.ntmps91 ?_
 refine gk (k:=bxx (k:=fun b2=>?_))
 refine go ?_
 refine c1_ rfl (om (fs:=fs) (a8) (fun f hf=> aY)) (k:=?_)
 rintro _ _ ⟨c,rfl,hck,rfl⟩
 refine gk (k:=wi_ (k:=fun h1=>?_) (m:=fun h1=>?_))
 ·exact absurd h1 (ca)
 refine go ?_
 refine c2_ rfl (xU (a8) hb) (k:=?_)
 rintro _ _ (⟨hr,rfl,e,hne,rfl⟩|⟨bl,lb,F0,s19,hr,hB,rfl,rfl⟩)
 ·have hD:fM fs xs=none:=by rw[fM,hr]
  refine dE (cK.nilRow (e:=eK) cK.refl) ?_
  refine gk (k:=dQ 4 28 (k:=fun h2=>gk (k:=edq)) (q:=?_))
  refine gk (k:=wi_ (k:=fun h3=>?_) (m:=fun h3=>?_))
  ·refine go ?_
   refine s_ (cZ eD rfl) (k:=?_)
   rintro _ _ ⟨s29,rfl,rfl⟩
   refine gk (k:=rt_ Tryz.results91 (k:=?_))
   exact⟨_,hsb, .inl ⟨hD,s29,10,ag,rfl,rfl⟩⟩
  exact absurd (h3).1 hne
 have hq:=Ls hb hr
 have hlb:=hB.1
 refine go ?_
 refine gk (k:=wi_ (k:=fun h4=>?_) (m:=fun h4=>?_))
 ·have hD:fM fs xs=none:=by rw[fM,hr];simp only[];rw[if_neg (a8)]
  refine go ?_
  refine s_ (cZ eD rfl) (k:=?_)
  rintro _ _ ⟨s29,rfl,rfl⟩
  refine gk (k:=rt_ Tryz.results91 (k:=?_))
  exact⟨_,hsb, .inl ⟨hD,s29,10,ag,rfl,rfl⟩⟩
 have hl6:bl.length=6:=a8
 obtain⟨p1,q1,hp1,hq1,hs1⟩:=hB.at6 (i:=1) (a8)
 obtain⟨p5,q5,hp5,hq5,hs5⟩:=hB.at6 (i:=5) (a8)
 obtain⟨hb1,hl1⟩:=hq _ (Yj hq1)
 obtain⟨hb5,hl5⟩:=hq _ (Yj hq5)
 have hS:=xQ (fs:=fs) hr hl6 hq1 hq5
 refine go ?_
 refine di cL (fun i=> [9].contains i) (fun k H=> (k=0→dh H b2 [fv.val])∧(k=2→Sl H s19 eK lb)∧(k=3→Sl H s19 eK lb)∧(k=4→Sl H s19 eK lb)∧(k=6→Sl H s19 eK lb)∧(k=7→Sl H s19 eK lb)∧(k=8→Sl H s19 eK lb)) (?_)
 refine cH 0 rfl rfl (aa) rfl (cE fun H hH=>aF) (?_)
 refine af_ 1 (q:=cE fun H hH=>mv) (k:=?_)
 refine cH 2 rfl rfl (aa) rfl (cE fun H hH=>by have hN:=hH.2.1 rfl;exact ixa (i:=1)) (?_)
 refine cH 3 rfl rfl (aa) rfl (cE fun H hH=>bV) (?_)
 refine cH 4 rfl rfl (aa) rfl (cE fun H hH=>by have hN:=hH.2.2.2.1 rfl;exact lfl) (?_)
 refine af_ 5 (q:=cE fun H hH=>mv) (k:=?_)
 refine cH 6 rfl rfl (aa) rfl (cE fun H hH=>by have hN:=hH.2.2.2.2.1 rfl;exact ixa (i:=5)) (?_)
 refine cH 7 rfl rfl (aa) rfl (cE fun H hH=>by have hN:=hH.2.2.2.2.2.1 rfl;exact fle) (?_)
 refine cH 8 rfl rfl (aa) rfl (cE fun H hH=>by have hN:=hH.2.2.2.2.2.2 rfl;exact lfl) (?_)
 refine cQ 9 rfl (aa) rfl (fun k hk=> ⟨fun hi=> ab,fun hi=> ab,fun hi=> ab,fun hi=> ab,fun hi=> ab,fun hi=> ab,fun hi=> ab⟩) (dm (vs:= [_,_,_]) rfl (HC (ids:=q1.2) (body:=q5.2) hc (a8) (a8) hb1 hb5)) ?_
 rintro _ _ (⟨hd,s40,rfl,rfl⟩|⟨zs,s40,hd,rfl,rfl⟩)
 ·have hD:fM fs xs=none:=by rw[hS,hd]
  refine af_ 10 (q:=cE fun H hH=>mv) (k:=af_ 11 (q:=cE fun H hH=>exr) (k:=af_ 12 (q:=cE fun H hH=>exr) (k:=af_ 13 (q:=cE fun H hH=>asn) (k:=af_ 14 (q:=cE fun H hH=>asn) (k:=db (aa) (fun k hk=> ⟨fun hi=> absurd hk (ad),fun hi=> ab,fun hi=> ab,fun hi=> absurd hk (ad),fun hi=> ab,fun hi=> ab,fun hi=> absurd hk (ad)⟩) (go ?_))))))
  refine ift (k:=go ?_)
  refine s_ (cZ eD rfl) (k:=?_)
  rintro _ _ ⟨s45,rfl,rfl⟩
  refine gk (k:=rt_ Tryz.results91 (k:=?_))
  exact⟨_,hsb, .inl ⟨hD,s45,10,ag,rfl,rfl⟩⟩
 obtain⟨k1,k2,k3,k4⟩:=rD hc hb1 hb5 (a8) hd
 have hS2:fM fs xs=if k8 fs (zs.map dgD)=0∧rb fs (zs.map dgD)=xs then some (zs.map dgD)else none:=by rw[hS,hd]
 have hzm:(zs.map dgV).length=zs.length:=Yh ..
 refine af_ 10 (q:=cE fun H hH=>mv) (k:=af_ 11 (q:=cE fun H hH=>exr) (k:=af_ 12 (q:=cE fun H hH=>exr) (k:=af_ 13 (q:=cE fun H hH=>asn) (k:=af_ 14 (q:=cE fun H hH=>asn) (k:=db (aa) (fun k hk=> ⟨fun hi=> absurd hk (ad),fun hi=> ab,fun hi=> ab,fun hi=> absurd hk (ad),fun hi=> ab,fun hi=> ab,fun hi=> absurd hk (ad)⟩) (go ?_))))))
 refine dw (k:=go ?_)
 refine c2_ rfl (SC.mono (zU (ds:=zs.map dgD) (yR (zs:=zs) inferInstance) (a8) (fun f hf=> aY) (a8) (fun d hd=> ⟨bU,fun v hv=> bJ⟩) k3 k4) (fun v H' h=> Or.symm h)) (k:=?_)
 rintro _ _ (⟨hck0,s49,rfl,rfl⟩|⟨hck0,s49,rfl,rfl⟩)
 ·have hD:fM fs xs=none:=by rw[hS2,if_neg (fun h=> hck0 h.1)]
  refine e_ mv (k:=e_ exr (k:=e_ exr (k:=e_ asn (k:=e_ asn (k:=on_ (qn_ (ws_ (ws_ (wr_ (e_ mv (k:=e_ ine (k:=e_ mv (k:=dQ 6 60 (k:=fun h5=>eg_ mv (k:=eg_ (cV rfl) (k:=eg_ mv (k:=eg_ (cV rfl) (k:=eg_ zx (k:=e_ pkf (k:=on_ (edq)))))))) (q:=?_))))))))))))))
  refine gk (k:=wi_ (k:=fun h6=>?_) (m:=fun h6=>?_))
  ·refine go ?_
   refine s_ (cZ eD rfl) (k:=?_)
   rintro _ _ ⟨s61,rfl,rfl⟩
   refine gk (k:=rt_ Tryz.results91 (k:=?_))
   exact⟨_,hsb, .inl ⟨hD,s61,10,ag,rfl,rfl⟩⟩
  exact absurd (h6).1 (a8)
 have hsg:=(qG hck0 k3 k4).blocks
 have hsgb:∀x∈rb fs (zs.map dgD),x<256:=Bs (ag) (fun q hq=> ⟨(hsg.1 q hq).2.1,(hsg.1 q hq).2.2⟩)
 refine e_ mv (k:=e_ exr (k:=e_ exr (k:=e_ asn (k:=e_ asn (k:=on_ (qn_ (ws_ (ws_ (wr_ (e_ mv (k:=e_ ine (k:=e_ mv (k:=eg_ mv (k:=?_))))))))))))))
 refine eg_ (cV rfl) (k:=?_)
 refine eg_ mv (k:=?_)
 refine eg_ (cV rfl) (k:=?_)
 refine eg_ zx (k:=gk (k:=wi_ (k:=fun h7=>?_) (m:=fun h7=>?_)))
 ·have hD:fM fs xs=none:=by
   rw[hS2,if_neg]
   rintro⟨_,h9⟩
   exact absurd (by rw[h9]) h7
  refine go ?_
  refine s_ (cZ eD rfl) (k:=?_)
  rintro _ _ ⟨s61,rfl,rfl⟩
  refine gk (k:=rt_ Tryz.results91 (k:=?_))
  exact⟨_,hsb, .inl ⟨hD,s61,10,ag,rfl,rfl⟩⟩
 have hD:fM fs xs=some (zs.map dgD):=by
  rw[hS2,if_pos ⟨hck0,by have h9:=h7;rwa [dK hsgb,dK hb]at h9⟩]
 refine gk (k:=rt_ Tryz.results91 (k:=?_))
 exact⟨_,hsb, .inr ⟨zs,s40,hD,rfl,rfl⟩⟩
theorem jC (l:List En) (k:Nat):∀n,k≤n→∃r r',(dj l n).1=(dj l k).1++r∧(dj l n).2=(dj l k).2++r'
 | 0,h=> by obtain rfl:k=0:=by omega
            exact⟨[], [],aj,aj⟩
 |n+1,h=> by
  by_cases he:k=n+1
  ·subst he;exact⟨[], [],aj,aj⟩
  ·obtain⟨r,r',h1,h2⟩:=jC l k n (a8)
   exact⟨r++uv (dB [] (eJ l n)).length,r'++dB [] (eJ l n),by rw[dj];simp only[h1,Yf],by rw[dj];simp only[h2,Yf]⟩
theorem CV {l:List En}{j:Nat}(h:j<eg l):∃r,(fU l).drop ((uv l.length).length+(dj l j).1.length)=uv (dB [] (eJ l j)).length++r∧(dB [] (eJ l j)).length≤r.length:=by
 obtain⟨r,r',h1,h2⟩:=jC l (j+1) (eg l) (a8)
 rw[dj]at h1 h2
 simp only at h1 h2
 refine⟨r++((dj l j).2++dB [] (eJ l j)++r'),?_,ah⟩
 rw[fU,h1,h2,←Ya]
 simp only[Yf]
 rw[←Yf,List.drop_left]
theorem G6 {l:List En}{j:Nat}(h:j<eg l):∃r,(fU l).drop ((uv l.length).length+(dj l (eg l)).1.length+(dj l j).2.length)=dB [] (eJ l j)++r:=by
 obtain⟨r,r',h1,h2⟩:=jC l (j+1) (eg l) (a8)
 rw[dj]at h2
 simp only at h2
 refine⟨r',?_⟩
 have e:fU l=(uv l.length++(dj l (eg l)).1++(dj l j).2)++(dB [] (eJ l j)++r'):=by rw[fU,h2];simp only[Yf]
 rw[e,←Ya,←Ya,List.drop_left]
theorem FY (p:List Nat) (e:En):1≤(m9 p e).length:=by
 have:=ju (dC p (cF e.key))
 simp only[m9,Ya];omega
theorem yL:∀(l:List En) (p:List Nat),l.length≤(dB p l).length
 | [],_=> aj
 |e::r,p=> by
  have h1:=FY p e
  have h2:=yL r (cF e.key)
  simp only[dB,Ya,Yb];omega
theorem vX (l:List En):∀k,min (16*k) l.length≤(dj l k).2.length
 | 0=> aj
 |k+1=> by
  have h1:=vX l k
  have h2:=yL (eJ l k) []
  rw[lG]at h2
  simp only[dj,Ya];omega
theorem G7 (l:List En):l.length≤(fU l).length:=by
 have h1:=vX l (eg l)
 have h2:l.length≤16*eg l:=bH
 simp only[fU,Ya];omega
theorem CX (l:List En):(fU l).length=(uv l.length).length+(dj l (eg l)).1.length+(dj l (eg l)).2.length:=by simp only[fU,Ya]
theorem IX {l:List En}{j k:Nat}{e:En}{xs r:List Nat}{P:Nat}(hx:xs.drop P=dB [] (eJ l j)++r) (hk:k<16) (he:l[16*j+k]? =some e):∃r',xs.drop (P+(dB [] ((eJ l j).take k)).length)=m9 (jB [] ((eJ l j).take k)) e++r':=by
 have hb:=qJ l j k hk
 rw[he]at hb
 have h1:eJ l j=(eJ l j).take (k+1)++(eJ l j).drop (k+1):=(List.take_append_drop ..).symm
 have h2:dB [] (eJ l j)=dB [] ((eJ l j).take (k+1))++dB (jB [] ((eJ l j).take (k+1))) ((eJ l j).drop (k+1)):=by
  conv=> lhs;rw[h1]
  exact oE _ _ _
 rw[lC hb]at h2
 refine⟨dB (jB [] ((eJ l j).take (k+1))) ((eJ l j).drop (k+1))++r,?_⟩
 rw[←List.drop_drop,hx,h2]
 simp only[Yf]
 rw[List.drop_left]
def l9 (l:List En) (j:Nat):List Int:=(List.range j).map fun k=> (((dB [] (eJ l k)).length:Nat):Int)
theorem xL (l:List En) (j:Nat):l9 l (j+1)=l9 l j++ [(((dB [] (eJ l j)).length:Nat):Int)]:=by simp[l9,List.range_succ]
theorem tA (l:List En) (j:Nat):(l9 l j).length=j:=by simp[l9]
theorem zC {l:List En}{n j:Nat}(h:j<n):(l9 l n)[j]? =some (((dB [] (eJ l j)).length:Nat):Int):=by
 rw[l9,Xd,List.getElem?_range h];all_goals rfl
theorem rP {G:cM}{H:cG}:SC G Tryz.prog 189 [.bool true] H (fun v H'=> v= .tuple #[]∧H'=H):=by
 refine sWk Tryz.func189 Tryz.ntmps189 ?_
 refine gk (k:=wi_ (k:=fun h1=>?_) (m:=fun h1=>?_))
 ·exact absurd h1 (ag)
 refine gk (k:=rt_ Tryz.results189 (k:=?_))
 exact⟨_,hsb,rfl,rfl⟩
theorem GS {G:cM}{H R:cG}{b k most m:Nat}{xs q:List Nat} [hg:Glb G R] [hr:Rem H Rd b (xs,k) R] (hk:k≤xs.length) (hn:xs.length≤1000000000000) (hb:∀x∈xs,x<256) (hm:most≤4611686018427387904) (h:hX most (xs.drop k)= .ok (q,m)):SC G Tryz.prog 120 [.pointer (some ⟨b,0,none⟩), .int .i64 ((most:Nat):Int)] H (fun v H'=> v= .tuple #[.string (dO q), .nilIface]∧H'=Rd b (xs,k+m)::R):=
 SC.mono (Ee hk hn hb hm) fun v H' h2=> by
  rcases h2 with⟨e,h3,_⟩|⟨n',m',h3,h4,h5⟩
  ·rw[h]at h3;cases h3
  ·rw[h]at h3;cases h3;exact⟨h4,h5⟩
theorem GR {G:cM}{H R:cG}{b k most n m:Nat}{xs:List Nat} [hg:Glb G R] [hr:Rem H Rd b (xs,k) R] (hk:k≤xs.length) (hn:xs.length≤1000000000000) (hb:∀x∈xs,x<256) (hm:most≤4611686018427387904) (h:ec most (xs.drop k)= .ok (n,m)):SC G Tryz.prog 46 [.pointer (some ⟨b,0,none⟩), .int .i64 ((most:Nat):Int)] H (fun v H'=> v= .tuple #[.int .i64 ((n:Nat):Int), .nilIface]∧H'=Rd b (xs,k+m)::R):=
 SC.mono (tR hk hn hb hm) fun v H' h2=> by
  rcases h2 with⟨e,h3,_⟩|⟨n',m',h3,h4,h5⟩
  ·rw[h]at h3;cases h3
  ·rw[h]at h3;cases h3;exact⟨h4,h5⟩
theorem sN {G:cM}{H R:cG}{b k most n m:Nat}{xs:List Nat} [hg:Glb G R] [hr:Rem H Rd b (xs,k) R] (hk:k≤xs.length) (hn:xs.length≤1000000000000) (hb:∀x∈xs,x<256) (hm:most≤4611686018427387904) (h:ec most (xs.drop k)= .ok (n,m)):SC G Tryz.prog 188 [.pointer (some ⟨b,0,none⟩), .int .i64 ((most:Nat):Int)] H (fun v H'=> v= .int .i64 ((n:Nat):Int)∧H'=Rd b (xs,k+m)::R):=by
 refine sWk Tryz.func188 Tryz.ntmps188 ?_
 refine go ?_
 refine d2_ rfl (GR hk hn hb hm h) (k:=e_ mv (k:=e_ exr (k:=e_ exr (k:=e_ asn (k:=e_ asn (k:=on_ (qn_ (ws_ (wr_ (e_ mv (k:=?_)))))))))))
 refine e_ (gS rfl) (k:=?_)
 refine d1_ rfl (rP) (k:=gk (k:=rt_ Tryz.results188 (k:=?_)))
 exact⟨_,hsb,rfl,rfl⟩
def ePt:Enc (Nat×Nat):=⟨fun p=> [.pointer (some ⟨p.1,p.2,none⟩)],1,false,fun _=> rfl,fun _ v h=> aZ,ag,fun _=> rfl,ag⟩
instance {p:Nat×Nat}:kK ePt p (.pointer (some ⟨p.1,p.2,none⟩)):=⟨rfl⟩
theorem Fo (a b:List Nat):a.take (dC a b)++b.drop (dC a b)=b:=by rw[pU,List.take_append_drop]
theorem DA {G:cM}{H R:cG}{b k:Nat}{xs rest:List Nat}{last:ByteArray}{first:Bool}{e:En} [hg:Glb G R] [hr:Rem H Rd b (xs,k) R] (hk:k≤xs.length) (hn:xs.length≤1000000000) (hb:∀x∈xs,x<256) (h:xs.drop k=m9 (cF last) e++rest) (hks:1≤e.key.size∧e.key.size≤65) (hls:last.size≤65) (hnm:∀x∈iw e,x≤2147483647):
 SC G Tryz.prog 190 [.pointer (some ⟨b,0,none⟩), .string last, .bool first] H (fun v H'=> v= .agg [.string e.key, .int .i64 ((e.docs:Nat):Int), .int .i64 ((e.tot:Nat):Int), .int .i64 ((e.at_:Nat):Int), .int .i64 ((e.size:Nat):Int)].toArray∧H'=Rd b (xs,k+(m9 (cF last) e).length)::R):=by
 obtain⟨hs1,hs2⟩:=jP (cF last) (cF e.key)
 have hbl:=cJ last
 have hbk:=cJ e.key
 have hkx:k+(m9 (cF last) e).length+rest.length=xs.length:=by
  have:=congrArg List.length h
  rw[Yo,Ya]at this;omega
 obtain⟨sh,hsh⟩:∃sh,sh=dC (cF last) (cF e.key):=⟨_,rfl⟩
 rw[←hsh]at hs1 hs2
 have he:m9 (cF last) e=uv sh++(uv ((cF e.key).length - sh)++(cF e.key).drop sh)++(uv e.docs++uv e.tot++uv e.at_++uv e.size):=by rw[m9,hsh]
 have hdl:((cF e.key).drop sh).length=(cF e.key).length - sh:=Yo ..
 have h0:ec last.size (xs.drop k)= .ok (sh,(uv sh).length):=by
  rw[h,he];simp only[Yf];exact gL _ (a8) (a8)
 have hd1:xs.drop (k+(uv sh).length)=uv ((cF e.key).drop sh).length++(cF e.key).drop sh++(uv e.docs++(uv e.tot++(uv e.at_++(uv e.size++rest)))):=by
  rw[←List.drop_drop,h,he,hdl];simp only[Yf];rw[List.drop_left]
 have h1:hX (65 - sh) (xs.drop (k+(uv sh).length))= .ok ((cF e.key).drop sh,(uv ((cF e.key).drop sh).length).length+((cF e.key).drop sh).length):=by
  rw[hd1];exact vn _ (a8) (a8)
 obtain⟨k1,hk1⟩:∃k1,k1=k+(uv sh).length+((uv ((cF e.key).drop sh).length).length+((cF e.key).drop sh).length):=⟨_,rfl⟩
 have hd2:xs.drop k1=uv e.docs++(uv e.tot++(uv e.at_++(uv e.size++rest))):=by
  rw[hk1,←List.drop_drop,hd1,←Ya,List.drop_left]
 have hlen:(m9 (cF last) e).length=k1 - k+((uv e.docs).length+(uv e.tot).length+(uv e.at_).length+(uv e.size).length):=by
  rw[he,hk1,hdl];simp only[Ya,hdl];omega
 have hk1x:k1+((uv e.docs).length+(uv e.tot).length+(uv e.at_).length+(uv e.size).length)≤xs.length:=a8
 have hkey:last.extract 0 sh++dO ((cF e.key).drop sh)=e.key:=by
  apply iH.1
  rw[ej,dK (fun x hx=> ko _ x (Yp hx)),gn,List.drop_zero,hsh]
  exact Fo _ _
 have hn1:=hnm e.docs (by simp[iw])
 have hn2:=hnm e.tot (by simp[iw])
 have hn3:=hnm e.at_ (by simp[iw])
 have hn4:=hnm e.size (by simp[iw])
 have hss:(dO ((cF e.key).drop sh)).size=(cF e.key).length - sh:=by rw[fg,hdl]
 have hse:(last.extract 0 sh).size=sh:=by rw[ByteArray.size_extract];omega
 refine sWk Tryz.func190 Tryz.ntmps190 ?_
 refine gk (k:=alc (k:=fun b6=>?_))
 refine go ?_
 refine d2_ rfl (sN hk (a8) hb (a8) h0) (k:=e_ asn (k:=on_ (qn_ (ws_ (wr_ (e_ mv (k:=e_ mv (k:=?_))))))))
 refine e_ (evq isb (congrArg (Value.int .i64) (by omega:(65:Int) - ((sh:Nat):Int)=((65 - sh:Nat):Int)))) (k:=?_)
 refine d2_ rfl (GS (most:=65 - sh) (a8) (a8) hb (a8) h1) (k:=?_)
 rw[←hk1]
 refine e_ mv (k:=e_ exr (k:=e_ exr (k:=e_ asn (k:=e_ asn (k:=on_ (qn_ (ws_ (wr_ (e_ mv (k:=?_))))))))))
 refine e_ (gS rfl) (k:=?_)
 refine d1_ rfl (rP) (k:=on_ (qn_ (ws_ (wr_ (e_ mv (k:=e_ mv (k:=e_ (pT (b:=sh)) (k:=e_ mv (k:=e_ Cg (k:=?_))))))))))
 rw[hkey]
 refine e_ (bld [(0,_)]) (k:=alc (k:=fun b10=>?_))
 refine gk (k:=cY 10 47 (k:=fun h1=>gk (k:=dQ 7 46 (k:=fun h2=>gk (k:=gU (vs:=[_,_]) (hc:=(AS (a8) (a8))) (k:=eg_ mv (k:=eg_ (evq ieq (congrArg Value.bool (Ys (a8)))) (k:=gk (k:=edq)))))) (q:=gk (k:=edq)))) (q:=?_))
 rw[show(decide ((0:Int)<((e.key.size:Nat):Int)) && (first ||true))=true from by rw[Ys (a8)];simp]
 refine d1_ rfl (rP) (k:=go ?_)
 refine s_ (dp ePt [(b10,1),(b10,2),(b10,3),(b10,4)] (aI) rfl (an)) (k:=?_)
 rintro _ _ ⟨s53,rfl,rfl⟩
 refine gk (k:=dn (Nat×Nat×Nat×Nat×Nat×Nat) (fun y=> (y.1=0∧y.2.1=k1∨y.1=1∧y.2.1=k1+(uv e.docs).length∧y.2.2.1=e.docs∨y.1=2∧y.2.1=k1+(uv e.docs).length+(uv e.tot).length∧y.2.2.1=e.docs∧y.2.2.2.1=e.tot∨y.1=3∧y.2.1=k1+(uv e.docs).length+(uv e.tot).length+(uv e.at_).length∧y.2.2.1=e.docs∧y.2.2.2.1=e.tot∧y.2.2.2.2.1=e.at_∨y.1=4∧y.2.1=k1+(uv e.docs).length+(uv e.tot).length+(uv e.at_).length+(uv e.size).length∧y.2.2.1=e.docs∧y.2.2.2.1=e.tot∧y.2.2.2.2.1=e.at_∧y.2.2.2.2.2=e.size)) (fun y=> [(55, .int .i64 ((y.1:Nat):Int))]) [(0,_),(6,_),(10,_),(53,_),(54,_)] (fun y=> [Rd b (xs,y.2.1),Vr b10 [.string e.key, .int .i64 ((y.2.2.1:Nat):Int), .int .i64 ((y.2.2.2.1:Nat):Int), .int .i64 ((y.2.2.2.2.1:Nat):Int), .int .i64 ((y.2.2.2.2.2:Nat):Int)]]) _ (fun y=> 4 - y.1) ((0,k1,0,0,0,0)) (h0:=?_) (k:=?_))
 ·try dsimp only
  exact .inl ⟨rfl,rfl⟩
 rintro⟨j,kk,va,vb,vc,vd⟩ hj
 try dsimp only[Yd,Ye]at*
 have hpl:([(b10,1),(b10,2),(b10,3),(b10,4)]:List (Nat×Nat)).length=4:=rfl
 refine gk (k:=wi_ (k:=fun h3=>?_) (m:=fun h3=>?_))
 ·obtain⟨pj,hpj⟩:∃pj,([(b10,1),(b10,2),(b10,3),(b10,4)]:List (Nat×Nat))[j]? =some pj:=⟨_,Yi (a8)⟩
  have hd3:xs.drop (k1+(uv e.docs).length)=uv e.tot++(uv e.at_++(uv e.size++rest)):=by rw[←List.drop_drop,hd2,List.drop_left]
  have hd4:xs.drop (k1+(uv e.docs).length+(uv e.tot).length)=uv e.at_++(uv e.size++rest):=by rw[←List.drop_drop,hd3,List.drop_left]
  have hd5:xs.drop (k1+(uv e.docs).length+(uv e.tot).length+(uv e.at_).length)=uv e.size++rest:=by rw[←List.drop_drop,hd4,List.drop_left]
  obtain⟨nj,hnj,hrj,hkx⟩:∃nj,(iw e)[j]? =some nj∧ec 2147483647 (xs.drop kk)= .ok (nj,(uv nj).length)∧kk≤xs.length:=by
   rcases hj with⟨rfl,rfl⟩|⟨rfl,rfl,_⟩|⟨rfl,rfl,_⟩|⟨rfl,rfl,_⟩|⟨rfl,_⟩
   ·exact⟨e.docs,rfl,by rw[hd2];exact gL _ (a8) hn1,a8⟩
   ·exact⟨e.tot,rfl,by rw[hd3];exact gL _ (a8) hn2,a8⟩
   ·exact⟨e.at_,rfl,by rw[hd4];exact gL _ (a8) hn3,a8⟩
   ·exact⟨e.size,rfl,by rw[hd5];exact gL _ (a8) hn4,a8⟩
   ·omega
  refine go ?_
  refine d2_ rfl (sN (most:=2147483647) hkx (a8) hb (a8) hrj) (k:=?_)
  rcases hj with⟨rfl,rfl⟩|⟨rfl,rfl,rfl⟩|⟨rfl,rfl,rfl,rfl⟩|⟨rfl,rfl,rfl,rfl,rfl⟩|⟨rfl,_⟩
  all_goals (first|(simp only[Xb,Xc,iw,Option.some.injEq]at hpj hnj;subst hpj;subst hnj)|(exfalso;omega))
  ·refine go ?_
   refine ln_ ((1,kk+(uv e.docs).length,e.docs,vb,vc,vd)) (k:=?_)
   try dsimp only
   exact .inr (.inl ⟨rfl,rfl,rfl⟩)
  ·refine go ?_
   refine ln_ ((2,k1+(uv e.docs).length+(uv e.tot).length,e.docs,e.tot,vc,vd)) (k:=?_)
   try dsimp only
   exact .inr (.inr (.inl ⟨rfl,rfl,rfl,rfl⟩))
  ·refine go ?_
   refine ln_ ((3,k1+(uv e.docs).length+(uv e.tot).length+(uv e.at_).length,e.docs,e.tot,e.at_,vd)) (k:=?_)
   try dsimp only
   exact .inr (.inr (.inr (.inl ⟨rfl,rfl,rfl,rfl,rfl⟩)))
  refine go ?_
  refine ln_ ((4,k1+(uv e.docs).length+(uv e.tot).length+(uv e.at_).length+(uv e.size).length,e.docs,e.tot,e.at_,e.size)) (k:=?_)
  try dsimp only
  exact .inr (.inr (.inr (.inr ⟨rfl,rfl,rfl,rfl,rfl,rfl⟩)))
 rcases hj with⟨rfl,rfl⟩|⟨rfl,rfl,rfl⟩|⟨rfl,rfl,rfl,rfl⟩|⟨rfl,rfl,rfl,rfl,rfl⟩|⟨rfl,rfl,rfl,rfl,rfl,rfl⟩
 ·exfalso;omega
 ·exfalso;omega
 ·exfalso;omega
 ·exfalso;omega
 rw[show k1+(uv e.docs).length+(uv e.tot).length+(uv e.at_).length+(uv e.size).length=k+(m9 (cF last) e).length from a8]
 refine gk (k:=rt_ Tryz.results190 (k:=?_))
 exact⟨_,hsb,rfl,rfl⟩
end Go.Sx
