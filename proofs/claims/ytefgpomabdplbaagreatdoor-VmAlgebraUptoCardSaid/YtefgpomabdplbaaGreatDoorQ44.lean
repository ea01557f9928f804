import Derived.Test.YtefgpomabdplbaaGreatDoorQ36
set_option linter.unusedVariables false
set_option linter.unusedSimpArgs false
set_option linter.unusedSectionVars false
set_option linter.unnecessarySimpa false
set_option maxHeartbeats 0
namespace Go.Sx
open Go Go.Proofs
set_option maxRecDepth 100000
structure zF (H:cG) (a:PtA) (fs:List FV) (ds:List Doc):Prop where
 g:cQ H a.g [a.fv.val,a.dv.val,a.lv.val, .pointer (some ⟨a.w,0,none⟩),a.bl.val,a.im.val]
 w:cQ H a.w [a.ev.val]
 fv:Sl H a.fv eF fs
 dv:Sl H a.dv eD a.l
 docs:ga H a.l ds
 lv:Sl H a.lv eSV a.lvs
 lens:a.lvs.length=fs.length∧∀i s,a.lvs[i]? =some s→Sl H s eI (cV (dP fs ds i))
 ev:Sl H a.ev eEn (gb 0 (dm (eE fs ds)))
 bl:Sl H a.bl eB (dB (dm (eE fs ds)))
theorem zF.less {H H':cG}{a:PtA}{fs:List FV}{ds:List Doc}(hs:cJ H' H) (h:zF H a fs ds):zF H' a fs ds:=⟨jo hs h.g,jo hs h.w,dD hs h.fv,dD hs h.dv,h.docs.less hs,dD hs h.lv,⟨h.lens.1,fun i s hi=> dD hs (h.lens.2 i s hi)⟩,dD hs h.ev,dD hs h.bl⟩
theorem lG {F H:cG}:cJ (fB F::H) F:=fun L hL=> by
 obtain⟨L1,L2,rfl,h1,_⟩:=pM hL
 exact⟨L1,L2,h1,List.Perm.refl _⟩
theorem JF {H R:cG}{zs:List (SV×List Nat)}{fs:List FV}{ds:List Doc}(hr:nd H (Cl lnH zs) R) (h:zs.map (·.2)=(List.range fs.length).map (dP fs ds)):(zs.map (·.1)).length=fs.length∧∀i s,(zs.map (·.1))[i]? =some s→Sl H s eI (cV (dP fs ds i)):=by
 have hl:zs.length=fs.length:=by have:=congrArg List.length h;simpa using this
 refine⟨by rw[Yh,hl],fun i s hi=> ?_⟩
 rw[Xd]at hi
 cases hz:zs[i]? with
 |none=> rw[hz]at hi;cases hi
 |some z=>
  rw[hz]at hi
  cases hi
  have h1:=congrArg (fun l=> l[i]?) h
  have hil:=(Yk.1 hz).1
  simp only[Xd,hz,List.getElem?_range (show i<fs.length from aa),Option.map_some]at h1
  have:=Lc hr hz
  rw[Option.some.inj h1]at this
  exact this
theorem LL {G:cK}{H:cG}{fv s:SV}{fs:List FV}{ds:List Doc} [hg:Glb G H] [Tab H 27 lg] [Tab H 25 jP] [hf:Sl H fv eF fs] [hs:Sl H s eB (y7 fs ds)] [Spc H] (hT:gU G) (hS:lz) (hck:oF fs ds=0) (hz0:dsz ds≤30000000) (ht0:(eE fs ds).length≤2000000) (hn:(y7 fs ds).length≤1000000000):
 SC G Tryz.prog 54 [.agg [fv.val].toArray,s.val] H (fun v H'=> ∃(a:PtA) (F:cG),zF F a fs ds∧v= .tuple #[.pointer (some ⟨a.g,0,none⟩), .nilIface]∧H'=fB F::H):=by
 have hok:=mZ hck hz0 ht0
 have hc:=hok.chk
 obtain⟨hc1,hc2⟩:=il hc
 have hne:fs≠ []:=fun h=> by rw[h]at hc1;simp at hc1
 have hsg:=hok.blocks
 have hb:∀x∈y7 fs ds,x<256:=JM (ag) (fun q hq=> ⟨(hsg.1 q hq).2.1,(hsg.1 q hq).2.2⟩)
 have hr0:jQ 83 (y7 fs ds)=some (lJ fs ds):=Ag (ag) (ag) (by simp[lJ]) (fun q hq=> by
  obtain⟨a,b,c⟩:=hsg.1 q hq
  have:=qk hq
  exact⟨a,b,c,by have:=hsg.2.1;omega⟩)
 have hdo:=zf hok
 have hfew:=hok.few
 have hsB:=iM (fs:=fs) (ds:=ds) (aa) hok.q
 have hiB:(mH ds).length≤10*4096+6:=by
  have h7:=ob (l:=ds.map (·.1)) hok.pos (fun x hx=> by obtain⟨d,hd,rfl⟩:=List.mem_map.1 hx;have:=hok.ids d hd;omega)
  rw[Yh]at h7
  have h8:=ef (n:=ds.length) (k:=6) (aa) (aa)
  rw[mH,Ya];omega
 refine sWk Tryz.func54 Tryz.ntmps54 ?_
 refine gk (k:=bxx (k:=fun b2=>?_))
 refine go ?_
 refine c1_ rfl (wq (fs:=fs) (aa) (fun f hf=> by have:=(hc2 f hf).1;omega)) (k:=?_)
 rintro _ _ ⟨rfl,(⟨hc0,rfl⟩|⟨hc0,rfl⟩)⟩
 ·exact absurd hc0 (by rw[hc];decide)
 refine e_ asn (k:=on_ (qn_ (ws_ (wr_ (e_ mv (k:=?_))))))
 refine e_ (cM rfl) (k:=?_)
 refine gk (k:=eg (k:=go ?_))
 refine c2_ rfl (JX 83 (ag) (aa) hb) (k:=?_)
 rintro _ _ (⟨hr,rfl,e,rfl⟩|⟨bl,lb,F0,s21,hr,hB,rfl,rfl⟩)
 ·rw[hr0]at hr;cases hr
 rw[hr0]at hr
 obtain rfl:=Option.some.inj hr
 have hq:=QC hb hr0
 have hlb:=hB.1
 have hl6:(lJ fs ds).length=6:=rfl
 refine e_ mv (k:=e_ exr (k:=e_ exr (k:=e_ asn (k:=e_ asn (k:=on_ (qn_ (ws_ (ws_ (wr_ (e_ mv (k:=?_)))))))))))
 refine e_ (cM rfl) (k:=?_)
 refine gk (k:=wi_ (k:=fun h1=>?_) (m:=fun h1=>?_))
 ·exact absurd h1 (aa)
 obtain⟨p1,q1,hp1,hq1,hs1⟩:=hB.at6 (i:=1) (by rw[hl6];decide)
 obtain⟨p3,q3,hp3,hq3,hs3⟩:=hB.at6 (i:=3) (by rw[hl6];decide)
 obtain⟨p4,q4,hp4,hq4,hs4⟩:=hB.at6 (i:=4) (by rw[hl6];decide)
 obtain⟨p5,q5,hp5,hq5,hs5⟩:=hB.at6 (i:=5) (by rw[hl6];decide)
 obtain⟨hb1,hl1⟩:=hq _ (Yj hq1)
 obtain⟨hb3,hl3⟩:=hq _ (Yj hq3)
 obtain⟨hb5,hl5⟩:=hq _ (Yj hq5)
 obtain rfl:(2,mH ds)=q1:=Option.some.inj hq1
 obtain rfl:(4,fA (gb 0 (dm (eE fs ds))))=q3:=Option.some.inj hq3
 obtain rfl:(5,dB (dm (eE fs ds)))=q4:=Option.some.inj hq4
 obtain rfl:(6,ep fs ds)=q5:=Option.some.inj hq5
 simp only at hs1 hs3 hs4 hs5 hb1 hb5 hl1 hl3 hl5
 refine go ?_
 refine df cI (fun i=> [9].contains i) (fun k H=> (k=0→cQ H b2 [fv.val])∧(k=2→Sl H s21 eK lb)∧(k=3→Sl H s21 eK lb)∧(k=4→Sl H s21 eK lb)∧(k=6→Sl H s21 eK lb)∧(k=7→Sl H s21 eK lb)∧(k=8→Sl H s21 eK lb)) (?_)
 refine cE 0 rfl rfl (a8) rfl (cD fun H hH=>bH) (?_)
 refine af_ 1 (q:=cD fun H hH=>mv) (k:=?_)
 refine cE 2 rfl rfl (a8) rfl (cD fun H hH=>by have hN:=hH.2.1 rfl;exact ixa (i:=1)) (?_)
 refine cE 3 rfl rfl (a8) rfl (cD fun H hH=>by have hN:=hH.2.2.1 rfl;exact fle) (?_)
 refine cE 4 rfl rfl (a8) rfl (cD fun H hH=>by have hN:=hH.2.2.2.1 rfl;exact lfl) (?_)
 refine af_ 5 (q:=cD fun H hH=>mv) (k:=?_)
 refine cE 6 rfl rfl (a8) rfl (cD fun H hH=>by have hN:=hH.2.2.2.2.1 rfl;exact ixa (i:=5)) (?_)
 refine cE 7 rfl rfl (a8) rfl (cD fun H hH=>by have hN:=hH.2.2.2.2.2.1 rfl;exact fle) (?_)
 refine cE 8 rfl rfl (a8) rfl (cD fun H hH=>by have hN:=hH.2.2.2.2.2.2 rfl;exact lfl) (?_)
 refine cN 9 rfl (a8) rfl (fun k hk=> ⟨fun hi=> ab,fun hi=> ab,fun hi=> ab,fun hi=> ab,fun hi=> ab,fun hi=> ab,fun hi=> ab⟩) (cW (vs:= [_,_,_]) rfl (O5 (ids:=mH ds) (body:=ep fs ds) hc (aa) (aa) hb1 hb5)) ?_
 rintro _ _ (⟨hd,s42,rfl,rfl⟩|⟨zs,s42,hd,rfl,rfl⟩)
 ·rw[hdo]at hd;cases hd
 rw[hdo]at hd
 obtain rfl:=Option.some.inj hd
 have hzm:(zs.map dgV).length=zs.length:=Yh ..
 have hk2:∀d∈zs.map dgD,d.2.length≤64∧∀v∈d.2,v.2.size≤4096:=fun d hd=> by
  obtain⟨g1,g2⟩:=nW (hok.vals d hd)
  exact⟨g1,fun v hv=> (g2 v hv).1⟩
 have hfew2:zs.length≤4096:=by rw[Yh]at hfew;exact hfew
 refine af_ 10 (q:=cD fun H hH=>mv) (k:=af_ 11 (q:=cD fun H hH=>exr) (k:=af_ 12 (q:=cD fun H hH=>exr) (k:=af_ 13 (q:=cD fun H hH=>asn) (k:=af_ 14 (q:=cD fun H hH=>asn) (k:=db (a8) (fun k hk=> ⟨fun hi=> absurd hk (ad),fun hi=> ab,fun hi=> ab,fun hi=> absurd hk (ad),fun hi=> ab,fun hi=> ab,fun hi=> absurd hk (ad)⟩) (go ?_))))))
 refine eg (k:=go ?_)
 refine c2_ rfl (F7 (ds:=zs.map dgD) hT hS (Cs (zs:=zs) inferInstance) (aa) (fun f hf=> by have:=(hc2 f hf).1;omega) (aa) (fun d hd=> ⟨cB,fun v hv=> by have:=(hk2 d hd).2 v hv;omega⟩) hz0 ht0) (k:=?_)
 rintro _ _ (⟨hck0,s51,rfl,rfl⟩|⟨hck0,ke,hke,rfl,rfl⟩)
 ·refine e_ mv (k:=e_ exr (k:=e_ exr (k:=e_ asn (k:=e_ asn (k:=on_ (qn_ (ws_ (ws_ (wr_ (e_ mv (k:=?_)))))))))))
  refine e_ (cM rfl) (k:=?_)
  refine go ?_
  refine sg_ (cW (vs:= [_,_]) rfl (Kw hb hb)) (k:=?_)
  rintro _ _ ⟨rfl,rfl⟩
  refine gk (k:=wi_ (k:=fun h2=>?_) (m:=fun h2=>?_))
  ·exact absurd h2 (an)
  have hrl:=pS (eE fs (zs.map dgD))
  have hdl:(fA (gb 0 (dm (eE fs (zs.map dgD))))).length≤1000000000:=Xi hl3 hn
  refine wk_ (qn_ (ws_ (wr_ (e_ mv (k:=e_ (ixa (i:=3)) (k:=go ?_))))))
  refine c1_ rfl (CU (l:=gb 0 (dm (eE fs (zs.map dgD)))) hsg.2.2.1 (by rw[gS];omega) hdl) (k:=?_)
  rintro _ _ ⟨bd,sed,rfl,rfl⟩
  refine e_ mv (k:=e_ exr (k:=e_ exr (k:=e_ asn (k:=e_ asn (k:=on_ (qn_ (ws_ (ws_ (wr_ (e_ mv (k:=?_)))))))))))
  refine e_ (cM rfl) (k:=?_)
  refine gk (k:=eg (k:=go ?_))
  refine c1_ rfl (Hw (fs:=fs) hne (aa)) (k:=?_)
  rintro _ _ ⟨s76,rfl,rfl⟩
  refine e_ (bld [(0,_)]) (k:=alc (k:=fun b13=>?_))
  refine go ?_
  refine df cI (fun i=> [4,7,15].contains i) (fun k H=> (k=0→cQ H b13 [s76.val])∧(k=2→cQ H b13 [s76.val])∧(k=10→Sl H s21 eK lb)∧(k=11→Sl H s21 eK lb)∧(k=12→Sl H s21 eK lb)) (?_)
  refine cE 0 rfl rfl (a8) rfl (cD fun H hH=>bH) (?_)
  refine af_ 1 (q:=cD fun H hH=>mv) (k:=?_)
  refine cE 2 rfl rfl (a8) rfl (cD fun H hH=>by have hN:=hH.2.1 rfl;exact lds) (?_)
  refine af_ 3 (q:=cD fun H hH=>mv) (k:=af_ 8 (q:=cD fun H hH=>mv) (k:=af_ 9 (q:=cD fun H hH=>mv) (k:=?_)))
  refine cE 10 rfl rfl (a8) rfl (cD fun H hH=>by have hN:=hH.2.2.1 rfl;exact ixa (i:=4)) (?_)
  refine cE 11 rfl rfl (a8) rfl (cD fun H hH=>by have hN:=hH.2.2.2.1 rfl;exact fle) (?_)
  refine cE 12 rfl rfl (a8) rfl (cD fun H hH=>by have hN:=hH.2.2.2.2 rfl;exact lfl) (?_)
  refine af_ 13 (q:=cD fun H hH=>mv) (k:=?_)
  refine cN 4 rfl (a8) rfl (fun k hk=> ⟨fun hi=> ab,fun hi=> ab,fun hi=> ab,fun hi=> ab,fun hi=> ab⟩) (cW (vs:= [_,_]) rfl (BE (ds:=zs.map dgD) hT (Cs (zs:=zs) inferInstance) (aa) (aa) (fun d hd=> ⟨cB,fun v hv=> by have:=(hk2 d hd).2 v hv;omega⟩) hz0)) ?_
  rintro _ _ ⟨gg,lv,rr,zz,rfl,hzz,rfl⟩
  haveI:=hs4
  refine af_ 5 (q:=cD fun H hH=>nck) (k:=af_ 6 (q:=cD fun H hH=>fla) (k:=?_))
  refine cN 7 rfl (a8) rfl (fun k hk=> ⟨fun hi=> ab,fun hi=> absurd hk (ad),fun hi=> ab,fun hi=> ab,fun hi=> ab⟩) (Ev.st ldv) ?_
  rintro _ _ ⟨rfl,rfl⟩
  refine af_ 14 (q:=cD fun H hH=>bld [(0,_),(1,_),(2,_),(3,_),(4,_),(5,_)]) (k:=?_)
  refine cN 15 rfl (a8) rfl (fun k hk=> ⟨fun hi=> ab,fun hi=> absurd hk (ad),fun hi=> ab,fun hi=> ab,fun hi=> ab⟩) (th rfl) ?_
  rintro _ _ ⟨b93,rfl,rfl⟩
  refine af_ 16 (q:=cD fun H hH=>asn) (k:=af_ 17 (q:=cD fun H hH=>asn) (k:=db (a8) (fun k hk=> ⟨fun hi=> ab,fun hi=> absurd hk (ad),fun hi=> ab,fun hi=> ab,fun hi=> ab⟩) (gk (k:=rt_ Tryz.results54 (k:=?_)))))
  refine⟨_,?_,⟨0,b93,0,bd,s76,s42,lv,sed,p4.2,s51,SV.nil,0,zs.map dgV,zz.map fun z:SV×List Nat=> z.1⟩, [Vr b93 [s76.val,s42.val,lv.val, .pointer (some ⟨bd,0,none⟩),p4.2.val,s51.val],Row s76 eF fs,Row s42 eD (zs.map dgV),Cl dgH zs,Row lv eSV (zz.map fun z:SV×List Nat=> z.1),Cl lnH zz,Vr bd [sed.val],Row sed eEn (gb 0 (dm (eE fs (zs.map dgD)))),fB F0],⟨inferInstance,inferInstance,inferInstance,inferInstance,Cs (zs:=zs) inferInstance,inferInstance,JF (zs:=zz) inferInstance hzz,inferInstance,inferInstance⟩,rfl,rfl⟩
  exact cJ.trans (H':=Vr b93 [s76.val,s42.val,lv.val, .pointer (some ⟨bd,0,none⟩),p4.2.val,s51.val]::Row s76 eF fs::Row s42 eD (zs.map dgV)::Cl dgH zs::Row lv eSV (zz.map fun z:SV×List Nat=> z.1)::Cl lnH zz::Vr bd [sed.val]::Row sed eEn (gb 0 (dm (eE fs (zs.map dgD))))::fB F0::H) (hsb) (cJ.star (F:= [Vr b93 [s76.val,s42.val,lv.val, .pointer (some ⟨bd,0,none⟩),p4.2.val,s51.val],Row s76 eF fs,Row s42 eD (zs.map dgV),Cl dgH zs,Row lv eSV (zz.map fun z:SV×List Nat=> z.1),Cl lnH zz,Vr bd [sed.val],Row sed eEn (gb 0 (dm (eE fs (zs.map dgD)))),fB F0]) cJ.refl)
 exact absurd hck hck0
theorem xL {G:cK}{H:cG}{s:SV}{fs:List FV} [Sl H s eF fs] (hn:fs.length≤1000000000):SC G Tryz.prog 52 [.agg [s.val].toArray] H (fun v H'=> ∃s':SV,v= .agg [s'.val].toArray∧H'=Row s' eF fs::H):=by
 refine sWk Tryz.func52 Tryz.ntmps52 ?_
 refine gk (k:=bxx (k:=fun b1=>?_))
 refine alc (k:=fun b2=>?_)
 refine go ?_
 refine s_ (iN eF rfl) (k:=?_)
 rintro _ _ ⟨s3,rfl,rfl⟩
 refine gk (k:=app (k:=fun s6=>?_))
 refine e_ (bld [(0,_)]) (k:=gk (k:=rt_ Tryz.results52 (k:=?_)))
 exact⟨_,hsb,s6,rfl,rfl⟩
theorem Mc {G:cK}{H:cG}{dv:SV}{l:List (Int×SV)}{ds:List Doc} [hd:Sl H dv eD l] (hdi:ga H l ds) (hn:ds.length≤1000000) (hv:∀d∈ds,d.2.length≤1000000):SC G Tryz.prog 53 [dv.val] H (fun v H'=> ∃(s':SV) (zs:List DG),zs.map dgD=ds∧v=s'.val∧H'=Row s' eD (zs.map dgV)::Cl dgH zs::H):=by
 have hll:=hdi.1
 refine sWk Tryz.func53 Tryz.ntmps53 ?_
 refine go ?_
 refine s_ (iN eD rfl) (k:=?_)
 rintro _ _ ⟨s6,rfl,rfl⟩
 refine e_ asn (k:=on_ (qn_ (ws_ (ws_ (wr_ (?_))))))
 refine du (fe (f:=dgH) cJ.refl) ?_
 refine gk (k:=dt (Nat×SV×(List DG)) (fun y=> y.1≤ds.length∧y.2.2.map dgD=ds.take y.1) (fun y=> [(3,y.2.1.val),(9, .int .i64 ((y.1:Nat):Int))]) [(7,_),(8,_)] (fun y=> [Row y.2.1 eD (y.2.2.map dgV),Cl dgH y.2.2]) _ (fun y=> ds.length - y.1) ((0,s6, [])) (h0:=?_) (k:=?_))
 ·try dsimp only
  exact⟨Yl _,rfl⟩
 rintro⟨i,u,zs⟩ ⟨hi,hzs⟩
 try dsimp only[Yd,Ye]at*
 refine gk (k:=wi_ (k:=fun h1=>?_) (m:=fun h1=>?_))
 ·obtain⟨d,sv,vs,hl,hds,hsv⟩:=hdi.get (i:=i) (aa)
  have hvl:vs.length≤1000000:=hv _ (Yj hds)
  have hzl:(zs.map dgV).length≤1000000:=bP
  refine wk_ (qn_ (ws_ (wb_ (ws_ (wr_ (e_ ixa (k:=e_ (jn (hy:=hl)) (k:=alc (k:=fun b5=>?_)))))))))
  refine go ?_
  refine df cI (fun i=> [3,6,8,9].contains i) (fun k H=> (k=2→cQ H b5 [.int .i64 d,sv.val])∧(k=5→cQ H b5 [.int .i64 d,sv.val])) (af_ 0 (q:=cD fun H hH=>mv) (k:=af_ 1 (q:=cD fun H hH=>fla) (k:=?_)))
  refine cE 2 rfl rfl (a8) rfl (cD fun H hH=>ak) (?_)
  refine af_ 4 (q:=cD fun H hH=>fla) (k:=?_)
  refine cE 5 rfl rfl (a8) rfl (cD fun H hH=>aE) (?_)
  refine cN 3 rfl (a8) rfl (fun k hk=> ⟨fun hi=> ab,fun hi=> ab⟩) (iN eVl rfl) ?_
  rintro _ _ ⟨s16,rfl,rfl⟩
  refine cN 6 rfl (a8) rfl (fun k hk=> ⟨fun hi=> ab,fun hi=> ab⟩) (eY rfl rfl rfl rfl (af) (af)) ?_
  rintro _ _ ⟨s19,rfl,rfl⟩
  refine af_ 7 (q:=cD fun H hH=>bld [(0,_),(1,_)]) (k:=?_)
  refine cN 8 rfl (a8) rfl (fun k hk=> ⟨fun hi=> ab,fun hi=> absurd hk (ad)⟩) (ew eD rfl rfl) ?_
  rintro _ _ ⟨s21,rfl,rfl⟩
  refine cN 9 rfl (a8) rfl (fun k hk=> ⟨fun hi=> ab,fun hi=> absurd hk (ad)⟩) (eY rfl rfl rfl rfl (af) (af)) ?_
  rintro _ _ ⟨s22,rfl,rfl⟩
  refine af_ 10 (q:=cD fun H hH=>asn) (k:=db (a8) (fun k hk=> ⟨fun hi=> ab,fun hi=> absurd hk (ad)⟩) (bn_ (qn_ (wr_ (?_)))))
  refine du (H':=Row s22 eD ((zs++ [(⟨d,s19,vs⟩:DG)]).map dgV)::Cl dgH (zs++ [(⟨d,s19,vs⟩:DG)])::H) (cJ.trans (H':=Row s19 eVl vs::Cl dgH zs::Row s22 eD ((zs++ [(⟨d,s19,vs⟩:DG)]).map dgV)::H) (by rw[List.map_append];exact hsb) ((Cr ⟨d,s19,vs⟩).trans (hsb))) ?_
  refine go ?_
  refine ln_ ((i+1,s22,zs++ [(⟨d,s19,vs⟩:DG)])) (k:=?_)
  try dsimp only
  exact⟨aa,by rw[List.map_append,hzs,cP hds];all_goals rfl⟩
 obtain rfl:i=ds.length:=aa
 rw[List.take_length]at hzs
 refine gk (k:=rt_ Tryz.results53 (k:=?_))
 exact⟨_,hsb,u,zs,hzs,rfl,rfl⟩
def Ba (n:Nat) (dead:List Int) (ws:List Nat):Prop:=ws.length=(n+63) / 64∧okW ws∧(dead= []→ws=List.replicate ((n+63) / 64) 0)
theorem Jq {H:cG}{a:PtA}{p d cnt:Nat}{sw:SV}{fs:List FV}{ds:List Doc}{ws:List Nat}(hs:zF H a fs ds) (hp:cQ H p [.pointer (some ⟨a.g,0,none⟩), .pointer (some ⟨d,0,none⟩)]) (hd:cQ H d [.int .i64 ((ds.length:Nat):Int), .int .i64 ((cnt:Nat):Int),sw.val]) (hw:Sl H sw eW ws):dq H {a with p:=p,d:=d,ws:=sw,cnt:=cnt} ⟨fs,ds,ws⟩:=
 ⟨hp,hs.g,hd,hs.w,hs.fv,hs.dv,hs.docs,hs.lv,hs.lens,hs.ev,hs.bl,hw⟩
theorem dq.star {F H:cG}{a:PtA}{q:PtD}(h:dq F a q):dq (fB F::H) a q:=h.less lG
section
variable {G:cK}{P:Program}{N:Nat}{Q:Go.Sx.Post}{t:Tm}{H:cG}{ops:Array Oper}{l:List Oper}
theorem MG {R:cG}(b:Nat) {p:DsG} [hr:Rem H Ds b p R] (h:∀s:SV,O G P N ops l Q t (Vr b [.int .i64 ((p.n:Nat):Int), .int .i64 ((p.c:Nat):Int),s.val]::Row s eW p.ws::R)):O G P N ops l Q t H:=
 ⟨fun a w ha hw=> let ⟨s,hs⟩:=mo (K:=Ds) rfl hr hw;(h s).go a w ha hs⟩
end
theorem KP {G:cK}{H:cG}{fv dv xv:SV}{fs:List FV}{l:List (Int×SV)}{ds:List Doc}{dead:List Int} [hg:Glb G H] [Tab H 27 lg] [Tab H 25 jP] [hf:Sl H fv eF fs] [hd:Sl H dv eD l] [hx:Sl H xv eI dead] [Spc H] (hT:gU G) (hS:lz) (hdi:ga H l ds) (hck:oF fs ds=0) (hz0:dsz ds≤30000000) (ht0:(eE fs ds).length≤2000000) (hn:(y7 fs ds).length≤1000000000) (hxl:dead.length≤1000000000):
 SC G Tryz.prog 24 [.agg [fv.val].toArray, .agg [dv.val,xv.val].toArray] H (fun v H'=> ∃(pt:PtA) (ws:List Nat) (F:cG),Ba ds.length dead ws∧dq F pt ⟨fs,ds,ws⟩∧v= .pointer (some ⟨pt.p,0,none⟩)∧H'=fB F::H):=by
 have hok:=mZ hck hz0 ht0
 have hc:=hok.chk
 obtain⟨hc1,hc2⟩:=il hc
 have hfew:=hok.few
 have hll:=hdi.1
 have hk2:∀d∈ds,d.2.length≤64∧∀v∈d.2,v.2.size≤4096:=fun d hd=> by
  obtain⟨g1,g2⟩:=nW (hok.vals d hd)
  exact⟨g1,fun v hv=> (g2 v hv).1⟩
 refine sWk Tryz.func24 Tryz.ntmps24 ?_
 refine gk (k:=bxx (k:=fun b2=>?_))
 refine bxx (k:=fun b3=>?_)
 refine go ?_
 refine df cI (fun i=> [1,4,5].contains i) (fun k H=> (k=0→cQ H b2 [fv.val])∧(k=3→cQ H b3 [dv.val,xv.val])) (?_)
 refine cE 0 rfl rfl (a8) rfl (cD fun H hH=>bH) (?_)
 refine af_ 2 (q:=cD fun H hH=>fla) (k:=?_)
 refine cE 3 rfl rfl (a8) rfl (cD fun H hH=>aE) (?_)
 refine cN 1 rfl (a8) rfl (fun k hk=> ⟨fun hi=> ab,fun hi=> ab⟩) (cW (vs:= [_]) rfl (xL (aa))) ?_
 rintro _ _ ⟨s14,rfl,rfl⟩
 refine cN 4 rfl (a8) rfl (fun k hk=> ⟨fun hi=> absurd hk (ad),fun hi=> ab⟩) (cW (vs:= [_]) rfl (Mc (ds:=ds) (hdi.less (hsb)) (aa) (fun d hd=> cB))) ?_
 rintro _ _ ⟨s17,zs,hzs,rfl,rfl⟩
 refine cN 5 rfl (a8) rfl (fun k hk=> ⟨fun hi=> absurd hk (ad),fun hi=> absurd hk (ad)⟩) (cW (vs:= [_,_]) rfl (F7 (ds:=ds) hT hS (by rw[←hzs];exact Cs (zs:=zs) inferInstance) (aa) (fun f hf=> by have:=(hc2 f hf).1;omega) (aa) (fun d hd=> ⟨cB,fun v hv=> by have:=(hk2 d hd).2 v hv;omega⟩) hz0 ht0)) ?_
 rintro _ _ (⟨hck0,s51,rfl,rfl⟩|⟨hck0,ke,hke,rfl,rfl⟩)
 ·refine af_ 6 (q:=cD fun H hH=>mv) (k:=af_ 7 (q:=cD fun H hH=>exr) (k:=af_ 8 (q:=cD fun H hH=>exr) (k:=af_ 9 (q:=cD fun H hH=>asn) (k:=af_ 10 (q:=cD fun H hH=>asn) (k:=db (a8) (fun k hk=> ⟨fun hi=> absurd hk (ad),fun hi=> absurd hk (ad)⟩) (qn_ (ws_ (ws_ (wr_ (e_ mv (k:=?_)))))))))))
  refine e_ (cM rfl) (k:=?_)
  refine gk (k:=eg (k:=go ?_))
  refine c1_ rfl (xL (aa)) (k:=?_)
  rintro _ _ ⟨s25,rfl,rfl⟩
  refine go ?_
  refine c2_ rfl (LL (ds:=ds) hT hS hck hz0 ht0 hn) (k:=?_)
  rintro _ _ ⟨sa,FS,hsg,rfl,rfl⟩
  refine e_ mv (k:=e_ exr (k:=e_ exr (k:=e_ asn (k:=e_ asn (k:=on_ (qn_ (ws_ (ws_ (wr_ (e_ mv (k:=?_)))))))))))
  refine e_ (cM rfl) (k:=?_)
  refine e_ mv (k:=eg_ mv (k:=?_))
  refine eg_ (dU rfl) (k:=?_)
  refine gk (k:=wi_ (k:=fun h1=>?_) (m:=fun h1=>?_))
  ·exact absurd h1 (an)
  refine wk_ (qn_ (ws_ (wr_ (e_ fla (k:=e_ ldv (k:=?_))))))
  refine e_ (evq lnn (congrArg (fun n:Nat=> Value.int .i64 (n:Int)) hll)) (k:=?_)
  refine c1_ rfl (Iy (n:=ds.length) (aa)) (k:=?_)
  rintro _ _ ⟨bs,rfl,rfl⟩
  refine e_ mv (k:=e_ exr (k:=e_ exr (k:=e_ asn (k:=e_ asn (k:=on_ (qn_ (ws_ (ws_ (wr_ (e_ mv (k:=?_)))))))))))
  refine e_ (cM rfl) (k:=?_)
  refine e_ mv (k:=eg_ mv (k:=?_))
  refine eg_ (dU rfl) (k:=?_)
  refine gk (k:=wi_ (k:=fun h2=>?_) (m:=fun h2=>?_))
  ·exact absurd h2 (an)
  refine gk (k:=dt (Nat×Nat×(List Nat)) (fun y=> y.1≤dead.length∧y.2.1≤y.1∧y.2.2.length=(ds.length+63) / 64∧okW y.2.2∧(y.1=0→y.2.2=List.replicate ((ds.length+63) / 64) 0)) (fun y=> [(52, .int .i64 ((y.1:Nat):Int))]) [(3,_),(7,_),(8,_),(50,_),(51,_)] (fun y=> [Ds bs ⟨ds.length,y.2.1,y.2.2⟩]) _ (fun y=> dead.length - y.1) ((0,0,List.replicate ((ds.length+63) / 64) 0)) (h0:=?_) (k:=?_))
  ·try dsimp only
   exact⟨Yl _,Nat.le_refl _,by rw[Xe],fun x hx=> by rw[List.mem_replicate]at hx;omega,fun _=> rfl⟩
  rintro⟨i,c,ws⟩ ⟨hi,hci,hwl,hwo,hw0⟩
  try dsimp only[Yd,Ye]at*
  refine gk (k:=wi_ (k:=fun h3=>?_) (m:=fun h3=>?_))
  ·obtain⟨e,he⟩:∃e,dead[i]? =some e:=⟨_,Yi (aa)⟩
   refine wk_ (qn_ (ws_ (wb_ (ws_ (wr_ (e_ ixa (k:=e_ (lel (hy:=he)) (k:=go ?_))))))))
   refine gk (k:=dh 6 64 (k:=fun h4=>gk (k:=edq)) (q:=gk (k:=wi_ (k:=fun h5=>?_) (m:=fun h5=>?_))))
   ·have hin:=h5
    refine go ?_
    refine c2_ rfl (Q3 (aa) (aa) hwl hwo) (k:=?_)
    rintro _ _ (⟨ho,rfl,rfl⟩|⟨h01,h02,xx,c',ws',rfl,rfl,hc',hwl',hwo',hbits⟩)
    ·exact absurd ho (aa)
    refine go ?_
    refine ln_ ((i+1,c',ws')) (k:=?_)
    try dsimp only
    exact⟨aa,aa,aa,hwo',fun h9=> aa⟩
   refine go ?_
   refine ln_ ((i+1,c,ws)) (k:=?_)
   try dsimp only
   exact⟨aa,aa,hwl,hwo,fun h9=> aa⟩
  obtain rfl:i=dead.length:=aa
  refine go ?_
  refine MG bs (fun sds=> ?_)
  haveI hq1:∀H9,cQ (fB FS::H9) sa.g [sa.fv.val,sa.dv.val,sa.lv.val, .pointer (some ⟨sa.w,0,none⟩),sa.bl.val,sa.im.val]:=fun H9=> jo lG hsg.g
  haveI hq2:∀H9,Sl (fB FS::H9) sa.dv eD sa.l:=fun H9=> dD lG hsg.dv
  refine go ?_
  refine c2_ rfl (EX (dv:= .nilIface) (n:=ds.length) (c:=c) (s:=sds) (ws:=ws) (aa) hsg.docs.1) (k:=?_)
  rintro _ _ ⟨bp,bd2,sd2,rfl,rfl⟩
  refine e_ mv (k:=e_ exr (k:=e_ exr (k:=e_ asn (k:=e_ asn (k:=on_ (qn_ (ws_ (ws_ (wr_ (e_ mv (k:=?_)))))))))))
  refine e_ (cM rfl) (k:=?_)
  refine e_ mv (k:=eg_ mv (k:=?_))
  refine eg_ (dU rfl) (k:=?_)
  refine e_ pkf (k:=e_ mv (k:=dN 6 87 (k:=fun h6=>eg_ mv (k:=eg_ nck (k:=eg_ fla (k:=eg_ ldv (k:=eg_ (dU rfl) (k:=e_ pkf (k:=on_ (edq)))))))) (q:=on_ (qn_ (wi_ (k:=fun h7=>?_) (m:=fun h7=>?_))))))
  ·exact absurd h7 (an)
  refine gk (k:=rt_ Tryz.results24 (k:=?_))
  refine⟨_,?_,{sa with p:=bp,d:=bd2,ws:=sd2,cnt:=c},ws, [fB FS,Vr bp [.pointer (some ⟨sa.g,0,none⟩), .pointer (some ⟨bd2,0,none⟩)],Vr bd2 [.int .i64 ((ds.length:Nat):Int), .int .i64 ((c:Nat):Int),sd2.val],Row sd2 eW ws],⟨hwl,hwo,fun h9=> hw0 (by rw[h9];all_goals rfl)⟩,Jq (hsg.less lG) inferInstance inferInstance inferInstance,rfl,rfl⟩
  exact cJ.trans (H':=fB FS::Vr bp [.pointer (some ⟨sa.g,0,none⟩), .pointer (some ⟨bd2,0,none⟩)]::Vr bd2 [.int .i64 ((ds.length:Nat):Int), .int .i64 ((c:Nat):Int),sd2.val]::Row sd2 eW ws::H) (hsb) (cJ.star (F:= [fB FS,Vr bp [.pointer (some ⟨sa.g,0,none⟩), .pointer (some ⟨bd2,0,none⟩)],Vr bd2 [.int .i64 ((ds.length:Nat):Int), .int .i64 ((c:Nat):Int),sd2.val],Row sd2 eW ws]) cJ.refl)
 exact absurd hck hck0
def kZ (fs:List FV) (ds:List Doc):Bool:=decide (ds.length≤4096) && decide (l7 fs (-1) ds=0)
abbrev ja:=List Doc×List Int
def rX (fs:List FV) (ps:List ja):Bool:=fI fs && ps.all fun p=> kZ fs p.1
theorem Cg {fs:List FV}{ps:List ja}(h:rX fs ps=true) {p:ja}(hp:p∈ps):oF fs p.1=0:=by
 rw[rX,Bool.and_eq_true,List.all_eq_true]at h
 have h2:=h.2 p hp
 rw[kZ,Bool.and_eq_true,decide_eq_true_eq,decide_eq_true_eq]at h2
 rw[oF,h.1,if_neg (ag),if_neg (aa)];exact h2.2
def Qb (H:cG) (p:SV×SV) (d:ja):Prop:=(∃l,Sl H p.1 eD l∧ga H l d.1)∧Sl H p.2 eI d.2
def oS (H:cG) (lp:List (SV×SV)) (ps:List ja):Prop:=lp.length=ps.length∧∀(i:Nat) (p:SV×SV) (d:ja),lp[i]? =some p→ps[i]? =some d→Qb H p d
theorem oS.get {H:cG}{lp:List (SV×SV)}{ps:List ja}(h:oS H lp ps) {i:Nat}(hi:i<lp.length):∃p d l,lp[i]? =some p∧ps[i]? =some d∧Sl H p.1 eD l∧ga H l d.1∧Sl H p.2 eI d.2:=by
 have h1:lp[i]? =some lp[i]:=Yi hi
 have h2:ps[i]? =some (ps[i]'(by have:=h.1;omega)):=Yi _
 obtain⟨⟨l,h3,h4⟩,h5⟩:=h.2 i _ _ h1 h2
 exact⟨_,_,l,h1,h2,h3,h4,h5⟩
theorem oS.less {H H':cG}{lp:List (SV×SV)}{ps:List ja}(hs:cJ H' H) (h:oS H lp ps):oS H' lp ps:=⟨h.1,fun i p d hp hd=> by
 obtain⟨⟨l,h1,h2⟩,h3⟩:=h.2 i p d hp hd
 exact⟨⟨l,dD hs h1,h2.less hs⟩,dD hs h3⟩⟩
structure SmD (fs:List FV) (ds:List Doc):Prop where
 fl:fs.length≤1000000
 fn:∀f∈fs,f.name.size≤1000000000
 n:ds.length≤1000000000
 q:∀d∈ds,d.2.length≤1000000000∧∀v∈d.2,v.2.size≤1000000000
theorem M0 {G:cK}{H:cG}{fv dv:SV}{fs:List FV}{l:List (Int×SV)}{ds:List Doc} [hf:Sl H fv eF fs] [hd:Sl H dv eD l] (hdi:ga H l ds) (hsm:SmD fs ds):SC G Tryz.prog 50 [.agg [fv.val].toArray,dv.val] H (fun v H'=> v= .bool (kZ fs ds)∧H'=H):=by
 have hll:=hdi.1
 have hn:=hsm.n
 refine sWk Tryz.func50 Tryz.ntmps50 ?_
 refine gk (k:=bxx (k:=fun b2=>?_))
 refine gk (k:=wi_ (k:=fun h1=>?_) (m:=fun h1=>?_))
 ·have hbad:kZ fs ds=false:=by rw[kZ,Yr (az),Bool.false_and]
  refine gk (k:=rt_ Tryz.results50 (k:=?_))
  exact⟨_,hsb,by rw[hbad];all_goals rfl,rfl⟩
 have hgd:kZ fs ds=decide (l7 fs (-1) ds=0):=by rw[kZ,Ys (az),Bool.true_and]
 refine go ?_
 refine gk (k:=dt (Nat×Int) (fun y=> y.1≤ds.length∧ -1≤y.2∧(l7 fs (-1) ds=0↔l7 fs y.2 (ds.drop y.1)=0)) (fun y=> [(5, .int .i64 y.2),(14, .int .i64 ((y.1:Nat):Int))]) [(2,_),(12,_),(13,_)] (fun y=> []) _ (fun y=> ds.length - y.1) ((0, -1)) (h0:=?_) (k:=?_))
 ·try dsimp only
  exact⟨Yl _,ag,Iff.rfl⟩
 rintro⟨i,la⟩ ⟨hi,hla,hck⟩
 try dsimp only[Yd,Ye]at*
 refine gk (k:=wi_ (k:=fun h2=>?_) (m:=fun h2=>?_))
 ·obtain⟨d,sv,vs,hl,hds,hsv⟩:=hdi.get (i:=i) (aa)
  have hq:=hsm.q _ (Yj hds)
  rw[dF hds,l7]at hck
  simp only at hck hq
  refine wk_ (qn_ (ws_ (wb_ (ws_ (wr_ (e_ ixa (k:=e_ (jn (hy:=hl)) (k:=alc (k:=fun b7=>?_)))))))))
  refine gk (k:=dN 4 26 (k:=fun h3=>gk (k:=edq)) (q:=go ?_))
  refine wi_ (k:=fun h4=>?_) (m:=fun h4=>?_)
  ·have hbad:kZ fs ds=false:=by
    rw[hgd,Yr]
    intro h8
    have h7:=hck.1 h8
    have h9:=h4
    split at h7
    ·cases h7
    ·split at h7
     ·cases h7
     ·omega
   refine gk (k:=rt_ Tryz.results50 (k:=?_))
   exact⟨_,hsb,by rw[hbad];all_goals rfl,rfl⟩
  have hin:la<d∧d<1099511627776:=by have h9:=h4;omega
  rw[if_neg (aa),if_neg (aa)]at hck
  refine go ?_
  refine d2_ rfl (Ot hsm.fl hsm.fn hq.1 hq.2) (k:=gk (k:=wi_ (k:=fun h5=>?_) (m:=fun h5=>?_)))
  ·have hbad:kZ fs ds=false:=by
    rw[hgd,Yr]
    intro h8
    have h7:=hck.1 h8
    have h9:=h5
    split at h7
    ·rename_i h6;rw[h6]at h9;exact h9 rfl
    ·omega
   refine gk (k:=rt_ Tryz.results50 (k:=?_))
   exact⟨_,hsb,by rw[hbad];all_goals rfl,rfl⟩
  have hz:gy fs vs=0:=by have h9:=h5;omega
  rw[if_pos hz]at hck
  refine go ?_
  refine ln_ ((i+1,d)) (k:=?_)
  try dsimp only
  exact⟨aa,aa,hck⟩
 obtain rfl:i=ds.length:=aa
 rw[List.drop_length,l7]at hck
 have hok:kZ fs ds=true:=by rw[hgd,Ys (hck.2 rfl)]
 refine gk (k:=rt_ Tryz.results50 (k:=?_))
 exact⟨_,hsb,by rw[hok];all_goals rfl,rfl⟩
theorem PZ {G:cK}{H:cG}{fv pv:SV}{fs:List FV}{lp:List (SV×SV)}{ps:List ja} [hf:Sl H fv eF fs] [hd:Sl H pv eP lp] (hpi:oS H lp ps) (hpl:ps.length≤1000000000) (hsm:∀p∈ps,SmD fs p.1) (hfl:fs.length≤1000000) (hfn:∀f∈fs,f.name.size≤1000000000):SC G Tryz.prog 23 [.agg [fv.val,pv.val].toArray] H (fun v H'=> v= .bool (rX fs ps)∧H'=H):=by
 have hll:=hpi.1
 refine sWk Tryz.func23 Tryz.ntmps23 ?_
 refine gk (k:=bxx (k:=fun b1=>?_))
 refine go ?_
 refine c1_ rfl (vk (fs:=fs) (aa) (fun f hf=> by have:=hfn f hf;omega)) (k:=?_)
 rintro _ _ ⟨c,rfl,hc,rfl⟩
 refine gk (k:=wi_ (k:=fun h1=>?_) (m:=fun h1=>?_))
 ·have hbad:rX fs ps=false:=by
   have h9:=h1
   rcases hc with⟨h8,_⟩|⟨_,h8⟩
   ·rw[rX,h8,Bool.false_and]
   ·exact absurd h8 h9
  refine gk (k:=rt_ Tryz.results23 (k:=?_))
  exact⟨_,hsb,by rw[hbad];all_goals rfl,rfl⟩
 have hcs:fI fs=true:=by
  have h9:=h1
  rcases hc with⟨_,h8⟩|⟨h8,_⟩
  ·exact absurd h8 (aa)
  ·exact h8
 have hft:rX fs ps=ps.all fun p=> kZ fs p.1:=by rw[rX,hcs,Bool.true_and]
 refine gk (k:=dt (Nat) (fun y=> y≤ps.length∧rX fs ps=(ps.drop y).all fun p=> kZ fs p.1) (fun y=> [(14, .int .i64 ((y:Nat):Int))]) [(1,_),(12,_),(13,_)] (fun y=> []) _ (fun y=> ps.length - y) (0) (h0:=?_) (k:=?_))
 ·try dsimp only
  exact⟨Yl _,hft⟩
 rintro i ⟨hi,hall⟩
 try dsimp only[Yd,Ye]at*
 refine gk (k:=wi_ (k:=fun h2=>?_) (m:=fun h2=>?_))
 ·obtain⟨p,d,l,hp,hd9,g1,g2,g3⟩:=hpi.get (i:=i) (aa)
  have hs:=hsm _ (Yj hd9)
  rw[dF hd9,List.all_cons]at hall
  refine wk_ (qn_ (ws_ (wb_ (ws_ (wr_ (e_ ixa (k:=e_ (jn (hy:=hp)) (k:=alc (k:=fun b5=>?_)))))))))
  refine go ?_
  refine d2_ rfl (M0 (ds:=d.1) (g2.less (hsb)) hs) (k:=gk (k:=wi_ (k:=fun h3=>?_) (m:=fun h3=>?_)))
  ·have hbad:rX fs ps=false:=by rw[hall,show kZ fs d.1=false from by have h9:=h3;simpa using h9,Bool.false_and]
   refine gk (k:=rt_ Tryz.results23 (k:=?_))
   exact⟨_,hsb,by rw[hbad];all_goals rfl,rfl⟩
  rw[show kZ fs d.1=true from by have h9:=h3;simpa using h9,Bool.true_and]at hall
  refine go ?_
  refine ln_ (i+1) (k:=?_)
  try dsimp only
  exact⟨aa,hall⟩
 obtain rfl:i=ps.length:=aa
 rw[List.drop_length,List.all_nil]at hall
 refine gk (k:=rt_ Tryz.results23 (k:=?_))
 exact⟨_,hsb,by rw[hall];all_goals rfl,rfl⟩
end Go.Sx
