import Derived.Test.YtidnknhabomaiaaGreatDoorQ43
import Derived.Shelf.Sort.Plain
import Derived.Shelf.Strings.Fields
import Derived.Ground.Names2Prog
import Derived.Shelf.Slices.CompactI
import Derived.Shelf.Slices.In.SortNone
import Derived.Test.YtidnknhabomaiaaGreatDoorProg
set_option linter.unusedVariables false
set_option linter.unusedSimpArgs false
set_option linter.unusedSectionVars false
set_option linter.unnecessarySimpa false
set_option maxHeartbeats 0
namespace Go.Sx
open Go Go.Proofs
set_option maxRecDepth 100000
structure zF (H:cG) (a:PtA) (fs:List FV) (ds:List Doc):Prop where
 g:cQ H a.g [a.fv.val,a.dv.val,a.lv.val, .pointer (some ⟨a.w,0,none⟩),a.bl.val,a.im.val]
 w:cQ H a.w [a.ev.val]
 fv:Sl H a.fv eF fs
 dv:Sl H a.dv eD a.l
 docs:ga H a.l ds
 lv:Sl H a.lv eSV a.lvs
 lens:a.lvs.length=fs.length∧∀i s,a.lvs[i]? =some s→Sl H s eI (cV (dP fs ds i))
 ev:Sl H a.ev eEn (gb 0 (dm (eE fs ds)))
 bl:Sl H a.bl eB (dB (dm (eE fs ds)))
theorem zF.less {H H':cG}{a:PtA}{fs:List FV}{ds:List Doc}(hs:cJ H' H) (h:zF H a fs ds):zF H' a fs ds:=⟨jo hs h.g,jo hs h.w,dD hs h.fv,dD hs h.dv,h.docs.less hs,dD hs h.lv,⟨h.lens.1,fun i s hi=> dD hs (h.lens.2 i s hi)⟩,dD hs h.ev,dD hs h.bl⟩
theorem lG {F H:cG}:cJ (fB F::H) F:=fun L hL=> by
 obtain⟨L1,L2,rfl,h1,_⟩:=pM hL
 exact⟨L1,L2,h1,List.Perm.refl _⟩
theorem JF {H R:cG}{zs:List (SV×List Nat)}{fs:List FV}{ds:List Doc}(hr:nd H (Cl lnH zs) R) (h:zs.map (·.2)=(List.range fs.length).map (dP fs ds)):(zs.map (·.1)).length=fs.length∧∀i s,(zs.map (·.1))[i]? =some s→Sl H s eI (cV (dP fs ds i)):=by
 have hl:zs.length=fs.length:=by have:=congrArg List.length h;simpa using this
 refine⟨by rw[Yh,hl],fun i s hi=> ?_⟩
 rw[Xd]at hi
 cases hz:zs[i]? with
 |none=> rw[hz]at hi;cases hi
 |some z=>
  rw[hz]at hi
  cases hi
  have h1:=congrArg (fun l=> l[i]?) h
  have hil:=(Yk.1 hz).1
  simp only[Xd,hz,List.getElem?_range (show i<fs.length from aa),Option.map_some]at h1
  have:=Lc hr hz
  rw[Option.some.inj h1]at this
  exact this
theorem LL {G:cK}{H:cG}{fv s:SV}{fs:List FV}{ds:List Doc} [hg:Glb G H] [Tab H 27 lg] [Tab H 25 jP] [hf:Sl H fv eF fs] [hs:Sl H s eB (y7 fs ds)] [Spc H] (hT:gU G) (hS:lz) (hck:oF fs ds=0) (hz0:dsz ds≤30000000) (ht0:(eE fs ds).length≤2000000) (hn:(y7 fs ds).length≤1000000000):
 SC G Tryz.prog 36 [.agg [fv.val].toArray,s.val] H (fun v H'=> ∃(a:PtA) (F:cG),zF F a fs ds∧v= .tuple #[.pointer (some ⟨a.g,0,none⟩), .nilIface]∧H'=fB F::H):=by
 have hok:=mZ hck hz0 ht0
 have hc:=hok.chk
 obtain⟨hc1,hc2⟩:=il hc
 have hne:fs≠ []:=fun h=> by rw[h]at hc1;simp at hc1
 have hsg:=hok.blocks
 have hb:∀x∈y7 fs ds,x<256:=JM (ag) (fun q hq=> ⟨(hsg.1 q hq).2.1,(hsg.1 q hq).2.2⟩)
 have hr0:jQ 83 (y7 fs ds)=some (lJ fs ds):=Ag (ag) (ag) (by simp[lJ]) (fun q hq=> by
  obtain⟨a,b,c⟩:=hsg.1 q hq
  have:=qk hq
  exact⟨a,b,c,by have:=hsg.2.1;omega⟩)
 have hdo:=zf hok
 have hfew:=hok.few
 have hsB:=iM (fs:=fs) (ds:=ds) (aa) hok.q
 have hiB:(mH ds).length≤10*4096+6:=by
  have h7:=ob (l:=ds.map (·.1)) hok.pos (fun x hx=> by obtain⟨d,hd,rfl⟩:=List.mem_map.1 hx;have:=hok.ids d hd;omega)
  rw[Yh]at h7
  have h8:=ef (n:=ds.length) (k:=6) (aa) (aa)
  rw[mH,Ya];omega
 refine sWk Tryz.func36 Tryz.ntmps36 ?_
 refine gk (k:=bxx (k:=fun b2=>?_))
 refine go ?_
 refine c1_ rfl (wq (fs:=fs) (aa) (fun f hf=> by have:=(hc2 f hf).1;omega)) (k:=?_)
 rintro _ _ ⟨rfl,(⟨hc0,rfl⟩|⟨hc0,rfl⟩)⟩
 ·exact absurd hc0 (by rw[hc];decide)
 refine e_ asn (k:=on_ (qn_ (ws_ (wr_ (e_ mv (k:=?_))))))
 refine e_ (cM rfl) (k:=?_)
 refine gk (k:=eg (k:=go ?_))
 refine c2_ rfl (JX 83 (ag) (aa) hb) (k:=?_)
 rintro _ _ (⟨hr,rfl,e,rfl⟩|⟨bl,lb,F0,s21,hr,hB,rfl,rfl⟩)
 ·rw[hr0]at hr;cases hr
 rw[hr0]at hr
 obtain rfl:=Option.some.inj hr
 have hq:=QC hb hr0
 have hlb:=hB.1
 have hl6:(lJ fs ds).length=6:=rfl
 refine e_ mv (k:=e_ exr (k:=e_ exr (k:=e_ asn (k:=e_ asn (k:=on_ (qn_ (ws_ (ws_ (wr_ (e_ mv (k:=?_)))))))))))
 refine e_ (cM rfl) (k:=?_)
 refine gk (k:=wi_ (k:=fun h1=>?_) (m:=fun h1=>?_))
 ·exact absurd h1 (aa)
 obtain⟨p1,q1,hp1,hq1,hs1⟩:=hB.at6 (i:=1) (by rw[hl6];decide)
 obtain⟨p3,q3,hp3,hq3,hs3⟩:=hB.at6 (i:=3) (by rw[hl6];decide)
 obtain⟨p4,q4,hp4,hq4,hs4⟩:=hB.at6 (i:=4) (by rw[hl6];decide)
 obtain⟨p5,q5,hp5,hq5,hs5⟩:=hB.at6 (i:=5) (by rw[hl6];decide)
 obtain⟨hb1,hl1⟩:=hq _ (Yj hq1)
 obtain⟨hb3,hl3⟩:=hq _ (Yj hq3)
 obtain⟨hb5,hl5⟩:=hq _ (Yj hq5)
 obtain rfl:(2,mH ds)=q1:=Option.some.inj hq1
 obtain rfl:(4,fA (gb 0 (dm (eE fs ds))))=q3:=Option.some.inj hq3
 obtain rfl:(5,dB (dm (eE fs ds)))=q4:=Option.some.inj hq4
 obtain rfl:(6,ep fs ds)=q5:=Option.some.inj hq5
 simp only at hs1 hs3 hs4 hs5 hb1 hb5 hl1 hl3 hl5
 refine go ?_
 refine df cI (fun i=> [9].contains i) (fun k H=> (k=0→cQ H b2 [fv.val])∧(k=2→Sl H s21 eK lb)∧(k=3→Sl H s21 eK lb)∧(k=4→Sl H s21 eK lb)∧(k=6→Sl H s21 eK lb)∧(k=7→Sl H s21 eK lb)∧(k=8→Sl H s21 eK lb)) (?_)
 refine cE 0 rfl rfl (a8) rfl (cD fun H hH=>bH) (?_)
 refine af_ 1 (q:=cD fun H hH=>mv) (k:=?_)
 refine cE 2 rfl rfl (a8) rfl (cD fun H hH=>by have hN:=hH.2.1 rfl;exact ixa (i:=1)) (?_)
 refine cE 3 rfl rfl (a8) rfl (cD fun H hH=>by have hN:=hH.2.2.1 rfl;exact fle) (?_)
 refine cE 4 rfl rfl (a8) rfl (cD fun H hH=>by have hN:=hH.2.2.2.1 rfl;exact lfl) (?_)
 refine af_ 5 (q:=cD fun H hH=>mv) (k:=?_)
 refine cE 6 rfl rfl (a8) rfl (cD fun H hH=>by have hN:=hH.2.2.2.2.1 rfl;exact ixa (i:=5)) (?_)
 refine cE 7 rfl rfl (a8) rfl (cD fun H hH=>by have hN:=hH.2.2.2.2.2.1 rfl;exact fle) (?_)
 refine cE 8 rfl rfl (a8) rfl (cD fun H hH=>by have hN:=hH.2.2.2.2.2.2 rfl;exact lfl) (?_)
 refine cN 9 rfl (a8) rfl (fun k hk=> ⟨fun hi=> ab,fun hi=> ab,fun hi=> ab,fun hi=> ab,fun hi=> ab,fun hi=> ab,fun hi=> ab⟩) (cW (vs:= [_,_,_]) rfl (O5 (ids:=mH ds) (body:=ep fs ds) hc (aa) (aa) hb1 hb5)) ?_
 rintro _ _ (⟨hd,s42,rfl,rfl⟩|⟨zs,s42,hd,rfl,rfl⟩)
 ·rw[hdo]at hd;cases hd
 rw[hdo]at hd
 obtain rfl:=Option.some.inj hd
 have hzm:(zs.map dgV).length=zs.length:=Yh ..
 have hk2:∀d∈zs.map dgD,d.2.length≤64∧∀v∈d.2,v.2.size≤4096:=fun d hd=> by
  obtain⟨g1,g2⟩:=nW (hok.vals d hd)
  exact⟨g1,fun v hv=> (g2 v hv).1⟩
 have hfew2:zs.length≤4096:=by rw[Yh]at hfew;exact hfew
 refine af_ 10 (q:=cD fun H hH=>mv) (k:=af_ 11 (q:=cD fun H hH=>exr) (k:=af_ 12 (q:=cD fun H hH=>exr) (k:=af_ 13 (q:=cD fun H hH=>asn) (k:=af_ 14 (q:=cD fun H hH=>asn) (k:=db (a8) (fun k hk=> ⟨fun hi=> absurd hk (ad),fun hi=> ab,fun hi=> ab,fun hi=> absurd hk (ad),fun hi=> ab,fun hi=> ab,fun hi=> absurd hk (ad)⟩) (go ?_))))))
 refine eg (k:=go ?_)
 refine c2_ rfl (F7 (ds:=zs.map dgD) hT hS (Cs (zs:=zs) inferInstance) (aa) (fun f hf=> by have:=(hc2 f hf).1;omega) (aa) (fun d hd=> ⟨cB,fun v hv=> by have:=(hk2 d hd).2 v hv;omega⟩) hz0 ht0) (k:=?_)
 rintro _ _ (⟨hck0,s51,rfl,rfl⟩|⟨hck0,ke,hke,rfl,rfl⟩)
 ·refine e_ mv (k:=e_ exr (k:=e_ exr (k:=e_ asn (k:=e_ asn (k:=on_ (qn_ (ws_ (ws_ (wr_ (e_ mv (k:=?_)))))))))))
  refine e_ (cM rfl) (k:=?_)
  refine go ?_
  refine sg_ (cW (vs:= [_,_]) rfl (Kw hb hb)) (k:=?_)
  rintro _ _ ⟨rfl,rfl⟩
  refine gk (k:=wi_ (k:=fun h2=>?_) (m:=fun h2=>?_))
  ·exact absurd h2 (an)
  have hrl:=pS (eE fs (zs.map dgD))
  have hdl:(fA (gb 0 (dm (eE fs (zs.map dgD))))).length≤1000000000:=Xi hl3 hn
  refine wk_ (qn_ (ws_ (wr_ (e_ mv (k:=e_ (ixa (i:=3)) (k:=go ?_))))))
  refine c1_ rfl (CU (l:=gb 0 (dm (eE fs (zs.map dgD)))) hsg.2.2.1 (by rw[gS];omega) hdl) (k:=?_)
  rintro _ _ ⟨bd,sed,rfl,rfl⟩
  refine e_ mv (k:=e_ exr (k:=e_ exr (k:=e_ asn (k:=e_ asn (k:=on_ (qn_ (ws_ (ws_ (wr_ (e_ mv (k:=?_)))))))))))
  refine e_ (cM rfl) (k:=?_)
  refine gk (k:=eg (k:=go ?_))
  refine c1_ rfl (Hw (fs:=fs) hne (aa)) (k:=?_)
  rintro _ _ ⟨s76,rfl,rfl⟩
  refine e_ (bld [(0,_)]) (k:=alc (k:=fun b13=>?_))
  refine go ?_
  refine df cI (fun i=> [4,7,15].contains i) (fun k H=> (k=0→cQ H b13 [s76.val])∧(k=2→cQ H b13 [s76.val])∧(k=10→Sl H s21 eK lb)∧(k=11→Sl H s21 eK lb)∧(k=12→Sl H s21 eK lb)) (?_)
  refine cE 0 rfl rfl (a8) rfl (cD fun H hH=>bH) (?_)
  refine af_ 1 (q:=cD fun H hH=>mv) (k:=?_)
  refine cE 2 rfl rfl (a8) rfl (cD fun H hH=>by have hN:=hH.2.1 rfl;exact lds) (?_)
  refine af_ 3 (q:=cD fun H hH=>mv) (k:=af_ 8 (q:=cD fun H hH=>mv) (k:=af_ 9 (q:=cD fun H hH=>mv) (k:=?_)))
  refine cE 10 rfl rfl (a8) rfl (cD fun H hH=>by have hN:=hH.2.2.1 rfl;exact ixa (i:=4)) (?_)
  refine cE 11 rfl rfl (a8) rfl (cD fun H hH=>by have hN:=hH.2.2.2.1 rfl;exact fle) (?_)
  refine cE 12 rfl rfl (a8) rfl (cD fun H hH=>by have hN:=hH.2.2.2.2 rfl;exact lfl) (?_)
  refine af_ 13 (q:=cD fun H hH=>mv) (k:=?_)
  refine cN 4 rfl (a8) rfl (fun k hk=> ⟨fun hi=> ab,fun hi=> ab,fun hi=> ab,fun hi=> ab,fun hi=> ab⟩) (cW (vs:= [_,_]) rfl (BE (ds:=zs.map dgD) hT (Cs (zs:=zs) inferInstance) (aa) (aa) (fun d hd=> ⟨cB,fun v hv=> by have:=(hk2 d hd).2 v hv;omega⟩) hz0)) ?_
  rintro _ _ ⟨gg,lv,rr,zz,rfl,hzz,rfl⟩
  haveI:=hs4
  refine af_ 5 (q:=cD fun H hH=>nck) (k:=af_ 6 (q:=cD fun H hH=>fla) (k:=?_))
  refine cN 7 rfl (a8) rfl (fun k hk=> ⟨fun hi=> ab,fun hi=> absurd hk (ad),fun hi=> ab,fun hi=> ab,fun hi=> ab⟩) (Ev.st ldv) ?_
  rintro _ _ ⟨rfl,rfl⟩
  refine af_ 14 (q:=cD fun H hH=>bld [(0,_),(1,_),(2,_),(3,_),(4,_),(5,_)]) (k:=?_)
  refine cN 15 rfl (a8) rfl (fun k hk=> ⟨fun hi=> ab,fun hi=> absurd hk (ad),fun hi=> ab,fun hi=> ab,fun hi=> ab⟩) (th rfl) ?_
  rintro _ _ ⟨b93,rfl,rfl⟩
  refine af_ 16 (q:=cD fun H hH=>asn) (k:=af_ 17 (q:=cD fun H hH=>asn) (k:=db (a8) (fun k hk=> ⟨fun hi=> ab,fun hi=> absurd hk (ad),fun hi=> ab,fun hi=> ab,fun hi=> ab⟩) (gk (k:=rt_ Tryz.results36 (k:=?_)))))
  refine⟨_,?_,⟨0,b93,0,bd,s76,s42,lv,sed,p4.2,s51,SV.nil,0,zs.map dgV,zz.map fun z:SV×List Nat=> z.1⟩, [Vr b93 [s76.val,s42.val,lv.val, .pointer (some ⟨bd,0,none⟩),p4.2.val,s51.val],Row s76 eF fs,Row s42 eD (zs.map dgV),Cl dgH zs,Row lv eSV (zz.map fun z:SV×List Nat=> z.1),Cl lnH zz,Vr bd [sed.val],Row sed eEn (gb 0 (dm (eE fs (zs.map dgD)))),fB F0],⟨inferInstance,inferInstance,inferInstance,inferInstance,Cs (zs:=zs) inferInstance,inferInstance,JF (zs:=zz) inferInstance hzz,inferInstance,inferInstance⟩,rfl,rfl⟩
  exact cJ.trans (H':=Vr b93 [s76.val,s42.val,lv.val, .pointer (some ⟨bd,0,none⟩),p4.2.val,s51.val]::Row s76 eF fs::Row s42 eD (zs.map dgV)::Cl dgH zs::Row lv eSV (zz.map fun z:SV×List Nat=> z.1)::Cl lnH zz::Vr bd [sed.val]::Row sed eEn (gb 0 (dm (eE fs (zs.map dgD))))::fB F0::H) (hsb) (cJ.star (F:= [Vr b93 [s76.val,s42.val,lv.val, .pointer (some ⟨bd,0,none⟩),p4.2.val,s51.val],Row s76 eF fs,Row s42 eD (zs.map dgV),Cl dgH zs,Row lv eSV (zz.map fun z:SV×List Nat=> z.1),Cl lnH zz,Vr bd [sed.val],Row sed eEn (gb 0 (dm (eE fs (zs.map dgD)))),fB F0]) cJ.refl)
 exact absurd hck hck0
theorem xL {G:cK}{H:cG}{s:SV}{fs:List FV} [Sl H s eF fs] (hn:fs.length≤1000000000):SC G Tryz.prog 34 [.agg [s.val].toArray] H (fun v H'=> ∃s':SV,v= .agg [s'.val].toArray∧H'=Row s' eF fs::H):=by
 refine sWk Tryz.func34 Tryz.ntmps34 ?_
 refine gk (k:=bxx (k:=fun b1=>?_))
 refine alc (k:=fun b2=>?_)
 refine go ?_
 refine s_ (iN eF rfl) (k:=?_)
 rintro _ _ ⟨s3,rfl,rfl⟩
 refine gk (k:=app (k:=fun s6=>?_))
 refine e_ (bld [(0,_)]) (k:=gk (k:=rt_ Tryz.results34 (k:=?_)))
 exact⟨_,hsb,s6,rfl,rfl⟩
theorem Mc {G:cK}{H:cG}{dv:SV}{l:List (Int×SV)}{ds:List Doc} [hd:Sl H dv eD l] (hdi:ga H l ds) (hn:ds.length≤1000000) (hv:∀d∈ds,d.2.length≤1000000):SC G Tryz.prog 35 [dv.val] H (fun v H'=> ∃(s':SV) (zs:List DG),zs.map dgD=ds∧v=s'.val∧H'=Row s' eD (zs.map dgV)::Cl dgH zs::H):=by
 have hll:=hdi.1
 refine sWk Tryz.func35 Tryz.ntmps35 ?_
 refine go ?_
 refine s_ (iN eD rfl) (k:=?_)
 rintro _ _ ⟨s6,rfl,rfl⟩
 refine e_ asn (k:=on_ (qn_ (ws_ (ws_ (wr_ (?_))))))
 refine du (fe (f:=dgH) cJ.refl) ?_
 refine gk (k:=dt (Nat×SV×(List DG)) (fun y=> y.1≤ds.length∧y.2.2.map dgD=ds.take y.1) (fun y=> [(3,y.2.1.val),(9, .int .i64 ((y.1:Nat):Int))]) [(7,_),(8,_)] (fun y=> [Row y.2.1 eD (y.2.2.map dgV),Cl dgH y.2.2]) _ (fun y=> ds.length - y.1) ((0,s6, [])) (h0:=?_) (k:=?_))
 ·try dsimp only
  exact⟨Yl _,rfl⟩
 rintro⟨i,u,zs⟩ ⟨hi,hzs⟩
 try dsimp only[Yd,Ye]at*
 refine gk (k:=wi_ (k:=fun h1=>?_) (m:=fun h1=>?_))
 ·obtain⟨d,sv,vs,hl,hds,hsv⟩:=hdi.get (i:=i) (aa)
  have hvl:vs.length≤1000000:=hv _ (Yj hds)
  have hzl:(zs.map dgV).length≤1000000:=bP
  refine wk_ (qn_ (ws_ (wb_ (ws_ (wr_ (e_ ixa (k:=e_ (jn (hy:=hl)) (k:=alc (k:=fun b5=>?_)))))))))
  refine go ?_
  refine df cI (fun i=> [3,6,8,9].contains i) (fun k H=> (k=2→cQ H b5 [.int .i64 d,sv.val])∧(k=5→cQ H b5 [.int .i64 d,sv.val])) (af_ 0 (q:=cD fun H hH=>mv) (k:=af_ 1 (q:=cD fun H hH=>fla) (k:=?_)))
  refine cE 2 rfl rfl (a8) rfl (cD fun H hH=>ak) (?_)
  refine af_ 4 (q:=cD fun H hH=>fla) (k:=?_)
  refine cE 5 rfl rfl (a8) rfl (cD fun H hH=>aE) (?_)
  refine cN 3 rfl (a8) rfl (fun k hk=> ⟨fun hi=> ab,fun hi=> ab⟩) (iN eVl rfl) ?_
  rintro _ _ ⟨s16,rfl,rfl⟩
  refine cN 6 rfl (a8) rfl (fun k hk=> ⟨fun hi=> ab,fun hi=> ab⟩) (eY rfl rfl rfl rfl (af) (af)) ?_
  rintro _ _ ⟨s19,rfl,rfl⟩
  refine af_ 7 (q:=cD fun H hH=>bld [(0,_),(1,_)]) (k:=?_)
  refine cN 8 rfl (a8) rfl (fun k hk=> ⟨fun hi=> ab,fun hi=> absurd hk (ad)⟩) (ew eD rfl rfl) ?_
  rintro _ _ ⟨s21,rfl,rfl⟩
  refine cN 9 rfl (a8) rfl (fun k hk=> ⟨fun hi=> ab,fun hi=> absurd hk (ad)⟩) (eY rfl rfl rfl rfl (af) (af)) ?_
  rintro _ _ ⟨s22,rfl,rfl⟩
  refine af_ 10 (q:=cD fun H hH=>asn) (k:=db (a8) (fun k hk=> ⟨fun hi=> ab,fun hi=> absurd hk (ad)⟩) (bn_ (qn_ (wr_ (?_)))))
  refine du (H':=Row s22 eD ((zs++ [(⟨d,s19,vs⟩:DG)]).map dgV)::Cl dgH (zs++ [(⟨d,s19,vs⟩:DG)])::H) (cJ.trans (H':=Row s19 eVl vs::Cl dgH zs::Row s22 eD ((zs++ [(⟨d,s19,vs⟩:DG)]).map dgV)::H) (by rw[List.map_append];exact hsb) ((Cr ⟨d,s19,vs⟩).trans (hsb))) ?_
  refine go ?_
  refine ln_ ((i+1,s22,zs++ [(⟨d,s19,vs⟩:DG)])) (k:=?_)
  try dsimp only
  exact⟨aa,by rw[List.map_append,hzs,cP hds];all_goals rfl⟩
 obtain rfl:i=ds.length:=aa
 rw[List.take_length]at hzs
 refine gk (k:=rt_ Tryz.results35 (k:=?_))
 exact⟨_,hsb,u,zs,hzs,rfl,rfl⟩
def Ba (n:Nat) (dead:List Int) (ws:List Nat):Prop:=ws.length=(n+63) / 64∧okW ws∧(dead= []→ws=List.replicate ((n+63) / 64) 0)
theorem Jq {H:cG}{a:PtA}{p d cnt:Nat}{sw:SV}{fs:List FV}{ds:List Doc}{ws:List Nat}(hs:zF H a fs ds) (hp:cQ H p [.pointer (some ⟨a.g,0,none⟩), .pointer (some ⟨d,0,none⟩)]) (hd:cQ H d [.int .i64 ((ds.length:Nat):Int), .int .i64 ((cnt:Nat):Int),sw.val]) (hw:Sl H sw eW ws):dq H {a with p:=p,d:=d,ws:=sw,cnt:=cnt} ⟨fs,ds,ws⟩:=
 ⟨hp,hs.g,hd,hs.w,hs.fv,hs.dv,hs.docs,hs.lv,hs.lens,hs.ev,hs.bl,hw⟩
theorem dq.star {F H:cG}{a:PtA}{q:PtD}(h:dq F a q):dq (fB F::H) a q:=h.less lG
section
variable {G:cK}{P:Program}{N:Nat}{Q:Go.Sx.Post}{t:Tm}{H:cG}{ops:Array Oper}{l:List Oper}
theorem MG {R:cG}(b:Nat) {p:DsG} [hr:Rem H Ds b p R] (h:∀s:SV,O G P N ops l Q t (Vr b [.int .i64 ((p.n:Nat):Int), .int .i64 ((p.c:Nat):Int),s.val]::Row s eW p.ws::R)):O G P N ops l Q t H:=
 ⟨fun a w ha hw=> let ⟨s,hs⟩:=mo (K:=Ds) rfl hr hw;(h s).go a w ha hs⟩
end
theorem KP {G:cK}{H:cG}{fv dv xv:SV}{fs:List FV}{l:List (Int×SV)}{ds:List Doc}{dead:List Int} [hg:Glb G H] [Tab H 27 lg] [Tab H 25 jP] [hf:Sl H fv eF fs] [hd:Sl H dv eD l] [hx:Sl H xv eI dead] [Spc H] (hT:gU G) (hS:lz) (hdi:ga H l ds) (hck:oF fs ds=0) (hz0:dsz ds≤30000000) (ht0:(eE fs ds).length≤2000000) (hn:(y7 fs ds).length≤1000000000) (hxl:dead.length≤1000000000):
 SC G Tryz.prog 18 [.agg [fv.val].toArray, .agg [dv.val,xv.val].toArray] H (fun v H'=> ∃(pt:PtA) (ws:List Nat) (F:cG),Ba ds.length dead ws∧dq F pt ⟨fs,ds,ws⟩∧v= .pointer (some ⟨pt.p,0,none⟩)∧H'=fB F::H):=by
 have hok:=mZ hck hz0 ht0
 have hc:=hok.chk
 obtain⟨hc1,hc2⟩:=il hc
 have hfew:=hok.few
 have hll:=hdi.1
 have hk2:∀d∈ds,d.2.length≤64∧∀v∈d.2,v.2.size≤4096:=fun d hd=> by
  obtain⟨g1,g2⟩:=nW (hok.vals d hd)
  exact⟨g1,fun v hv=> (g2 v hv).1⟩
 refine sWk Tryz.func18 Tryz.ntmps18 ?_
 refine gk (k:=bxx (k:=fun b2=>?_))
 refine bxx (k:=fun b3=>?_)
 refine go ?_
 refine df cI (fun i=> [1,4,5].contains i) (fun k H=> (k=0→cQ H b2 [fv.val])∧(k=3→cQ H b3 [dv.val,xv.val])) (?_)
 refine cE 0 rfl rfl (a8) rfl (cD fun H hH=>bH) (?_)
 refine af_ 2 (q:=cD fun H hH=>fla) (k:=?_)
 refine cE 3 rfl rfl (a8) rfl (cD fun H hH=>aE) (?_)
 refine cN 1 rfl (a8) rfl (fun k hk=> ⟨fun hi=> ab,fun hi=> ab⟩) (cW (vs:= [_]) rfl (xL (aa))) ?_
 rintro _ _ ⟨s14,rfl,rfl⟩
 refine cN 4 rfl (a8) rfl (fun k hk=> ⟨fun hi=> absurd hk (ad),fun hi=> ab⟩) (cW (vs:= [_]) rfl (Mc (ds:=ds) (hdi.less (hsb)) (aa) (fun d hd=> cB))) ?_
 rintro _ _ ⟨s17,zs,hzs,rfl,rfl⟩
 refine cN 5 rfl (a8) rfl (fun k hk=> ⟨fun hi=> absurd hk (ad),fun hi=> absurd hk (ad)⟩) (cW (vs:= [_,_]) rfl (F7 (ds:=ds) hT hS (by rw[←hzs];exact Cs (zs:=zs) inferInstance) (aa) (fun f hf=> by have:=(hc2 f hf).1;omega) (aa) (fun d hd=> ⟨cB,fun v hv=> by have:=(hk2 d hd).2 v hv;omega⟩) hz0 ht0)) ?_
 rintro _ _ (⟨hck0,s51,rfl,rfl⟩|⟨hck0,ke,hke,rfl,rfl⟩)
 ·refine af_ 6 (q:=cD fun H hH=>mv) (k:=af_ 7 (q:=cD fun H hH=>exr) (k:=af_ 8 (q:=cD fun H hH=>exr) (k:=af_ 9 (q:=cD fun H hH=>asn) (k:=af_ 10 (q:=cD fun H hH=>asn) (k:=db (a8) (fun k hk=> ⟨fun hi=> absurd hk (ad),fun hi=> absurd hk (ad)⟩) (qn_ (ws_ (ws_ (wr_ (e_ mv (k:=?_)))))))))))
  refine e_ (cM rfl) (k:=?_)
  refine gk (k:=eg (k:=go ?_))
  refine c1_ rfl (xL (aa)) (k:=?_)
  rintro _ _ ⟨s25,rfl,rfl⟩
  refine go ?_
  refine c2_ rfl (LL (ds:=ds) hT hS hck hz0 ht0 hn) (k:=?_)
  rintro _ _ ⟨sa,FS,hsg,rfl,rfl⟩
  refine e_ mv (k:=e_ exr (k:=e_ exr (k:=e_ asn (k:=e_ asn (k:=on_ (qn_ (ws_ (ws_ (wr_ (e_ mv (k:=?_)))))))))))
  refine e_ (cM rfl) (k:=?_)
  refine e_ mv (k:=eg_ mv (k:=?_))
  refine eg_ (dU rfl) (k:=?_)
  refine gk (k:=wi_ (k:=fun h1=>?_) (m:=fun h1=>?_))
  ·exact absurd h1 (an)
  refine wk_ (qn_ (ws_ (wr_ (e_ fla (k:=e_ ldv (k:=?_))))))
  refine e_ (evq lnn (congrArg (fun n:Nat=> Value.int .i64 (n:Int)) hll)) (k:=?_)
  refine c1_ rfl (Iy (n:=ds.length) (aa)) (k:=?_)
  rintro _ _ ⟨bs,rfl,rfl⟩
  refine e_ mv (k:=e_ exr (k:=e_ exr (k:=e_ asn (k:=e_ asn (k:=on_ (qn_ (ws_ (ws_ (wr_ (e_ mv (k:=?_)))))))))))
  refine e_ (cM rfl) (k:=?_)
  refine e_ mv (k:=eg_ mv (k:=?_))
  refine eg_ (dU rfl) (k:=?_)
  refine gk (k:=wi_ (k:=fun h2=>?_) (m:=fun h2=>?_))
  ·exact absurd h2 (an)
  refine gk (k:=dt (Nat×Nat×(List Nat)) (fun y=> y.1≤dead.length∧y.2.1≤y.1∧y.2.2.length=(ds.length+63) / 64∧okW y.2.2∧(y.1=0→y.2.2=List.replicate ((ds.length+63) / 64) 0)) (fun y=> [(52, .int .i64 ((y.1:Nat):Int))]) [(3,_),(7,_),(8,_),(50,_),(51,_)] (fun y=> [Ds bs ⟨ds.length,y.2.1,y.2.2⟩]) _ (fun y=> dead.length - y.1) ((0,0,List.replicate ((ds.length+63) / 64) 0)) (h0:=?_) (k:=?_))
  ·try dsimp only
   exact⟨Yl _,Nat.le_refl _,by rw[Xe],fun x hx=> by rw[List.mem_replicate]at hx;omega,fun _=> rfl⟩
  rintro⟨i,c,ws⟩ ⟨hi,hci,hwl,hwo,hw0⟩
  try dsimp only[Yd,Ye]at*
  refine gk (k:=wi_ (k:=fun h3=>?_) (m:=fun h3=>?_))
  ·obtain⟨e,he⟩:∃e,dead[i]? =some e:=⟨_,Yi (aa)⟩
   refine wk_ (qn_ (ws_ (wb_ (ws_ (wr_ (e_ ixa (k:=e_ (lel (hy:=he)) (k:=go ?_))))))))
   refine gk (k:=dh 6 64 (k:=fun h4=>gk (k:=edq)) (q:=gk (k:=wi_ (k:=fun h5=>?_) (m:=fun h5=>?_))))
   ·have hin:=h5
    refine go ?_
    refine c2_ rfl (Q3 (aa) (aa) hwl hwo) (k:=?_)
    rintro _ _ (⟨ho,rfl,rfl⟩|⟨h01,h02,xx,c',ws',rfl,rfl,hc',hwl',hwo',hbits⟩)
    ·exact absurd ho (aa)
    refine go ?_
    refine ln_ ((i+1,c',ws')) (k:=?_)
    try dsimp only
    exact⟨aa,aa,aa,hwo',fun h9=> aa⟩
   refine go ?_
   refine ln_ ((i+1,c,ws)) (k:=?_)
   try dsimp only
   exact⟨aa,aa,hwl,hwo,fun h9=> aa⟩
  obtain rfl:i=dead.length:=aa
  refine go ?_
  refine MG bs (fun sds=> ?_)
  haveI hq1:∀H9,cQ (fB FS::H9) sa.g [sa.fv.val,sa.dv.val,sa.lv.val, .pointer (some ⟨sa.w,0,none⟩),sa.bl.val,sa.im.val]:=fun H9=> jo lG hsg.g
  haveI hq2:∀H9,Sl (fB FS::H9) sa.dv eD sa.l:=fun H9=> dD lG hsg.dv
  refine go ?_
  refine c2_ rfl (EX (dv:= .nilIface) (n:=ds.length) (c:=c) (s:=sds) (ws:=ws) (aa) hsg.docs.1) (k:=?_)
  rintro _ _ ⟨bp,bd2,sd2,rfl,rfl⟩
  refine e_ mv (k:=e_ exr (k:=e_ exr (k:=e_ asn (k:=e_ asn (k:=on_ (qn_ (ws_ (ws_ (wr_ (e_ mv (k:=?_)))))))))))
  refine e_ (cM rfl) (k:=?_)
  refine e_ mv (k:=eg_ mv (k:=?_))
  refine eg_ (dU rfl) (k:=?_)
  refine e_ pkf (k:=e_ mv (k:=dN 6 87 (k:=fun h6=>eg_ mv (k:=eg_ nck (k:=eg_ fla (k:=eg_ ldv (k:=eg_ (dU rfl) (k:=e_ pkf (k:=on_ (edq)))))))) (q:=on_ (qn_ (wi_ (k:=fun h7=>?_) (m:=fun h7=>?_))))))
  ·exact absurd h7 (an)
  refine gk (k:=rt_ Tryz.results18 (k:=?_))
  refine⟨_,?_,{sa with p:=bp,d:=bd2,ws:=sd2,cnt:=c},ws, [fB FS,Vr bp [.pointer (some ⟨sa.g,0,none⟩), .pointer (some ⟨bd2,0,none⟩)],Vr bd2 [.int .i64 ((ds.length:Nat):Int), .int .i64 ((c:Nat):Int),sd2.val],Row sd2 eW ws],⟨hwl,hwo,fun h9=> hw0 (by rw[h9];all_goals rfl)⟩,Jq (hsg.less lG) inferInstance inferInstance inferInstance,rfl,rfl⟩
  exact cJ.trans (H':=fB FS::Vr bp [.pointer (some ⟨sa.g,0,none⟩), .pointer (some ⟨bd2,0,none⟩)]::Vr bd2 [.int .i64 ((ds.length:Nat):Int), .int .i64 ((c:Nat):Int),sd2.val]::Row sd2 eW ws::H) (hsb) (cJ.star (F:= [fB FS,Vr bp [.pointer (some ⟨sa.g,0,none⟩), .pointer (some ⟨bd2,0,none⟩)],Vr bd2 [.int .i64 ((ds.length:Nat):Int), .int .i64 ((c:Nat):Int),sd2.val],Row sd2 eW ws]) cJ.refl)
 exact absurd hck hck0
def kZ (fs:List FV) (ds:List Doc):Bool:=decide (ds.length≤4096) && decide (l7 fs (-1) ds=0)
abbrev ja:=List Doc×List Int
def rX (fs:List FV) (ps:List ja):Bool:=fI fs && ps.all fun p=> kZ fs p.1
theorem Cg {fs:List FV}{ps:List ja}(h:rX fs ps=true) {p:ja}(hp:p∈ps):oF fs p.1=0:=by
 rw[rX,Bool.and_eq_true,List.all_eq_true]at h
 have h2:=h.2 p hp
 rw[kZ,Bool.and_eq_true,decide_eq_true_eq,decide_eq_true_eq]at h2
 rw[oF,h.1,if_neg (ag),if_neg (aa)];exact h2.2
def Qb (H:cG) (p:SV×SV) (d:ja):Prop:=(∃l,Sl H p.1 eD l∧ga H l d.1)∧Sl H p.2 eI d.2
def oS (H:cG) (lp:List (SV×SV)) (ps:List ja):Prop:=lp.length=ps.length∧∀(i:Nat) (p:SV×SV) (d:ja),lp[i]? =some p→ps[i]? =some d→Qb H p d
theorem oS.get {H:cG}{lp:List (SV×SV)}{ps:List ja}(h:oS H lp ps) {i:Nat}(hi:i<lp.length):∃p d l,lp[i]? =some p∧ps[i]? =some d∧Sl H p.1 eD l∧ga H l d.1∧Sl H p.2 eI d.2:=by
 have h1:lp[i]? =some lp[i]:=Yi hi
 have h2:ps[i]? =some (ps[i]'(by have:=h.1;omega)):=Yi _
 obtain⟨⟨l,h3,h4⟩,h5⟩:=h.2 i _ _ h1 h2
 exact⟨_,_,l,h1,h2,h3,h4,h5⟩
theorem oS.less {H H':cG}{lp:List (SV×SV)}{ps:List ja}(hs:cJ H' H) (h:oS H lp ps):oS H' lp ps:=⟨h.1,fun i p d hp hd=> by
 obtain⟨⟨l,h1,h2⟩,h3⟩:=h.2 i p d hp hd
 exact⟨⟨l,dD hs h1,h2.less hs⟩,dD hs h3⟩⟩
structure SmD (fs:List FV) (ds:List Doc):Prop where
 fl:fs.length≤1000000
 fn:∀f∈fs,f.name.size≤1000000000
 n:ds.length≤1000000000
 q:∀d∈ds,d.2.length≤1000000000∧∀v∈d.2,v.2.size≤1000000000
theorem M0 {G:cK}{H:cG}{fv dv:SV}{fs:List FV}{l:List (Int×SV)}{ds:List Doc} [hf:Sl H fv eF fs] [hd:Sl H dv eD l] (hdi:ga H l ds) (hsm:SmD fs ds):SC G Tryz.prog 32 [.agg [fv.val].toArray,dv.val] H (fun v H'=> v= .bool (kZ fs ds)∧H'=H):=by
 have hll:=hdi.1
 have hn:=hsm.n
 refine sWk Tryz.func32 Tryz.ntmps32 ?_
 refine gk (k:=bxx (k:=fun b2=>?_))
 refine gk (k:=wi_ (k:=fun h1=>?_) (m:=fun h1=>?_))
 ·have hbad:kZ fs ds=false:=by rw[kZ,Yr (az),Bool.false_and]
  refine gk (k:=rt_ Tryz.results32 (k:=?_))
  exact⟨_,hsb,by rw[hbad];all_goals rfl,rfl⟩
 have hgd:kZ fs ds=decide (l7 fs (-1) ds=0):=by rw[kZ,Ys (az),Bool.true_and]
 refine go ?_
 refine gk (k:=dt (Nat×Int) (fun y=> y.1≤ds.length∧ -1≤y.2∧(l7 fs (-1) ds=0↔l7 fs y.2 (ds.drop y.1)=0)) (fun y=> [(5, .int .i64 y.2),(14, .int .i64 ((y.1:Nat):Int))]) [(2,_),(12,_),(13,_)] (fun y=> []) _ (fun y=> ds.length - y.1) ((0, -1)) (h0:=?_) (k:=?_))
 ·try dsimp only
  exact⟨Yl _,ag,Iff.rfl⟩
 rintro⟨i,la⟩ ⟨hi,hla,hck⟩
 try dsimp only[Yd,Ye]at*
 refine gk (k:=wi_ (k:=fun h2=>?_) (m:=fun h2=>?_))
 ·obtain⟨d,sv,vs,hl,hds,hsv⟩:=hdi.get (i:=i) (aa)
  have hq:=hsm.q _ (Yj hds)
  rw[dF hds,l7]at hck
  simp only at hck hq
  refine wk_ (qn_ (ws_ (wb_ (ws_ (wr_ (e_ ixa (k:=e_ (jn (hy:=hl)) (k:=alc (k:=fun b7=>?_)))))))))
  refine gk (k:=dN 4 26 (k:=fun h3=>gk (k:=edq)) (q:=go ?_))
  refine wi_ (k:=fun h4=>?_) (m:=fun h4=>?_)
  ·have hbad:kZ fs ds=false:=by
    rw[hgd,Yr]
    intro h8
    have h7:=hck.1 h8
    have h9:=h4
    split at h7
    ·cases h7
    ·split at h7
     ·cases h7
     ·omega
   refine gk (k:=rt_ Tryz.results32 (k:=?_))
   exact⟨_,hsb,by rw[hbad];all_goals rfl,rfl⟩
  have hin:la<d∧d<1099511627776:=by have h9:=h4;omega
  rw[if_neg (aa),if_neg (aa)]at hck
  refine go ?_
  refine d2_ rfl (Ot hsm.fl hsm.fn hq.1 hq.2) (k:=gk (k:=wi_ (k:=fun h5=>?_) (m:=fun h5=>?_)))
  ·have hbad:kZ fs ds=false:=by
    rw[hgd,Yr]
    intro h8
    have h7:=hck.1 h8
    have h9:=h5
    split at h7
    ·rename_i h6;rw[h6]at h9;exact h9 rfl
    ·omega
   refine gk (k:=rt_ Tryz.results32 (k:=?_))
   exact⟨_,hsb,by rw[hbad];all_goals rfl,rfl⟩
  have hz:gy fs vs=0:=by have h9:=h5;omega
  rw[if_pos hz]at hck
  refine go ?_
  refine ln_ ((i+1,d)) (k:=?_)
  try dsimp only
  exact⟨aa,aa,hck⟩
 obtain rfl:i=ds.length:=aa
 rw[List.drop_length,l7]at hck
 have hok:kZ fs ds=true:=by rw[hgd,Ys (hck.2 rfl)]
 refine gk (k:=rt_ Tryz.results32 (k:=?_))
 exact⟨_,hsb,by rw[hok];all_goals rfl,rfl⟩
theorem PZ {G:cK}{H:cG}{fv pv:SV}{fs:List FV}{lp:List (SV×SV)}{ps:List ja} [hf:Sl H fv eF fs] [hd:Sl H pv eP lp] (hpi:oS H lp ps) (hpl:ps.length≤1000000000) (hsm:∀p∈ps,SmD fs p.1) (hfl:fs.length≤1000000) (hfn:∀f∈fs,f.name.size≤1000000000):SC G Tryz.prog 17 [.agg [fv.val,pv.val].toArray] H (fun v H'=> v= .bool (rX fs ps)∧H'=H):=by
 have hll:=hpi.1
 refine sWk Tryz.func17 Tryz.ntmps17 ?_
 refine gk (k:=bxx (k:=fun b1=>?_))
 refine go ?_
 refine c1_ rfl (vk (fs:=fs) (aa) (fun f hf=> by have:=hfn f hf;omega)) (k:=?_)
 rintro _ _ ⟨c,rfl,hc,rfl⟩
 refine gk (k:=wi_ (k:=fun h1=>?_) (m:=fun h1=>?_))
 ·have hbad:rX fs ps=false:=by
   have h9:=h1
   rcases hc with⟨h8,_⟩|⟨_,h8⟩
   ·rw[rX,h8,Bool.false_and]
   ·exact absurd h8 h9
  refine gk (k:=rt_ Tryz.results17 (k:=?_))
  exact⟨_,hsb,by rw[hbad];all_goals rfl,rfl⟩
 have hcs:fI fs=true:=by
  have h9:=h1
  rcases hc with⟨_,h8⟩|⟨h8,_⟩
  ·exact absurd h8 (aa)
  ·exact h8
 have hft:rX fs ps=ps.all fun p=> kZ fs p.1:=by rw[rX,hcs,Bool.true_and]
 refine gk (k:=dt (Nat) (fun y=> y≤ps.length∧rX fs ps=(ps.drop y).all fun p=> kZ fs p.1) (fun y=> [(14, .int .i64 ((y:Nat):Int))]) [(1,_),(12,_),(13,_)] (fun y=> []) _ (fun y=> ps.length - y) (0) (h0:=?_) (k:=?_))
 ·try dsimp only
  exact⟨Yl _,hft⟩
 rintro i ⟨hi,hall⟩
 try dsimp only[Yd,Ye]at*
 refine gk (k:=wi_ (k:=fun h2=>?_) (m:=fun h2=>?_))
 ·obtain⟨p,d,l,hp,hd9,g1,g2,g3⟩:=hpi.get (i:=i) (aa)
  have hs:=hsm _ (Yj hd9)
  rw[dF hd9,List.all_cons]at hall
  refine wk_ (qn_ (ws_ (wb_ (ws_ (wr_ (e_ ixa (k:=e_ (jn (hy:=hp)) (k:=alc (k:=fun b5=>?_)))))))))
  refine go ?_
  refine d2_ rfl (M0 (ds:=d.1) (g2.less (hsb)) hs) (k:=gk (k:=wi_ (k:=fun h3=>?_) (m:=fun h3=>?_)))
  ·have hbad:rX fs ps=false:=by rw[hall,show kZ fs d.1=false from by have h9:=h3;simpa using h9,Bool.false_and]
   refine gk (k:=rt_ Tryz.results17 (k:=?_))
   exact⟨_,hsb,by rw[hbad];all_goals rfl,rfl⟩
  rw[show kZ fs d.1=true from by have h9:=h3;simpa using h9,Bool.true_and]at hall
  refine go ?_
  refine ln_ (i+1) (k:=?_)
  try dsimp only
  exact⟨aa,hall⟩
 obtain rfl:i=ps.length:=aa
 rw[List.drop_length,List.all_nil]at hall
 refine gk (k:=rt_ Tryz.results17 (k:=?_))
 exact⟨_,hsb,by rw[hall];all_goals rfl,rfl⟩
def w9 (k:Int):Nat:=(IntKind.u64.wrap k).toNat
theorem Ez (k:Int):IntKind.u64.wrap k=((w9 k:Nat):Int):=by
 have h:0≤IntKind.u64.wrap k:=by
  unfold IntKind.wrap
  simp[IntKind.signed,IntKind.bits]
  omega
 unfold w9;omega
structure SmP (fs:List FV) (d:ja):Prop where
 sm:SmD fs d.1
 z:dsz d.1≤30000000
 t:oF fs d.1=0→(eE fs d.1).length≤2000000
 x:d.2.length≤1000000000
theorem y6 {fs:List FV}{ds:List Doc}(h:jF fs ds):(y7 fs ds).length≤1000000000:=by
 have hg:=h.goodT
 have ht:=h.toks
 have hz:=h.size
 have hn:=h.few
 have hfl:=h.flen
 have h1:=qN hg
 have h2:=pS (eE fs ds)
 have h3:=zi (Cj hg ht) (by rw[gS];omega)
 rw[gS]at h3
 have h4:=z7 h.chk
 have h5:=lP (fs:=fs) hz hn fs.length
 have h6:=iM (fs:=fs) (ds:=ds) (aa) h.q
 have h7:=ob (l:=ds.map (·.1)) h.pos (fun x hx=> bC)
 rw[Yh]at h7
 have h8:=ef (n:=ds.length) (k:=6) (aa) (aa)
 have hI:(mH ds).length≤10*4096+6:=by rw[mH,Ya];omega
 have hu:∀n,n<1099511627776→(uv n).length≤6:=fun n hn=> ef hn (aa)
 have u0:(uv 6).length≤6:=hu 6 (ag)
 show(kT 83 (lJ fs ds)).length≤_
 rw[tV,show(lJ fs ds).length=6 from rfl]
 simp only[dW,lJ,List.flatMap_cons,List.flatMap_nil,Ya,Yc,ql]
 have u1:=hu (wW fs).length (aa)
 have u2:=hu (mH ds).length (aa)
 have u3:=hu (kY fs ds fs.length).length (aa)
 have u4:=hu (fA (gb 0 (dm (eE fs ds)))).length (aa)
 have u5:=hu (dB (dm (eE fs ds))).length (aa)
 have u6:=hu (ep fs ds).length (aa)
 omega
theorem IL {G:cK}{H:cG}{fv pv:SV}{kp:Int}{a:PrA}{all:Bool}{fs:List FV}{lp:List (SV×SV)}{ps:List ja} [hg:Glb G H] [Tab H 27 lg] [Tab H 25 jP] [hf:Sl H fv eF fs] [hd:Sl H pv eP lp] [Spc H] (hT:gU G) (hS:lz) (hpi:oS H lp ps) (hpl:ps.length≤1000000000) (hsm:∀p∈ps,SmP fs p) (hfl:fs.length≤1000000) (hfn:∀f∈fs,f.name.size≤1000000000):
 SC G Tryz.prog 6 [.agg [fv.val,pv.val, .int .i64 kp,a.av.val,a.cu.val,a.ne.val, .bool all,a.dr.val,a.co.val].toArray] H (fun v H'=>
  (v= .tuple #[.pointer none, .agg [.slice none 0 0, .slice none 0 0].toArray, .int .i64 1]∧H'=H)∨
  (∃(d:ja) (dv xv:SV) (pt:PtA) (ws:List Nat) (F:cG),rX fs ps=true∧d∈ps∧Ba d.1.length d.2 ws∧dq F pt ⟨fs,d.1,ws⟩∧v= .tuple #[.pointer (some ⟨pt.p,0,none⟩), .agg [dv.val,xv.val].toArray, .int .i64 0]∧H'=fB F::H)):=by
 have hll:=hpi.1
 refine sWk Tryz.func6 Tryz.ntmps6 ?_
 refine gk (k:=bxx (k:=fun b1=>?_))
 refine gk (k:=alc (k:=fun b3=>?_))
 refine go ?_
 refine d1_ rfl (PZ (hpi.less (hsb)) hpl (fun p hp=> (hsm p hp).sm) hfl hfn) (k:=gk (k:=dN 6 17 (k:=fun h1=>gk (k:=edq)) (q:=gk (k:=wi_ (k:=fun h2=>?_) (m:=fun h2=>?_)))))
 ·refine ws_ (wr_ (e_ (bld []) (k:=gk (k:=rt_ Tryz.results6 (k:=?_)))))
  exact⟨_,hsb, .inl ⟨rfl,rfl⟩⟩
 have hok:rX fs ps=true∧0<ps.length:=by have h9:=h2;exact⟨h9.1,aa⟩
 obtain⟨hfx,hne⟩:=hok
 obtain⟨n9,hn9⟩:∃n,n=w9 kp % ps.length:=⟨_,rfl⟩
 have hlt:n9<ps.length:=by rw[hn9];exact Nat.mod_lt _ hne
 obtain⟨p,d,l,hp,hd9,g1,g2,g3⟩:=hpi.get (i:=n9) (aa)
 have hdm:=Yj hd9
 have hck:=Cg hfx hdm
 have hs:=hsm _ hdm
 have hsok:=mZ hck hs.z (hs.t hck)
 refine go ?_
 refine df cI (fun i=> [14,15].contains i) (fun k H=> (k=2→cQ H b1 [fv.val,pv.val, .int .i64 kp,a.av.val,a.cu.val,a.ne.val, .bool all,a.dr.val,a.co.val])∧(k=4→cQ H b1 [fv.val,pv.val, .int .i64 kp,a.av.val,a.cu.val,a.ne.val, .bool all,a.dr.val,a.co.val])∧(k=8→cQ H b1 [fv.val,pv.val, .int .i64 kp,a.av.val,a.cu.val,a.ne.val, .bool all,a.dr.val,a.co.val])∧(k=9→Sl H pv eP lp)∧(k=12→Sl H pv eP lp)∧(k=13→Sl H pv eP lp)) (af_ 0 (q:=cD fun H hH=>fla) (k:=af_ 1 (q:=cD fun H hH=>fla) (k:=?_)))
 refine cE 2 rfl rfl (a8) rfl (cD fun H hH=>ak) (?_)
 refine af_ 3 (q:=cD fun H hH=>fla) (k:=?_)
 refine cE 4 rfl rfl (a8) rfl (cD fun H hH=>ar) (?_)
 refine cE 5 rfl rfl (a8) rfl (cD fun H hH=>ui rfl ((w9 kp:Nat):Int) (Ez kp)) (?_)
 refine af_ 6 (q:=cD fun H hH=>fla) (k:=af_ 7 (q:=cD fun H hH=>fla) (k:=?_))
 refine cE 8 rfl rfl (a8) rfl (cD fun H hH=>aF) (?_)
 refine cE 9 rfl rfl (a8) rfl (cD fun H hH=>by have hN:=hH.2.2.2.1 rfl;exact lnn) (?_)
 refine cE 10 rfl rfl (a8) rfl (cD fun H hH=>cU 18446744073709551616 rfl rfl rfl ps.length (by rw[hll]) (aa)) (?_)
 refine cE 11 rfl rfl (a8) rfl (cD fun H hH=>evq (kG rfl rfl (w9 kp) ps.length rfl rfl hne) (congrArg (fun n:Nat=> Value.int .u64 (n:Int)) hn9.symm)) (?_)
 refine cE 12 rfl rfl (a8) rfl (cD fun H hH=>by have hN:=hH.2.2.2.2.1 rfl;exact ixa) (?_)
 refine cE 13 rfl rfl (a8) rfl (cD fun H hH=>by have hN:=hH.2.2.2.2.2 rfl;exact jn (hy:=hp)) (?_)
 refine cN 14 rfl (a8) rfl (fun k hk=> ⟨fun hi=> ab,fun hi=> ab,fun hi=> ab,fun hi=> ab,fun hi=> ab,fun hi=> ab⟩) (nK) ?_
 rintro _ _ ⟨b5,rfl,rfl⟩
 refine cN 15 rfl (a8) rfl (fun k hk=> ⟨fun hi=> ab,fun hi=> ab,fun hi=> ab,fun hi=> ab,fun hi=> ab,fun hi=> ab⟩) (dM rfl rfl rfl) ?_
 rintro _ _ ⟨rfl,rfl⟩
 refine db (a8) (fun k hk=> ⟨fun hi=> absurd hk (ad),fun hi=> absurd hk (ad),fun hi=> absurd hk (ad),fun hi=> absurd hk (ad),fun hi=> absurd hk (ad),fun hi=> absurd hk (ad)⟩) (go ?_)
 refine c2_ rfl (KP (ds:=d.1) (dead:=d.2) hT hS (g2.less (hsb)) hck hs.z (hs.t hck) (y6 hsok) hs.x) (k:=?_)
 rintro _ _ ⟨pt,ws,F,hdo,hpt,rfl,rfl⟩
 refine e_ asn (k:=on_ (qn_ (ws_ (ws_ (wr_ (e_ mv (k:=?_)))))))
 refine e_ (dU rfl) (k:=?_)
 refine gk (k:=wi_ (k:=fun h3=>?_) (m:=fun h3=>?_))
 ·exact absurd h3 (an)
 refine go ?_
 refine df cI (fun i=> [3].contains i) (fun k H=> (k=1→cQ H b5 [p.1.val,p.2.val])) (af_ 0 (q:=cD fun H hH=>mv) (k:=?_))
 refine cE 1 rfl rfl (a8) rfl (cD fun H hH=>cw) (?_)
 refine af_ 2 (q:=cD fun H hH=>asn) (k:=?_)
 refine cN 3 rfl (a8) rfl (fun k hk=> fun hi=> ab) (dM rfl rfl rfl) ?_
 rintro _ _ ⟨rfl,rfl⟩
 refine af_ 4 (q:=cD fun H hH=>asn) (k:=db (a8) (fun k hk=> fun hi=> absurd hk (ad)) (gk (k:=rt_ Tryz.results6 (k:=?_))))
 exact⟨_,hsb, .inr ⟨d,p.1,p.2,pt,ws,F,hfx,hdm,hdo,hpt,rfl,rfl⟩⟩
end Go.Sx
namespace Go.Proofs
open Go.Sx
open Go.Shelf
def Tryz.lays189_ren:Go.Shelf.Ren:=⟨fun| 189=> 147| 125=> 171| 257=> 183| 128=> 196| 129=> 197| 294=> 200| 295=> 201| 296=> 202| 297=> 203| 298=> 204| 299=> 205| 216=> 206| 300=> 207| 301=> 208| 328=> 223| 329=> 224| 330=> 225| 331=> 226| 332=> 227| 215=> 228| 343=> 237|n=> n,fun| 28=> 28| 3=> 3| 46=> 55| 0=> 0| 51=> 235| 53=> 56| 4=> 4| 183=> 313| 182=> 312| 131=> 99| 5=> 5| 9=> 9| 218=> 335| 222=> 309| 228=> 344| 229=> 345|n=> n,fun|n=> n⟩
theorem qy:Go.Proofs.Lays.n189 Tryz.prog Tryz.lays189_ren:={
 mixed:=a8
 f125:=Tryz.func171.trans (congrArg some (a8))
 f128:=Tryz.func196.trans (congrArg some (a8))
 f129:=Tryz.func197.trans (congrArg some (a8))
 f189:=Tryz.func147.trans (congrArg some (a8))
 f215:=Tryz.func228.trans (congrArg some (a8))
 f216:=Tryz.func206.trans (congrArg some (a8))
 f257:=Tryz.func183.trans (congrArg some (a8))
 f294:=Tryz.func200.trans (congrArg some (a8))
 f295:=Tryz.func201.trans (congrArg some (a8))
 f296:=Tryz.func202.trans (congrArg some (a8))
 f297:=Tryz.func203.trans (congrArg some (a8))
 f298:=Tryz.func204.trans (congrArg some (a8))
 f299:=Tryz.func205.trans (congrArg some (a8))
 f300:=Tryz.func207.trans (congrArg some (a8))
 f301:=Tryz.func208.trans (congrArg some (a8))
 f328:=Tryz.func223.trans (congrArg some (a8))
 f329:=Tryz.func224.trans (congrArg some (a8))
 f330:=Tryz.func225.trans (congrArg some (a8))
 f331:=Tryz.func226.trans (congrArg some (a8))
 f332:=Tryz.func227.trans (congrArg some (a8))
 f343:=Tryz.func237.trans (congrArg some (a8))
 t0:=Tryz.underlying0
 a0:=Tryz.isAgg0
 z0:=Tryz.sizeOf0
 v0:=Tryz.zeroValue0
 t3:=Tryz.underlying3
 a3:=Tryz.isAgg3
 z3:=Tryz.sizeOf3
 v3:=Tryz.zeroValue3
 t4:=Tryz.underlying4
 a4:=Tryz.isAgg4
 z4:=Tryz.sizeOf4
 v4:=Tryz.zeroValue4
 t5:=Tryz.underlying5
 a5:=Tryz.isAgg5
 z5:=Tryz.sizeOf5
 v5:=Tryz.zeroValue5
 t9:=Tryz.underlying9
 a9:=Tryz.isAgg9
 z9:=Tryz.sizeOf9
 v9:=Tryz.zeroValue9
 t28:=Tryz.underlying28
 a28:=Tryz.isAgg28
 z28:=Tryz.sizeOf28
 v28:=Tryz.zeroValue28
 t46:=Tryz.underlying55
 a46:=Tryz.isAgg55
 z46:=Tryz.sizeOf55
 v46:=Tryz.zeroValue55
 t51:=Tryz.underlying235
 a51:=Tryz.isAgg235
 z51:=Tryz.sizeOf235
 v51:=Tryz.zeroValue235
 t53:=Tryz.underlying56
 a53:=Tryz.isAgg56
 z53:=Tryz.sizeOf56
 v53:=Tryz.zeroValue56
 t131:=Tryz.underlying99
 a131:=Tryz.isAgg99
 z131:=Tryz.sizeOf99
 v131:=Tryz.zeroValue99
 t182:=Tryz.underlying312
 a182:=Tryz.isAgg312
 z182:=Tryz.sizeOf312
 v182:=Tryz.zeroValue312
 t183:=Tryz.underlying313
 a183:=Tryz.isAgg313
 z183:=Tryz.sizeOf313
 v183:=Tryz.zeroValue313
 t218:=Tryz.underlying335
 a218:=Tryz.isAgg335
 z218:=Tryz.sizeOf335
 v218:=Tryz.zeroValue335
 t222:=Tryz.underlying309
 a222:=Tryz.isAgg309
 z222:=Tryz.sizeOf309
 v222:=Tryz.zeroValue309
 t228:=Tryz.underlying344
 a228:=Tryz.isAgg344
 z228:=Tryz.sizeOf344
 v228:=Tryz.zeroValue344
 t229:=Tryz.underlying345
 a229:=Tryz.isAgg345
 z229:=Tryz.sizeOf345
 v229:=Tryz.zeroValue345}
open Go.Sort Go.RowKit in
theorem Tryz.slices_Sort_int (blk off cap:Nat) (zs:List Int) (w:World) (hH:Holds (Value.int .i64) w blk off zs.toArray) (hblk:blk<w.heap.size) (hsz:zs.length<4611686018427387904):
 Calls Tryz.prog 147 #[.slice (some ⟨blk,off,none⟩) zs.length cap] w fun e w'=>
  e= .returned (.tuple #[])∧∃n os,w'=grow (putRow (Value.int .i64) (Sort.ahead w n) blk off (zs.mergeSort fun x y=> decide (x≤y)).toArray) os:=Any.slices_Sort_int qy blk off cap zs w hH hblk hsz
def Tryz.lays190_ren:Go.Shelf.Ren:=⟨fun| 190=> 165| 125=> 171| 258=> 191| 128=> 196| 129=> 197| 302=> 213| 303=> 214| 304=> 215| 305=> 216| 306=> 217| 307=> 218| 308=> 219| 309=> 220| 310=> 221| 333=> 232| 329=> 224| 330=> 225| 334=> 233| 335=> 234| 336=> 235| 344=> 240|n=> n,fun| 31=> 271| 9=> 9| 3=> 3| 46=> 55| 0=> 0| 51=> 235| 53=> 56| 4=> 4| 183=> 313| 182=> 312| 131=> 99| 5=> 5| 218=> 335| 222=> 309| 228=> 344| 229=> 345|n=> n,fun|n=> n⟩
theorem qx:Go.Proofs.Lays.n190 Tryz.prog Tryz.lays190_ren:={
 mixed:=a8
 f125:=Tryz.func171.trans (congrArg some (a8))
 f128:=Tryz.func196.trans (congrArg some (a8))
 f129:=Tryz.func197.trans (congrArg some (a8))
 f190:=Tryz.func165.trans (congrArg some (a8))
 f258:=Tryz.func191.trans (congrArg some (a8))
 f302:=Tryz.func213.trans (congrArg some (a8))
 f303:=Tryz.func214.trans (congrArg some (a8))
 f304:=Tryz.func215.trans (congrArg some (a8))
 f305:=Tryz.func216.trans (congrArg some (a8))
 f306:=Tryz.func217.trans (congrArg some (a8))
 f307:=Tryz.func218.trans (congrArg some (a8))
 f308:=Tryz.func219.trans (congrArg some (a8))
 f309:=Tryz.func220.trans (congrArg some (a8))
 f310:=Tryz.func221.trans (congrArg some (a8))
 f329:=Tryz.func224.trans (congrArg some (a8))
 f330:=Tryz.func225.trans (congrArg some (a8))
 f333:=Tryz.func232.trans (congrArg some (a8))
 f334:=Tryz.func233.trans (congrArg some (a8))
 f335:=Tryz.func234.trans (congrArg some (a8))
 f336:=Tryz.func235.trans (congrArg some (a8))
 f344:=Tryz.func240.trans (congrArg some (a8))
 t0:=Tryz.underlying0
 a0:=Tryz.isAgg0
 z0:=Tryz.sizeOf0
 v0:=Tryz.zeroValue0
 t3:=Tryz.underlying3
 a3:=Tryz.isAgg3
 z3:=Tryz.sizeOf3
 v3:=Tryz.zeroValue3
 t4:=Tryz.underlying4
 a4:=Tryz.isAgg4
 z4:=Tryz.sizeOf4
 v4:=Tryz.zeroValue4
 t5:=Tryz.underlying5
 a5:=Tryz.isAgg5
 z5:=Tryz.sizeOf5
 v5:=Tryz.zeroValue5
 t9:=Tryz.underlying9
 a9:=Tryz.isAgg9
 z9:=Tryz.sizeOf9
 v9:=Tryz.zeroValue9
 t31:=Tryz.underlying271
 a31:=Tryz.isAgg271
 z31:=Tryz.sizeOf271
 v31:=Tryz.zeroValue271
 t46:=Tryz.underlying55
 a46:=Tryz.isAgg55
 z46:=Tryz.sizeOf55
 v46:=Tryz.zeroValue55
 t51:=Tryz.underlying235
 a51:=Tryz.isAgg235
 z51:=Tryz.sizeOf235
 v51:=Tryz.zeroValue235
 t53:=Tryz.underlying56
 a53:=Tryz.isAgg56
 z53:=Tryz.sizeOf56
 v53:=Tryz.zeroValue56
 t131:=Tryz.underlying99
 a131:=Tryz.isAgg99
 z131:=Tryz.sizeOf99
 v131:=Tryz.zeroValue99
 t182:=Tryz.underlying312
 a182:=Tryz.isAgg312
 z182:=Tryz.sizeOf312
 v182:=Tryz.zeroValue312
 t183:=Tryz.underlying313
 a183:=Tryz.isAgg313
 z183:=Tryz.sizeOf313
 v183:=Tryz.zeroValue313
 t218:=Tryz.underlying335
 a218:=Tryz.isAgg335
 z218:=Tryz.sizeOf335
 v218:=Tryz.zeroValue335
 t222:=Tryz.underlying309
 a222:=Tryz.isAgg309
 z222:=Tryz.sizeOf309
 v222:=Tryz.zeroValue309
 t228:=Tryz.underlying344
 a228:=Tryz.isAgg344
 z228:=Tryz.sizeOf344
 v228:=Tryz.zeroValue344
 t229:=Tryz.underlying345
 a229:=Tryz.isAgg345
 z229:=Tryz.sizeOf345
 v229:=Tryz.zeroValue345}
open Go.Sort Go.RowKit in
theorem Tryz.slices_Sort_string (blk off cap:Nat) (ss:List (List UInt8)) (w:World) (hH:Holds encStr w blk off ss.toArray) (hblk:blk<w.heap.size) (hsz:ss.length<4611686018427387904):
 Calls Tryz.prog 165 #[.slice (some ⟨blk,off,none⟩) ss.length cap] w fun e w'=>
  e= .returned (.tuple #[])∧∃n os,w'=grow (putRow encStr (Sort.ahead w n) blk off (ss.mergeSort fun x y=> decide (x≤y)).toArray) os:=Any.slices_Sort_string qx blk off cap ss w hH hblk hsz
def Tryz.lays157_ren:Go.Shelf.Ren:=⟨fun| 157=> 231| 229=> 238| 199=> 239| 261=> 241| 311=> 242| 312=> 243|n=> n,fun| 9=> 9| 31=> 271| 3=> 3| 5=> 5| 4=> 4| 119=> 347| 0=> 0| 40=> 349| 152=> 351| 21=> 21| 154=> 353| 51=> 235| 141=> 355| 196=> 359| 193=> 356| 198=> 362| 49=> 360| 194=> 357| 201=> 365| 226=> 367| 46=> 55| 227=> 368|n=> n,fun| 0=> 26| 6=> 28|n=> n⟩
theorem xg:Go.Proofs.Lays.n157 Tryz.prog Tryz.lays157_ren:={
 mixed:=a8
 f157:=Tryz.func231.trans (congrArg some (a8))
 f199:=Tryz.func239.trans (congrArg some (a8))
 f229:=Tryz.func238.trans (congrArg some (a8))
 f261:=Tryz.func241.trans (congrArg some (a8))
 f311:=Tryz.func242.trans (congrArg some (a8))
 f312:=Tryz.func243.trans (congrArg some (a8))
 t0:=Tryz.underlying0
 a0:=Tryz.isAgg0
 z0:=Tryz.sizeOf0
 v0:=Tryz.zeroValue0
 t3:=Tryz.underlying3
 a3:=Tryz.isAgg3
 z3:=Tryz.sizeOf3
 v3:=Tryz.zeroValue3
 t4:=Tryz.underlying4
 a4:=Tryz.isAgg4
 z4:=Tryz.sizeOf4
 v4:=Tryz.zeroValue4
 t5:=Tryz.underlying5
 a5:=Tryz.isAgg5
 z5:=Tryz.sizeOf5
 v5:=Tryz.zeroValue5
 t9:=Tryz.underlying9
 a9:=Tryz.isAgg9
 z9:=Tryz.sizeOf9
 v9:=Tryz.zeroValue9
 t21:=Tryz.underlying21
 a21:=Tryz.isAgg21
 z21:=Tryz.sizeOf21
 v21:=Tryz.zeroValue21
 t31:=Tryz.underlying271
 a31:=Tryz.isAgg271
 z31:=Tryz.sizeOf271
 v31:=Tryz.zeroValue271
 t40:=Tryz.underlying349
 a40:=Tryz.isAgg349
 z40:=Tryz.sizeOf349
 v40:=Tryz.zeroValue349
 t46:=Tryz.underlying55
 a46:=Tryz.isAgg55
 z46:=Tryz.sizeOf55
 v46:=Tryz.zeroValue55
 t49:=Tryz.underlying360
 a49:=Tryz.isAgg360
 z49:=Tryz.sizeOf360
 v49:=Tryz.zeroValue360
 t51:=Tryz.underlying235
 a51:=Tryz.isAgg235
 z51:=Tryz.sizeOf235
 v51:=Tryz.zeroValue235
 t119:=Tryz.underlying347
 a119:=Tryz.isAgg347
 z119:=Tryz.sizeOf347
 t141:=Tryz.underlying355
 a141:=Tryz.isAgg355
 z141:=Tryz.sizeOf355
 v141:=Tryz.zeroValue355
 t152:=Tryz.underlying351
 a152:=Tryz.isAgg351
 z152:=Tryz.sizeOf351
 v152:=Tryz.zeroValue351
 t154:=Tryz.underlying353
 a154:=Tryz.isAgg353
 z154:=Tryz.sizeOf353
 v154:=Tryz.zeroValue353
 t193:=Tryz.underlying356
 a193:=Tryz.isAgg356
 z193:=Tryz.sizeOf356
 v193:=Tryz.zeroValue356
 t194:=Tryz.underlying357
 a194:=Tryz.isAgg357
 z194:=Tryz.sizeOf357
 v194:=Tryz.zeroValue357
 t196:=Tryz.underlying359
 a196:=Tryz.isAgg359
 z196:=Tryz.sizeOf359
 v196:=Tryz.zeroValue359
 t198:=Tryz.underlying362
 a198:=Tryz.isAgg362
 z198:=Tryz.sizeOf362
 v198:=Tryz.zeroValue362
 t201:=Tryz.underlying365
 a201:=Tryz.isAgg365
 z201:=Tryz.sizeOf365
 v201:=Tryz.zeroValue365
 t226:=Tryz.underlying367
 a226:=Tryz.isAgg367
 z226:=Tryz.sizeOf367
 v226:=Tryz.zeroValue367
 t227:=Tryz.underlying368
 a227:=Tryz.isAgg368
 z227:=Tryz.sizeOf368
 v227:=Tryz.zeroValue368
 g0:=a8
 g6:=a8}
open Go.RowKit Go.Lib in
theorem Tryz.strings_Fields (s:ByteArray) (w:World) (hs:s.size<4294967281) (hascii:∀(j:Nat) b,s.data.toList[j]? =some b→b.toNat<128) (htab:Lib.TabIs Tryz.prog w "strings.asciiSpace" .u8 Lib.asciiSpaceTab):
 Calls Tryz.prog 231 #[.string s] w fun e w'=>
  e= .returned (.slice (some ⟨w.heap.size,0,none⟩) (Lib.fields s.data.toList).length (Lib.fields s.data.toList).length)∧w'=w.alloc (.cells ((Lib.fields s.data.toList).map fun l=> Value.string ⟨l.toArray⟩).toArray 9):=Any.strings_Fields xg (a8) (a8) s w hs hascii htab
def Tryz.laysNm220_ren:Go.Shelf.Ren:=⟨fun| 20=> 149|n=> n,fun| 22=> 28| 3=> 3| 4=> 4| 0=> 0|n=> n,fun|n=> n⟩
theorem o7:Go.Proofs.Lays2.n20 Tryz.prog Tryz.laysNm220_ren:={
 mixed:=a8
 f20:=Tryz.func149.trans (congrArg some (a8))
 t0:=Tryz.underlying0
 a0:=Tryz.isAgg0
 z0:=Tryz.sizeOf0
 v0:=Tryz.zeroValue0
 t3:=Tryz.underlying3
 a3:=Tryz.isAgg3
 z3:=Tryz.sizeOf3
 v3:=Tryz.zeroValue3
 t4:=Tryz.underlying4
 a4:=Tryz.isAgg4
 z4:=Tryz.sizeOf4
 v4:=Tryz.zeroValue4
 t22:=Tryz.underlying28
 a22:=Tryz.isAgg28
 z22:=Tryz.sizeOf28
 v22:=Tryz.zeroValue28
 i3:=a8}
open Go.RowKit Go.Lib Go.Sort in
theorem Tryz.slices_Compact_int (blk off cap:Nat) (zs:List Int) (w:World) (hH:Holds (Value.int .i64) w blk off zs.toArray) (hsz:zs.length≤9223372036854775807) (hcap:zs.length≤cap):
 Calls Tryz.prog 149 #[.slice (some ⟨blk,off,none⟩) zs.length cap] w fun e w'=> e= .returned (.slice (some ⟨blk,off,none⟩) (Lib.compact zs).length cap)∧∃q,w'=putRow (Value.int .i64) (Sort.ahead w q) blk off (Lib.compact zs++List.replicate (zs.length - (Lib.compact zs).length) 0).toArray:=Any.slices_Compact_int o7 blk off cap zs w hH hsz hcap
open Go.RowKit Go.Lib Go.Sort in
theorem Tryz.slices_Compact_int_empty (a:Option Addr) (cap:Nat) (w:World):
 Calls Tryz.prog 149 #[.slice a 0 cap] w fun e w'=> e= .returned (.slice a 0 cap)∧w'=w:=Any.slices_Compact_int_empty o7 a cap w
open Go.RowKit Go.Sort in
theorem Tryz.slices_Sort_string_none (p:Option Addr) (cap:Nat) (w:World):
 Calls Tryz.prog 165 #[.slice p 0 cap] w fun e w'=> e= .returned (.tuple #[])∧w'=w:=Any.slices_Sort_string_none qx p cap w
open Go.RowKit Go.Sort in
theorem Tryz.slices_Sort_int_none (p:Option Addr) (cap:Nat) (w:World):
 Calls Tryz.prog 147 #[.slice p 0 cap] w fun e w'=> e= .returned (.tuple #[])∧w'=w:=Any.slices_Sort_int_none qy p cap w
end Go.Proofs
namespace Go.Sx
open Go Go.Proofs
set_option maxRecDepth 100000
theorem NQ:∀x y:List UInt8,x<y↔x.map (·.toNat)<y.map (·.toNat):=by
 intro x
 induction x with
 |nil=> intro y;cases y <;> simp
 |cons a x ih=>
  intro y
  cases y with
  |nil=> simp
  |cons b y=>
   simp only[List.map_cons,List.cons_lt_cons_iff,ih y,UInt8.lt_iff_toNat_lt,UInt8.toNat_inj]
def by8 (q:ByteArray):List UInt8:=q.data.toList
def un8 (l:List UInt8):ByteArray:=⟨l.toArray⟩
theorem Ig (q:ByteArray):un8 (by8 q)=q:=by cases q;simp[un8,by8]
theorem zr (l:List UInt8):cF (un8 l)=l.map (·.toNat):=by simp[cF,un8]
theorem A9 (l:List (List UInt8)):(((l.mergeSort fun x y=> decide (x≤y)).map un8).map cF).Pairwise (fun a b=> ¬b<a):=by
 rw[List.map_map]
 refine List.pairwise_map.2 ?_
 have h:(l.mergeSort fun x y=> decide (x≤y)).Pairwise fun x y=> decide (x≤y)=true:=by
  refine List.pairwise_mergeSort (le:=fun x y=> decide (x≤y)) (fun a b c h1 h2=> ?_) (fun a b=> ?_) l
  ·simp only[decide_eq_true_eq]at h1 h2⊢;exact List.le_trans h1 h2
  ·simp only[Bool.or_eq_true,decide_eq_true_eq];exact List.le_total a b
 refine h.imp fun{a b} hab=> ?_
 simp only[Function.comp,zr,←NQ]
 exact List.not_lt.2 (Yt hab)
theorem wZ:∀ss:List ByteArray,eS.all ss=ss.map Value.string
 | []=> rfl
 |q::r=> by show Value.string q::eS.all r=_;rw[wZ r];all_goals rfl
theorem qQ {w:World}{L L':nf}(hp:L'.Perm L) (h:jc w L):jc w L':=⟨((hp.map (·.1)).nodup_iff).2 h.nodup,fun x hx=> h.at_ x (hp.mem_iff.1 hx)⟩
theorem Fk:lz:=by
 intro G H R s ss hr hn
 refine⟨ko Tryz.func165 rfl (a8),fun w hw=> ?_⟩
 obtain⟨hS,L,hL,hl⟩:=hw
 obtain⟨L',hp,L1,L2,rfl,hRow,hR⟩:=hr.out L hL
 have hl':=qQ hp hl
 rcases hRow with⟨rfl,rfl,rfl⟩|⟨b,C,E,fz,h1,h2,h3,rfl,h5,hf,h7⟩
 ·refine(Tryz.slices_Sort_string_none none 0 w).mono ?_
  rintro e w' ⟨rfl,rfl⟩
  exact⟨Row SV.nil eS []::R,⟨hS,L2,⟨[],L2,rfl, .inl ⟨rfl,rfl,rfl⟩,hR⟩,by simpa using hl'⟩,rfl, [], .refl _,List.Pairwise.nil,rfl⟩
 ·have hb:w.heap[b]? =some (.cells C E fz):=hl'.at_ (b, .cells C E fz) (an)
  have hbl:b<w.heap.size:=(Array.getElem?_eq_some_iff.1 hb).1
  have hall:∀(j:Nat) (q:ByteArray),ss[j]? =some q→C[j]? =some (.string q):=fun j q hq=> h7 j _ (by
   have:=wZ ss
   rw[this,Xd,hq];all_goals rfl)
  have hH:Go.Sort.Holds encStr w b 0 (ss.map by8).toArray:=by
   intro j hj
   have hj2:j<ss.length:=by simpa using hj
   have hjq:ss[j]? =some ss[j]:=Yi hj2
   have hC:=hall j _ hjq
   have hjC:=(Array.getElem?_eq_some_iff.1 hC).1
   constructor
   ·simp only[World.cell?,hb,Nat.zero_add]
    simp[hC,encStr,by8,hj2]
   ·simp only[World.frozen?,hb,Nat.zero_add]
    have:=hf.free j hjC
    simp only[Bool.and_eq_false_iff,decide_eq_false_iff_not]
    omega
  have hv: [s.val].toArray= #[Value.slice (some ⟨b,0,none⟩) (ss.map by8).length s.c]:=by
   simp only[SV.val,h1,h2,Yh]
  rw[hv]
  refine(Tryz.slices_Sort_string b 0 s.c (ss.map by8) w hH hbl (bW)).mono ?_
  rintro e w' ⟨rfl,n,os,rfl⟩
  obtain⟨ml,hml⟩:∃ml,ml=(ss.map by8).mergeSort fun x y=> decide (x≤y):=⟨_,rfl⟩
  have hmp:ml.Perm (ss.map by8):=by rw[hml];exact List.mergeSort_perm _ _
  have hmlen:ml.length=ss.length:=by rw[hmp.length_eq,Yh]
  rw[←hml]
  refine⟨Row s eS (ml.map un8)::R,?_,rfl,ml.map un8,?_,?_,rfl⟩
  ·refine⟨⟨hS.os,hS.tape,hS.output⟩, [(b, .cells (Go.Sort.putCells encStr 0 ml.toArray C) E fz)]++L2,⟨_,L2,rfl, .inr ⟨b,_,E,fz,h1,by simp[h2,hmlen],h3,rfl,by simp[Go.Sort.putCells,h5],by simpa [Go.Sort.putCells] using hf,?_⟩,hR⟩,?_⟩
   ·intro j v hv
    have:=wZ (ml.map un8)
    rw[this,List.map_map,Xd]at hv
    cases hm:ml[j]? with
    |none=> rw[hm]at hv;cases hv
    |some q=>
     rw[hm]at hv
     obtain rfl:=Option.some.inj hv
     have hjl:=(Yk.1 hm).1
     obtain⟨q0,hq0⟩:∃q0,ss[j]? =some q0:=⟨_,Yi (aa)⟩
     have hC:=hall j q0 hq0
     have hjC:=(Array.getElem?_eq_some_iff.1 hC).1
     have hq:=(Yk.1 hm).2
     simp[Go.Sort.putCells,hjC,hjl,hq,un8]
   ·have hnd:=hl'.nodup
    simp only[List.map_append,List.map_cons,List.map_nil,Yd,Ye,List.nodup_cons]at hnd⊢
    refine⟨by simpa using hnd,fun x hx=> ?_⟩
    rcases List.mem_cons.1 hx with rfl|hx
    ·simp only[Go.Sort.grow,Go.Sort.putRow,Go.Sort.mapBlock,Go.Sort.ahead]
     rw[Array.getElem?_append_left (by simpa using hbl),Array.getElem?_modify,if_pos rfl,hb];all_goals rfl
    ·have hxb:b≠x.1:=fun h=> hnd.1 (h ▸ List.mem_map_of_mem hx)
     have hx2:=hl'.at_ x (by simp[hx])
     have hxl:=(Array.getElem?_eq_some_iff.1 hx2).1
     simp only[Go.Sort.grow,Go.Sort.putRow,Go.Sort.mapBlock,Go.Sort.ahead]
     rw[Array.getElem?_append_left (by simpa using hxl),Array.getElem?_modify,if_neg hxb,hx2]
  ·have h9:=hmp.map un8
   rw[List.map_map,show(un8∘by8)=id from funext Ig,List.map_id]at h9
   exact h9
  ·rw[hml];exact A9 _
theorem IZ {H:cG} [hs:Spc H] {G:cK}{w:World}(hw:Sat G w H):Lib.TabIs Tryz.prog w "strings.asciiSpace" .u8 Lib.asciiSpaceTab:=by
 obtain⟨hS,L,hL,hl⟩:=hw
 obtain⟨E,fz,hm⟩:=hs.out L hL
 have h:=hl.at_ _ hm
 have hg:Tryz.prog.globalNamed "strings.asciiSpace" =some 26:=a8
 have ht:(Lib.asciiSpaceTab.map fun z=> Value.int .u8 z).toArray=((List.range 256).map fun i=> Value.int .u8 (if i=9∨i=10∨i=11∨i=12∨i=13∨i=32 then 1 else 0)).toArray:=by
  have e:Lib.asciiSpaceTab=(List.range 256).map fun i=> (if i=9∨i=10∨i=11∨i=12∨i=13∨i=32 then(1:Int)else 0):=ay
  rw[e,List.map_map];all_goals rfl
 show w.var? Tryz.prog "strings.asciiSpace" =_
 simp only[World.var?,hg,Option.bind_some,h,ht]
theorem ID {G:cK}{H:cG}{q:ByteArray} [Spc H] (hq:q.size<4294967281) (ha:∀b∈q.data.toList,b.toNat<128):SC G Tryz.prog 231 [.string q] H (fun v H'=> ∃s:SV,v=s.val∧H'=Row s eS ((Lib.fields q.data.toList).map un8)::H):=by
 refine⟨ko Tryz.func231 rfl (a8),fun w hw=> ?_⟩
 refine(Tryz.strings_Fields q w hq (fun j b hb=> ha b (Yj hb)) (IZ hw)).mono ?_
 rintro e w' ⟨rfl,rfl⟩
 obtain⟨hS,L,hL,hl⟩:=hw
 refine⟨Row ⟨some ⟨w.heap.size,0,none⟩,(Lib.fields q.data.toList).length,(Lib.fields q.data.toList).length⟩ eS ((Lib.fields q.data.toList).map un8)::H,⟨⟨hS.os,hS.tape,hS.output⟩, [(w.heap.size, .cells ((Lib.fields q.data.toList).map fun l=> Value.string ⟨l.toArray⟩).toArray 9 (0,0))]++L,⟨_,L,rfl, .inr ⟨w.heap.size,_,9,(0,0),rfl,an,Nat.le_refl _,rfl,by simp[eS], .inl rfl,fun j v hv=> ?_⟩,hL⟩,?_⟩,_,rfl,rfl⟩
 ·rw[wZ,List.map_map]at hv
  simpa [un8,Function.comp_def] using hv
 ·have hlt:∀x∈L,x.1<w.heap.size:=fun x hx=> (Array.getElem?_eq_some_iff.1 (hl.at_ x hx)).1
  refine⟨?_,fun x hx=> ?_⟩
  ·simp only[List.map_append,List.map_cons,List.map_nil,Yd,Ye,List.nodup_cons]
   refine⟨fun hm=> ?_,hl.nodup⟩
   obtain⟨x,hx,he⟩:=List.mem_map.1 hm
   have:=hlt x hx
   omega
  ·rcases List.mem_append.1 hx with hx|hx
   ·simp only[List.mem_singleton]at hx;subst hx
    exact Array.getElem?_push_size
   ·have:=hlt x hx
    simp only[World.alloc]
    rw[Array.getElem?_push_lt this,←Array.getElem?_eq_getElem this];exact hl.at_ x hx
def xP:ByteArray:=⟨#[97,32,97,110,32,97,110,100,32,97,114,101,32,97,115,32,97,116,32,98,101,32,98,117,116,32,98,121,32,102,111,114,32,102,114,111,109,32,104,97,115,32,104,101,32,105,102,32,105,110,32,105,110,116,111,32,105,115,32,105,116,32,105,116,115,32,110,111,32,110,111,116,32,111,102,32,111,110,32,111,114,32,115,104,101,32,115,111,32,115,117,99,104,32,116,104,97,116,32,116,104,101,32,116,104,101,105,114,32,116,104,101,110,32,116,104,101,114,101,32,116,104,101,115,101,32,116,104,101,121,32,116,104,105,115,32,116,111,32,119,97,115,32,119,101,32,119,101,114,101,32,119,105,108,108,32,119,105,116,104,32,121,111,117]⟩
theorem A7:∀b∈xP.data.toList,b.toNat<128:=ay
theorem CV:(((Lib.fields xP.data.toList).map fun l=> l.map (·.toNat)).isPerm jh)=true:=ay
theorem xO:jh.Pairwise (fun a b=> ¬b<a):=ay
theorem Fa:(Lib.fields xP.data.toList).length≤1000:=ay
theorem IU {ss:List ByteArray}(hp:ss.Perm ((Lib.fields xP.data.toList).map un8)) (hs:(ss.map cF).Pairwise (fun a b=> ¬b<a)):ss=jH:=by
 have h1:(ss.map cF).Perm jh:=by
  refine(hp.map cF).trans ?_
  rw[List.map_map,show(cF∘un8)=fun l:List UInt8=> l.map (·.toNat)from funext zr]
  exact List.isPerm_iff.1 CV
 have h2:ss.map cF=jh:=List.Perm.eq_of_pairwise (le:=fun a b:List Nat=> ¬b<a) (fun a b _ _ h3 h4=> by
  by_cases e:a=b
  ·exact e
  ·exact absurd (wD h4 e) h3) hs xO h1
 have h3:ss.map cF=jH.map cF:=by rw[h2,ry]
 have h4:=congrArg (List.map dL) h3
 rw[List.map_map,List.map_map,show(dL∘cF)=id from funext gO,List.map_id,List.map_id]at h4
 exact h4
theorem IS {G:cK}:gU G:=by
 intro H hH
 refine sWk Tryz.func211 Tryz.ntmps211 ?_
 refine go ?_
 refine c1_ rfl (ID (q:=xP) (ay) A7) (k:=?_)
 rintro _ _ ⟨s2,rfl,rfl⟩
 refine go ?_
 refine c1_ rfl (Fk G _ _ s2 _ inferInstance (by rw[Yh];have:=Fa;omega)) (k:=?_)
 rintro _ _ ⟨rfl,ss,hp,hso,rfl⟩
 rw[IU hp hso]
 refine gk (k:=rt_ Tryz.results211 (k:=?_))
 exact⟨_,hsb,s2,rfl,rfl⟩
theorem C7 {x:Int}:∀{l:List Int},l.Pairwise (· ≤ ·)→(AF x l).Pairwise (· ≤ ·)
 | [],_=> by simp[AF]
 |y::l,h=> by
  rw[AF]
  obtain⟨h1,h2⟩:=List.pairwise_cons.1 h
  split
  ·rename_i hx
   refine List.pairwise_cons.2 ⟨fun z hz=> ?_,h⟩
   rcases List.mem_cons.1 hz with rfl|hz
   ·exact hx
   ·exact Int.le_trans hx (h1 z hz)
  ·rename_i hx
   refine List.pairwise_cons.2 ⟨fun z hz=> ?_,C7 h2⟩
   rcases List.mem_cons.1 ((qT x l).mem_iff.1 hz)with rfl|hz
   ·omega
   ·exact h1 z hz
theorem xU:∀l:List Int,(gK l).Pairwise (· ≤ ·)
 | []=> by simp[gK]
 |x::l=> C7 (xU l)
theorem xV (l:List Int):(l.mergeSort fun x y=> decide (x≤y))=gK l:=by
 have h:(l.mergeSort fun x y=> decide (x≤y)).Pairwise fun x y=> decide (x≤y)=true:=
  List.pairwise_mergeSort (le:=fun x y=> decide (x≤y)) (fun a b c h1 h2=> by simp only[decide_eq_true_eq]at h1 h2⊢;omega) (fun a b=> by simp only[Bool.or_eq_true,decide_eq_true_eq];omega) l
 exact List.Perm.eq_of_pairwise (le:=(· ≤ ·)) (fun a b _ _ h1 h2=> Int.le_antisymm h1 h2) (h.imp fun{a b} hab=> Yt hab) (xU l) ((List.mergeSort_perm _ _).trans (kj l).symm)
theorem vT (x:Int):∀l:List Int,j8 (l++ [x])=if l.getLast? =some x then j8 l else j8 l++ [x]
 | []=> rfl
 | [a]=> by
  show j8 [a,x]=if some a=some x then [a]else [a,x]
  rw[j8]
  by_cases h:a=x
  ·subst h;rw[if_pos rfl,if_pos rfl];all_goals rfl
  ·rw[if_neg h,if_neg (aY)];all_goals rfl
 |a::b::l=> by
  have ih:=vT x (b::l)
  rw[List.getLast?_cons_cons]
  show j8 (a::b::(l++ [x]))=_
  rw[j8,show b::(l++ [x])=(b::l)++ [x]from rfl,ih,j8]
  by_cases h:a=b
  ·rw[if_pos h,if_pos h]
  ·rw[if_neg h,if_neg h]
   split <;> rfl
theorem zk (xs:List Int):∀m,m≤xs.length→Lib.compactUpTo xs.toArray m=j8 (xs.take m)
 | 0,_=> rfl
 |m+1,h=> by
  have hm:xs[m]? =some xs[m]:=Yi (aa)
  rw[Lib.compactUpTo_succ,zk xs m (aa),cP hm,vT]
  have e1:xs.toArray[m]! =xs[m]:=by simp[getElem!_pos,show m<xs.length from aa]
  rcases m with _|k
  ·rw[if_pos (Lib.keeps_lt_one _ 0 (aa)),e1];all_goals rfl
  ·have e2:xs.toArray[k]! =xs[k]:=by simp[getElem!_pos,show k<xs.length from aa]
   have e3:(xs.take (k+1)).getLast? =some xs[k]:=by
    rw[List.getLast?_eq_getElem?,Yg,show min (k+1) xs.length - 1=k from aa,List.getElem?_take,if_pos (aa),Yi (aa)]
   rw[e3,e1]
   by_cases hk:xs[k]=xs[k+1]
   ·rw[Lib.keeps_neg (aa) (by rw[e1,show k+1 - 1=k from rfl,e2,hk]),if_pos (show some xs[k]=some xs[k+1]from by rw[hk])]
    simp
   ·rw[Lib.keeps_pos (by rw[e1,show k+1 - 1=k from rfl,e2];exact fun h9=> hk h9.symm),if_neg (show ¬some xs[k]=some xs[k+1]from by simpa using hk)]
    simp
theorem zl (xs:List Int):Lib.compact xs=j8 xs:=by
 rw[Lib.compact,zk xs xs.length (Nat.le_refl _),List.take_length]
theorem x6:∀ss:List Int,eI.all ss=ss.map (Value.int .i64)
 | []=> rfl
 |q::r=> by show Value.int .i64 q::eI.all r=_;rw[x6 r];all_goals rfl
theorem vC {w:World}{b:Nat}{C:Array Value}{E:TypeId}{fz:Nat×Nat}{xs:List Int}(hb:w.heap[b]? =some (.cells C E fz)) (hf:Okf C.size fz) (h7:∀(j:Nat) (v:Value),(eI.all xs)[j]? =some v→C[j]? =some v):Go.Sort.Holds (Value.int .i64) w b 0 xs.toArray:=by
 intro j hj
 have hj2:j<xs.length:=by simpa using hj
 have hC:C[j]? =some (.int .i64 xs[j]):=h7 j _ (by rw[x6,Xd,Yi hj2];all_goals rfl)
 have hjC:=(Array.getElem?_eq_some_iff.1 hC).1
 constructor
 ·simp only[World.cell?,hb,Nat.zero_add]
  simp[hC,hj2]
 ·simp only[World.frozen?,hb,Nat.zero_add]
  have:=hf.free j hjC
  simp only[Bool.and_eq_false_iff,decide_eq_false_iff_not]
  omega
theorem BP {w:World}{n:Nat}{os:Array Obj}{b:Nat}{C:Array Value}{E:TypeId}{fz:Nat×Nat}{ys:List Int}{L2:nf}(hb:w.heap[b]? =some (.cells C E fz)) (hl:jc w ([(b, .cells C E fz)]++L2)):jc (Go.Sort.grow (Go.Sort.putRow (Value.int .i64) (Go.Sort.ahead w n) b 0 ys.toArray) os) ([(b, .cells (Go.Sort.putCells (Value.int .i64) 0 ys.toArray C) E fz)]++L2):=by
 have hbl:b<w.heap.size:=(Array.getElem?_eq_some_iff.1 hb).1
 have hnd:=hl.nodup
 simp only[List.map_append,List.map_cons,List.map_nil,Yd,Ye,List.nodup_cons]at hnd
 refine⟨by simpa using hnd,fun x hx=> ?_⟩
 rcases List.mem_cons.1 hx with rfl|hx
 ·simp only[Go.Sort.grow,Go.Sort.putRow,Go.Sort.mapBlock,Go.Sort.ahead]
  rw[Array.getElem?_append_left (by simpa using hbl),Array.getElem?_modify,if_pos rfl,hb];all_goals rfl
 ·have hx:x∈L2:=hx
  have hxb:b≠x.1:=fun h=> hnd.1 (h ▸ List.mem_map_of_mem hx)
  have hx2:=hl.at_ x (Yx _ hx)
  have hxl:=(Array.getElem?_eq_some_iff.1 hx2).1
  simp only[Go.Sort.grow,Go.Sort.putRow,Go.Sort.mapBlock,Go.Sort.ahead]
  rw[Array.getElem?_append_left (by simpa using hxl),Array.getElem?_modify,if_neg hxb,hx2]
theorem FE {C:Array Value}{ys:List Int}{j:Nat}{v:Value}(hl:ys.length≤C.size) (h:(eI.all ys)[j]? =some v):(Go.Sort.putCells (Value.int .i64) 0 ys.toArray C)[j]? =some v:=by
 rw[x6,Xd]at h
 cases hm:ys[j]? with
 |none=> rw[hm]at h;cases h
 |some q=>
  rw[hm]at h
  obtain rfl:=Option.some.inj h
  have hjl:=(Yk.1 hm).1
  have hq:=(Yk.1 hm).2
  have hjC:j<C.size:=aa
  simp[Go.Sort.putCells,hjC,hjl,hq]
theorem J0:jS:=by
 intro G H R s xs hr hn
 refine⟨ko Tryz.func147 rfl (a8),fun w hw=> ?_⟩
 obtain⟨hS,L,hL,hl⟩:=hw
 obtain⟨L',hp,L1,L2,rfl,hRow,hR⟩:=hr.out L hL
 have hl':=qQ hp hl
 rcases hRow with⟨rfl,rfl,rfl⟩|⟨b,C,E,fz,h1,h2,h3,rfl,h5,hf,h7⟩
 ·refine(Tryz.slices_Sort_int_none none 0 w).mono ?_
  rintro e w' ⟨rfl,rfl⟩
  exact⟨Row SV.nil eI []::R,⟨hS,L2,⟨[],L2,rfl, .inl ⟨rfl,rfl,rfl⟩,hR⟩,by simpa using hl'⟩,rfl,rfl⟩
 ·have hb:w.heap[b]? =some (.cells C E fz):=hl'.at_ (b, .cells C E fz) (an)
  have hbl:b<w.heap.size:=(Array.getElem?_eq_some_iff.1 hb).1
  have hv: [s.val].toArray= #[Value.slice (some ⟨b,0,none⟩) xs.length s.c]:=by
   simp only[SV.val,h1,h2]
  rw[hv]
  refine(Tryz.slices_Sort_int b 0 s.c xs w (vC hb hf h7) hbl (aa)).mono ?_
  rintro e w' ⟨rfl,n,os,rfl⟩
  rw[xV]
  have hsl:(gK xs).length=xs.length:=(kj xs).length_eq
  have h5':C.size=s.c:=by rw[h5];exact Nat.mul_one _
  refine⟨Row s eI (gK xs)::R,⟨⟨hS.os,hS.tape,hS.output⟩, [(b, .cells (Go.Sort.putCells (Value.int .i64) 0 (gK xs).toArray C) E fz)]++L2,⟨_,L2,rfl, .inr ⟨b,_,E,fz,h1,by rw[hsl];exact h2,h3,rfl,by simp[Go.Sort.putCells,h5],by simpa [Go.Sort.putCells] using hf,fun j v hv=> FE (aa) hv⟩,hR⟩,BP hb hl'⟩,rfl,rfl⟩
theorem Bd:fg:=by
 intro G H R s xs hr hn
 refine⟨ko Tryz.func149 rfl (a8),fun w hw=> ?_⟩
 obtain⟨hS,L,hL,hl⟩:=hw
 obtain⟨L',hp,L1,L2,rfl,hRow,hR⟩:=hr.out L hL
 have hl':=qQ hp hl
 rcases hRow with⟨rfl,rfl,rfl⟩|⟨b,C,E,fz,h1,h2,h3,rfl,h5,hf,h7⟩
 ·refine(Tryz.slices_Compact_int_empty none 0 w).mono ?_
  rintro e w' ⟨rfl,rfl⟩
  exact⟨Row SV.nil eI []::R,⟨hS,L2,⟨[],L2,rfl, .inl ⟨rfl,rfl,rfl⟩,hR⟩,by simpa using hl'⟩,SV.nil,rfl,rfl⟩
 ·have hb:w.heap[b]? =some (.cells C E fz):=hl'.at_ (b, .cells C E fz) (an)
  have hv: [s.val].toArray= #[Value.slice (some ⟨b,0,none⟩) xs.length s.c]:=by
   simp only[SV.val,h1,h2]
  rw[hv]
  refine(Tryz.slices_Compact_int b 0 s.c xs w (vC hb hf h7) (aa) (aa)).mono ?_
  rintro e w' ⟨rfl,q,rfl⟩
  rw[zl]
  have hdl:=uy xs
  have h5':C.size=s.c:=by rw[h5];exact Nat.mul_one _
  refine⟨Row ⟨some ⟨b,0,none⟩,(j8 xs).length,s.c⟩ eI (j8 xs)::R,⟨⟨hS.os,hS.tape,hS.output⟩, [(b, .cells (Go.Sort.putCells (Value.int .i64) 0 (j8 xs++List.replicate (xs.length - (j8 xs).length) 0).toArray C) E fz)]++L2,⟨_,L2,rfl, .inr ⟨b,_,E,fz,rfl,rfl,by show(j8 xs).length≤s.c;omega,rfl,by simp[Go.Sort.putCells,h5],by simpa [Go.Sort.putCells] using hf,fun j v hv=> FE (by rw[Ya,Xe];omega) (by
   rw[x6,Xd]at hv⊢
   cases hm:(j8 xs)[j]? with
   |none=> rw[hm]at hv;cases hv
   |some z=> rw[Yv (Yk.1 hm).1,hm];rw[hm]at hv;exact hv)⟩,hR⟩,?_⟩,⟨some ⟨b,0,none⟩,(j8 xs).length,s.c⟩,rfl,rfl⟩
  have:=BP (n:=q) (os:= #[]) (ys:=j8 xs++List.replicate (xs.length - (j8 xs).length) 0) hb hl'
  rw[Go.Sort.grow_empty]at this
  exact this
theorem F6 {G:cK}{H:cG}{i:Int}{s:ByteArray}:SC G Tryz.prog 30 [.int .i64 i, .string s] H (fun v H'=> ∃sv:SV,v= .agg [.int .i64 i,sv.val].toArray∧H'=Row sv eVl [(⟨#[116]⟩,s)]::H):=by
 refine sWk Tryz.func30 Tryz.ntmps30 ?_
 refine gk (k:=alc (k:=fun b4=>?_))
 refine on_ (qn_ (ws_ (wr_ (e_ mv (k:=e_ mv (k:=e_ (bld [(0,_),(1,_)]) (k:=gz eVl (k:=fun s8=>?_))))))))
 refine e_ (bld [(0,_),(1,_)]) (k:=gk (k:=rt_ Tryz.results30 (k:=?_)))
 exact⟨_,hsb,s8,rfl,rfl⟩
section
variable {G:cK}{P:Program}{t:Tm}{H:cG}{dst:Option Tmp}{ty:TypeId}{pos:String}{after:Array Edge}{g:Option (Nat×Bool)}
theorem D0 {T E:TypeId}{sz bb:Nat}{z:Value}{v1 v2 v3:Value}{x1 x2 x3:Operand}{α:Type}(e:Enc α) {y1 y2 y3:α} [hT:Und P T (.slice E)] [hE:Inf P E sz bb z] (hx1:evo t x1=some v1) (hx2:evo t x2=some v2) (hx3:evo t x3=some v3) [hv1:fK e v1 y1] [hv2:fK e v2 y2] [hv3:fK e v3 y3] (hsz:sz=e.sz):
 St G P ⟨dst, .buildSlice T 3 #[(0,x1),(1,x2),(2,x3)],ty,pos,after,g⟩ t H (fun u H'=> ∃s:SV,u=s.val∧H'=Row s e [y1,y2,y3]::H):=by
 subst hsz
 exact dC e [y1,y2,y3] (by simp only[rY,Enc.parts,hx1,hx2,hx3,hv1.out,hv2.out,hv3.out]) rfl (cv)
end
theorem Pa {H:cG}{i j k:Int}{a b c:SV}{x y z:List Val}(h1:Sl H a eVl x) (h2:Sl H b eVl y) (h3:Sl H c eVl z):ga H [(i,a),(j,b),(k,c)] [(i,x),(j,y),(k,z)]:=
 ⟨rfl,fun n p q hp hq=> by
   match n,hp,hq with
   | 0,hp,hq=> cases hp;cases hq;exact⟨rfl,h1⟩
   | 1,hp,hq=> cases hp;cases hq;exact⟨rfl,h2⟩
   | 2,hp,hq=> cases hp;cases hq;exact⟨rfl,h3⟩
   |n+3,hp,_=> cases hp⟩
theorem lV:dsz fxD≤30000000∧(eE fxF fxD).length≤2000000:=ay
theorem M5 {G:cK}{H:cG} [hg:Glb G H] [Tab H 27 lg] [Tab H 25 jP] [Spc H] (hT:gU G) (hS:lz):SC G Tryz.prog 16 [] H (fun v H'=> ∃(pt:PtA) (F:cG),dq F pt fxQ∧v= .pointer (some ⟨pt.p,0,none⟩)∧H'=fB F::H):=by
 have hok:=mZ AT lV.1 lV.2
 haveI hnil:∀H9,Sl H9 SV.nil eI []:=fun H9=> ⟨fun L hL=> ⟨rfl,Nat.le_refl _, .inl ⟨rfl,rfl⟩⟩⟩
 refine sWk Tryz.func16 Tryz.ntmps16 ?_
 refine ws_ (wr_ (e_ asn (k:=on_ (qn_ (ws_ (wr_ (e_ (bld [(0,_),(1,_)]) (k:=gz eF (k:=fun s3=>?_)))))))))
 refine e_ (bld [(0,_)]) (k:=alc (k:=fun b1=>?_))
 refine go ?_
 refine df cI (fun i=> [1,2,3,4,6].contains i) (fun k H=> (k=0→cQ H b1 [s3.val])) (?_)
 refine cE 0 rfl rfl (a8) rfl (cD fun H hH=>cw) (?_)
 refine cN 1 rfl (a8) rfl (fun k hk=> fun hi=> ab) (cW (vs:= [_,_]) rfl (F6)) ?_
 rintro _ _ ⟨sv1,rfl,rfl⟩
 refine cN 2 rfl (a8) rfl (fun k hk=> fun hi=> ab) (cW (vs:= [_,_]) rfl (F6)) ?_
 rintro _ _ ⟨sv2,rfl,rfl⟩
 refine cN 3 rfl (a8) rfl (fun k hk=> fun hi=> ab) (cW (vs:= [_,_]) rfl (F6)) ?_
 rintro _ _ ⟨sv3,rfl,rfl⟩
 refine cN 4 rfl (a8) rfl (fun k hk=> fun hi=> ab) (D0 eD rfl rfl rfl rfl) ?_
 rintro _ _ ⟨s9,rfl,rfl⟩
 refine af_ 5 (q:=cD fun H hH=>bld [(0,_)]) (k:=?_)
 refine cN 6 rfl (a8) rfl (fun k hk=> fun hi=> ab) (cW (vs:= [_,_]) rfl (KP (fv:=s3) (dv:=s9) (xv:=SV.nil) (fs:=fxF) (ds:=fxD) (dead:= []) (l:= [(0,sv1),(1,sv2),(2,sv3)]) hT hS (Pa inferInstance inferInstance inferInstance) AT lV.1 lV.2 (y6 hok) (ag))) ?_
 rintro _ _ ⟨pt,ws,F,hdo,hpt,rfl,rfl⟩
 refine af_ 7 (q:=cD fun H hH=>asn) (k:=db (a8) (fun k hk=> fun hi=> absurd hk (ad)) (gk (k:=rt_ Tryz.results16 (k:=?_))))
 exact⟨_,hsb,pt,F,by have h9:=hdo.2.2 rfl;rw[h9]at hpt;exact hpt,rfl,rfl⟩
theorem Ln:xj fxP fxQ 100:=by
 have h1:∀ps∈iQ fxP fxQ,dg ps≤100:=ay
 refine⟨⟨ag,ag,ag,ag,ag,an,ag,ag⟩,mZ AT lV.1 lV.2,⟨ag,ag,ag,fun x hx=> by simp at hx;omega⟩,h1,an,ag,an⟩
theorem LR {G:cK}{H:cG} [hg:Glb G H] [hia:Isa H] [Tab H 27 lg] [Tab H 25 jP] [Spc H] (hT:gU G) (hS:lz) (hSI:jS) (hCI:fg):SC G Tryz.prog 5 [] H (fun v H'=> v= .bool true∧H'=H):=by
 obtain⟨r1,r2,r3,r4⟩:=Np
 refine sWk Tryz.func5 Tryz.ntmps5 ?_
 refine go ?_
 refine c0_ rfl (M5 hT hS) (k:=?_)
 rintro _ _ ⟨pt,F,hpt,rfl,rfl⟩
 haveI hpt':∀H9,dq (fB F::H9) pt fxQ:=fun H9=> hpt.less lG
 refine e_ asn (k:=on_ (qn_ (ws_ (ws_ (wr_ (e_ mv (k:=?_)))))))
 refine e_ (dU rfl) (k:=?_)
 refine gk (k:=wi_ (k:=fun h1=>?_) (m:=fun h1=>?_))
 ·exact absurd h1 (an)
 refine gk (k:=gz eI (k:=fun s9=>?_))
 refine e_ (bld [(0,_),(1,_)]) (k:=gz eLf (k:=fun s11=>?_))
 refine gz eI (k:=fun s12=>?_)
 refine s_ (qI eB rfl rfl rfl rfl rfl) (k:=?_)
 rintro _ _ ⟨s13,rfl,rfl⟩
 refine e_ (bld [(0,_),(1,_),(4,_),(5,_)]) (k:=alc (k:=fun b2=>?_))
 refine sto (k:=on_ (qn_ (ws_ (wr_ (?_)))))
 haveI hn1:∀H9,Sl H9 SV.nil eNr []:=fun H9=> ⟨fun L hL=> ⟨rfl,Nat.le_refl _, .inl ⟨rfl,rfl⟩⟩⟩
 haveI hn2:∀H9,gE (Row s13 eB [4,0,1,0]::Row s12 eI [0]::Row s11 eLf [(0,⟨#[97]⟩)]::Row s9 eI [1]::H9) ⟨s9,s11,SV.nil,s12,s13, []⟩ fxP:=fun H9=> ⟨inferInstance,inferInstance,inferInstance,⟨rfl,fun i z n hz=> by cases hz⟩,inferInstance⟩
 haveI hn3:∀H9,qA (Row s13 eB [4,0,1,0]::H9) ⟨s9,s11,SV.nil,s12,s13, []⟩ fxP:=fun H9=> ⟨inferInstance⟩
 refine go ?_
 refine c2_ rfl (BB (a:=⟨s9,s11,SV.nil,s12,s13, []⟩) (p:=fxP) (pt:=pt) (q:=fxQ) Ln) (k:=?_)
 rintro _ _ (⟨e,hne,he,rfl,rfl⟩|⟨ins,m,a',sc,u,bs,F2,hnw,hbl,hmf,rfl,rfl⟩)
 ·rw[wL]at hne;cases hne
 refine e_ mv (k:=e_ exr (k:=e_ exr (k:=e_ asn (k:=e_ asn (k:=on_ (qn_ (ws_ (ws_ (wr_ (e_ mv (k:=?_)))))))))))
 refine e_ (cM rfl) (k:=?_)
 refine e_ mv (k:=eg_ mv (k:=?_))
 refine eg_ (dU rfl) (k:=?_)
 refine gk (k:=wi_ (k:=fun h2=>?_) (m:=fun h2=>?_))
 ·exact absurd h2 (an)
 refine go ?_
 refine c3_ rfl (Iw (a:=⟨s9,s11,SV.nil,s12,s13, []⟩) (p:=fxP) (pt:=pt) (q:=fxQ) (fu:=4) hSI hCI Ln) (k:=?_)
 rintro _ _ (⟨e,hne,he,rfl,rfl⟩|⟨ins2,hnw2,(⟨hlt,rfl,rfl⟩|⟨hge,sh,rfl,rfl⟩)⟩)
 ·rw[wL]at hne;cases hne
 ·rw[wL]at hnw2;cases hnw2;have r5:(dK fxP fxQ fxI).2.steps=4:=r2;rw[r5]at hlt;exact absurd hlt (ag)
 rw[wL]at hnw2
 cases hnw2
 refine gk (k:=alc (k:=fun b5=>?_))
 refine sto (k:=e_ asn (k:=on_ (qn_ (ws_ (wr_ (e_ mv (k:=?_)))))))
 refine e_ (fy rfl) (k:=?_)
 refine e_ mv (k:=eg_ lds (k:=eg_ (bld [(0,_),(1,_)]) (k:=eg_ (bld [(0,_),(1,_)]) (k:=?_))))
 refine sg_ (dC rb [(0,409),(2,465)] (bQ) rfl (ay)) (k:=?_)
 rintro _ _ ⟨s39,rfl,rfl⟩
 refine eg_ (bld [(0,_),(1,_),(2,_),(3,_)]) (k:=?_)
 refine sg_ (cW (vs:= [_,_]) rfl (By (xs:=(dK fxP fxQ fxI).1) (ys:= [(0,409),(2,465)]) (by rw[show(dK fxP fxQ fxI).1=_ from r1];decide))) (k:=?_)
 rintro _ _ ⟨rfl,rfl⟩
 refine gk (k:=rt_ Tryz.results5 (k:=?_))
 refine⟨_,hsb,?_,rfl⟩
 have e1:(dK fxP fxQ fxI).1= [(0,409),(2,465)]:=r1
 have e2:(dK fxP fxQ fxI).2.steps=4:=r2
 have e3:kX (dK fxP fxQ fxI).2=3:=r3
 have e4:(dK fxP fxQ fxI).2.visits=2:=r4
 rw[e1,e2,e3,e4]
 all_goals rfl
section
variable {G:cK}{H:cG}{a:PrA}{p:PrG}{pt:PtA}{q:PtD}{T:Nat}{fu:Int}{ins:List Ins}
theorem KO [hg:Glb G H] [hia:Isa H] [hp:gE H a p] [hpc:qA H a p] [hpt:dq H pt q] (hS:jS) (hC:fg) (hk:xj p q T) (hn:nv p q= .ok ins) (hf:(dK p q ins).2.steps≤fu.toNat):SC G Tryz.prog 7 [.agg (prV a p.all).toArray, .pointer (some ⟨pt.p,0,none⟩), .int .i64 fu] H (fun v H'=> ∃sh:SV,v= .tuple #[Ol sh (dK p q ins).2, .nilIface]∧H'=Row sh rb (dK p q ins).1::H):=
 (Iw hS hC hk).mono fun v H' h=> by
   rcases h with⟨e,h1,_⟩|⟨i2,h1,h2⟩
   ·rw[hn]at h1;cases h1
   ·rw[hn]at h1;cases h1
    rcases h2 with⟨h3,_⟩|⟨_,h3⟩
    ·omega
    ·exact h3
theorem NV [hg:Glb G H] [hia:Isa H] [hp:gE H a p] [hpc:qA H a p] [hpt:dq H pt q] (hS:jS) (hC:fg) (hk:xj p q T) (hn:nv p q= .ok ins) (hf:fu.toNat<(dK p q ins).2.steps):SC G Tryz.prog 7 [.agg (prV a p.all).toArray, .pointer (some ⟨pt.p,0,none⟩), .int .i64 fu] H (fun v H'=> v= .tuple #[Mt,G.err 21]∧H'=H):=
 (Iw hS hC hk).mono fun v H' h=> by
   rcases h with⟨e,h1,_⟩|⟨i2,h1,h2⟩
   ·rw[hn]at h1;cases h1
   ·rw[hn]at h1;cases h1
    rcases h2 with⟨_,h3⟩|⟨h3,_⟩
    ·exact h3
    ·omega
theorem vj (hk:xj p q T) (hn:nv p q= .ok ins):(dK p q ins).2.steps≤300000000000000000:=by
 obtain⟨⟨tb,hro⟩,hms0⟩:=Fw (x:=⟨⟨SV.nil,SV.nil,SV.nil,SV.nil,SV.nil, []⟩,p.all,SV.nil,⟨0,0,0,0,SV.nil,SV.nil,SV.nil,SV.nil,SV.nil,SV.nil,SV.nil,0, [], []⟩,SV.nil,List.replicate p.curs.length 0⟩) hk hn rfl Xe
 exact(tL hro (xf hro.dr hro.few _ _ hms0).1).1
end
section
variable {G:cK}{H R:cG}{m T:Nat}{x:MX}{s:MS}{p:PrG}{q:PtD}{ins:List Ins}{pss:List (List Po)}{tb:Hs}{z:Hit}
theorem EW [hr:Rem H Ma m (x,s) R] [hg:Glb G R] [hpt:dq R x.pt q] [hmf:mb R x p ins] (hS:jS) (hC:fg) (hro:pz x p q pss T ins tb) (hms:jO (cS p q ins) pss s) (hx:(dV (cS p q ins) s).1=some z):SC G Tryz.prog 11 [.pointer (some ⟨m,0,none⟩)] H (fun v H'=> v= .tuple #[.agg [.int .i64 z.1, .int .u64 ((z.2:Nat):Int)].toArray, .bool true]∧H'=Ma m (x,(dV (cS p q ins) s).2)::R):=
 (A2 hS hC hro hms).mono fun v H' h=> ⟨by rw[h.1,hx];all_goals rfl,h.2⟩
theorem EV [hr:Rem H Ma m (x,s) R] [hg:Glb G R] [hpt:dq R x.pt q] [hmf:mb R x p ins] (hS:jS) (hC:fg) (hro:pz x p q pss T ins tb) (hms:jO (cS p q ins) pss s) (hx:(dV (cS p q ins) s).1=none):SC G Tryz.prog 11 [.pointer (some ⟨m,0,none⟩)] H (fun v H'=> v= .tuple #[.agg [.int .i64 0, .int .u64 0].toArray, .bool false]∧H'=Ma m (x,(dV (cS p q ins) s).2)::R):=
 (A2 hS hC hro hms).mono fun v H' h=> ⟨by rw[h.1,hx];all_goals rfl,h.2⟩
end
theorem CD {c:Cfg}:∀(n:Nat) (s:MS),(kS c n s).1.length≤n
 | 0,_=> Nat.le_refl _
 |n+1,s=> by
  rw[kS]
  split
  ·exact Yl _
  ·exact Nat.succ_le_succ (CD n _)
theorem sq {p:PrG}{q:PtD}{T:Nat}{ins:List Ins}(hk:xj p q T):(dK p q ins).1.length≤1000000000000:=by
 have h1:=CD (c:=cS p q ins) ((cS p q ins).ids.length+1) (lh (iQ p q))
 have h2:(cS p q ins).ids.length=q.ds.length:=by show(q.ds.map (·.1)).length=_;rw[Yh]
 have h3:=hk.pt.n
 have h4:(dK p q ins).1.length≤(cS p q ins).ids.length+1:=h1
 omega
structure I0 (p:PrG) (fs:List FV) (ps:List ja):Prop where
 pl:ps.length≤1000000000
 sm:∀d∈ps,SmP fs d
 fl:fs.length≤1000000
 fn:∀f∈fs,f.name.size≤1000000000
 pq:∀d∈ps,∀ws,rX fs ps=true→Ba d.1.length d.2 ws→∃T,xj p ⟨fs,d.1,ws⟩ T
theorem JG {G:cK}{H:cG}{fv pv:SV}{kp more:Int}{a:PrA}{p:PrG}{fs:List FV}{lp:List (SV×SV)}{ps:List ja} [hg:Glb G H] [HY G] [hia:Isa H] [Tab H 27 lg] [Tab H 25 jP] [hf:Sl H fv eF fs] [hd:Sl H pv eP lp] [hp:gE H a p] [hpc:qA H a p] [Spc H] (hT:gU G) (hS:lz) (hSI:jS) (hCI:fg) (hpi:oS H lp ps) (hco:I0 p fs ps):
 SC G Tryz.prog 3 [.agg [fv.val,pv.val, .int .i64 kp,a.av.val,a.cu.val,a.ne.val, .bool p.all,a.dr.val,a.co.val].toArray, .int .i64 more] H (fun v H'=> v= .bool true∧H'=H):=by
 haveI hnil:∀H9,Sl H9 SV.nil rb []:=fun H9=> ⟨fun L hL=> ⟨rfl,Nat.le_refl _, .inl ⟨rfl,rfl⟩⟩⟩
 refine sWk Tryz.func3 Tryz.ntmps3 ?_
 refine ws_ (wr_ (bxx (k:=fun b2=>?_)))
 refine e_ asn (k:=on_ (qn_ (ws_ (ws_ (wr_ (?_))))))
 refine d0_ rfl (LR hT hS hSI hCI) (k:=e_ k8 (k:=on_ (qn_ (wi_ (k:=fun h1=>?_) (m:=fun h1=>?_)))))
 ·exact absurd h1 (an)
 refine wk_ (qn_ (ws_ (wr_ (e_ lds (k:=?_)))))
 refine c1_ rfl (IL hT hS (hpi.less (hsb)) hco.pl hco.sm hco.fl hco.fn) (k:=?_)
 rintro _ _ (⟨rfl,rfl⟩|⟨d,dv,xv,pt,ws,F,hfx,hdm,hdo,hpt,rfl,rfl⟩)
 ·refine e_ mv (k:=e_ exr (k:=e_ exr (k:=e_ exr (k:=alc (k:=fun b6=>?_)))))
  refine e_ asn (k:=sto (k:=e_ asn (k:=on_ (qn_ (ws_ (ws_ (wr_ (e_ mv (k:=e_ ine (k:=on_ (qn_ (wi_ (k:=fun h2=>?_) (m:=fun h2=>?_)))))))))))))
  ·refine ws_ (wr_ (e_ mv (k:=e_ ieq (k:=e_ asn (k:=on_ (qn_ (wt_ (qr_ (rt_ Tryz.results3 (k:=?_))))))))))
   exact⟨_,hsb,rfl,rfl⟩
  exact absurd h2 (an)
 obtain⟨T,hk⟩:=hco.pq d hdm ws hfx hdo
 haveI hpt':∀H9,dq (fB F::H9) pt ⟨fs,d.1,ws⟩:=fun H9=> hpt.less lG
 refine e_ mv (k:=e_ exr (k:=e_ exr (k:=e_ exr (k:=alc (k:=fun b6=>?_)))))
 refine e_ asn (k:=sto (k:=e_ asn (k:=on_ (qn_ (ws_ (ws_ (wr_ (e_ mv (k:=e_ ine (k:=on_ (qn_ (wi_ (k:=fun h3=>?_) (m:=fun h3=>?_)))))))))))))
 ·exact absurd h3 (an)
 refine wk_ (qn_ (ws_ (wr_ (e_ fla (k:=e_ lds (k:=e_ mv (k:=?_)))))))
 refine c3_ rfl (Iw (a:=a) (p:=p) (pt:=pt) (fu:=4611686018427387904) hSI hCI hk) (k:=?_)
 rintro _ _ (⟨e,hne,he,rfl,rfl⟩|⟨ins,hnw,(⟨hlt,rfl,rfl⟩|⟨hge,sh,rfl,rfl⟩)⟩)
 ·haveI:iJ e:=⟨aa⟩
  refine e_ mv (k:=e_ exr (k:=e_ exr (k:=alc (k:=fun b8=>?_))))
  refine sto (k:=e_ asn (k:=on_ (qn_ (ws_ (wr_ (e_ fla (k:=e_ lds (k:=e_ mv (k:=?_)))))))))
  refine c2_ rfl (BB (a:=a) (p:=p) (pt:=pt) hk) (k:=?_)
  rintro _ _ (⟨e2,hne2,he2,rfl,rfl⟩|⟨ins2,m,a',sc,u,bs,F2,hnw2,hbl,hmf,rfl,rfl⟩)
  ·obtain rfl:e=e2:=by rw[hne]at hne2;exact Except.error.inj hne2
   refine e_ mv (k:=e_ exr (k:=e_ exr (k:=e_ asn (k:=e_ asn (k:=on_ (qn_ (ws_ (ws_ (wr_ (e_ mv (k:=?_)))))))))))
   refine d1_ rfl (Ar e) (k:=e_ mv (k:=?_))
   refine d1_ rfl (Ar e) (k:=e_ ine (k:=e_ mv (k:=dN 6 63 (k:=fun h4=>eg_ mv (k:=eg_ (dU rfl) (k:=eg_ mv (k:=eg_ (cZ rfl) (k:=eg_ (o4 rfl rfl) (k:=e_ pkf (k:=on_ (edq)))))))) (q:=on_ (qn_ (wi_ (k:=fun h5=>?_) (m:=fun h5=>?_)))))))
   ·exact absurd h5 (an)
   refine wk_ (qn_ (ws_ (ws_ (wr_ (e_ mv (k:=?_))))))
   refine e_ (cZ rfl) (k:=?_)
   refine on_ (qn_ (ift (k:=ws_ (wr_ (e_ asn (k:=on_ (qn_ (wt_ (qr_ (rt_ Tryz.results3 (k:=?_)))))))))))
   exact⟨_,hsb,rfl,rfl⟩
  rw[hne]at hnw2;cases hnw2
 ·exact absurd hlt (by have h8:=vj hk hnw;rw[show(4611686018427387904:Int).toNat=4611686018427387904 from rfl];omega)
 have hsm:=vj hk hnw
 refine e_ mv (k:=e_ exr (k:=e_ exr (k:=alc (k:=fun b8=>?_))))
 refine sto (k:=e_ asn (k:=on_ (qn_ (ws_ (wr_ (e_ fla (k:=e_ lds (k:=e_ mv (k:=?_)))))))))
 refine c2_ rfl (BB (a:=a) (p:=p) (pt:=pt) hk) (k:=?_)
 rintro _ _ (⟨e2,hne2,he2,rfl,rfl⟩|⟨ins2,m,a',sc,u,bs,F2,hnw2,hbl,hmf,rfl,rfl⟩)
 ·rw[hnw]at hne2;cases hne2
 obtain rfl:ins=ins2:=by rw[hnw]at hnw2;exact Except.ok.inj hnw2
 haveI:=hmf
 obtain⟨⟨tb,hro⟩,hms0⟩:=Fw (x:=⟨a',p.all,sc,pt,u,bs⟩) hk hnw rfl hbl
 obtain⟨R0,hR0⟩:∃R0,R0=dK p ⟨fs,d.1,ws⟩ ins:=⟨_,rfl⟩
 refine e_ mv (k:=e_ exr (k:=e_ exr (k:=e_ asn (k:=e_ asn (k:=on_ (qn_ (ws_ (ws_ (wr_ (e_ mv (k:=?_)))))))))))
 refine d1_ rfl (G3) (k:=e_ mv (k:=?_))
 refine d1_ rfl (G3) (k:=e_ ine (k:=e_ mv (k:=dN 6 63 (k:=fun h6=>eg_ mv (k:=eg_ (dU rfl) (k:=eg_ mv (k:=eg_ (cM rfl) (k:=eg_ (o4 rfl rfl) (k:=e_ pkf (k:=on_ (edq)))))))) (q:=on_ (qn_ (wi_ (k:=fun h7=>?_) (m:=fun h7=>?_)))))))
 ·exact absurd h7 (an)
 refine wk_ (qn_ (ws_ (ws_ (wr_ (e_ mv (k:=?_))))))
 refine e_ (cM rfl) (k:=?_)
 refine on_ (qn_ (eg (k:=wk_ (qn_ (ws_ (wr_ (e_ fla (k:=e_ lds (k:=e_ mv (k:=e_ fla (k:=e_ ldv (k:=?_))))))))))))
 refine c3_ rfl (KO (a:=a) (p:=p) (pt:=pt) (fu:=(((dK p ⟨fs,d.1,ws⟩ ins).2.steps:Nat):Int)) hSI hCI hk hnw (aa)) (k:=?_)
 rintro _ _ ⟨sh3,rfl,rfl⟩
 refine e_ mv (k:=e_ exr (k:=e_ exr (k:=alc (k:=fun b12=>?_))))
 refine sto (k:=e_ asn (k:=on_ (qn_ (ws_ (ws_ (wr_ (e_ mv (k:=?_))))))))
 refine e_ (cM rfl) (k:=?_)
 refine e_ mv (k:=eg_ lds (k:=eg_ lds (k:=?_)))
 refine sg_ (cW (vs:= [_,_]) rfl (By (xs:=(dK p ⟨fs,d.1,ws⟩ ins).1) (ys:=(dK p ⟨fs,d.1,ws⟩ ins).1) (sq hk))) (k:=?_)
 rintro _ _ ⟨rfl,rfl⟩
 refine eg_ k8 (k:=e_ pkf (k:=on_ (qn_ (wi_ (k:=fun h8=>?_) (m:=fun h8=>?_)))))
 ·exact absurd h8 (an)
 refine wk_ (qn_ (ws_ (wr_ (e_ fla (k:=e_ lds (k:=e_ mv (k:=e_ fla (k:=e_ ldv (k:=e_ mv (k:=?_))))))))))
 refine e_ (ui rfl ((w9 more:Nat):Int) (Ez more)) (k:=?_)
 refine e_ (kG rfl rfl _ 1000 rfl rfl (aa)) (k:=?_)
 refine e_ (dy rfl (aa)) (k:=?_)
 refine e_ iad (k:=?_)
 refine c3_ rfl (KO (a:=a) (p:=p) (pt:=pt) hSI hCI hk hnw (aa)) (k:=?_)
 rintro _ _ ⟨sh4,rfl,rfl⟩
 refine e_ mv (k:=e_ exr (k:=e_ exr (k:=sto (k:=e_ asn (k:=on_ (qn_ (ws_ (ws_ (wr_ (e_ mv (k:=?_)))))))))))
 refine e_ (cM rfl) (k:=?_)
 refine e_ mv (k:=eg_ lds (k:=eg_ lds (k:=?_)))
 refine sg_ (cW (vs:= [_,_]) rfl (By (xs:=(dK p ⟨fs,d.1,ws⟩ ins).1) (ys:=(dK p ⟨fs,d.1,ws⟩ ins).1) (sq hk))) (k:=?_)
 rintro _ _ ⟨rfl,rfl⟩
 refine eg_ k8 (k:=e_ pkf (k:=on_ (qn_ (wi_ (k:=fun h9=>?_) (m:=fun h9=>?_)))))
 ·exact absurd h9 (an)
 refine wk_ (qn_ (ws_ (ws_ (wr_ (e_ fla (k:=e_ ldv (k:=e_ igt (k:=on_ (qn_ (wi_ (k:=fun h10=>?_) (m:=fun h10=>?_)))))))))))
 ·have hst0:0<(dK p ⟨fs,d.1,ws⟩ ins).2.steps:=by have h9:=h10;omega
  obtain⟨rm,hrm⟩:∃rm,rm=w9 more % (dK p ⟨fs,d.1,ws⟩ ins).2.steps:=⟨_,rfl⟩
  have hrl:rm<(dK p ⟨fs,d.1,ws⟩ ins).2.steps:=by rw[hrm];exact Nat.mod_lt _ hst0
  refine ws_ (?_)
  refine df cI (fun i=> [14,15].contains i) (fun k H=> (k=1→cQ H b8 [sh.val, .int .i64 (((dK p ⟨fs,d.1,ws⟩ ins).2.steps:Nat):Int), .int .i64 ((kX (dK p ⟨fs,d.1,ws⟩ ins).2:Nat):Int), .int .i64 (((dK p ⟨fs,d.1,ws⟩ ins).2.visits:Nat):Int)])∧(k=4→cQ H b8 [sh.val, .int .i64 (((dK p ⟨fs,d.1,ws⟩ ins).2.steps:Nat):Int), .int .i64 ((kX (dK p ⟨fs,d.1,ws⟩ ins).2:Nat):Int), .int .i64 (((dK p ⟨fs,d.1,ws⟩ ins).2.visits:Nat):Int)])∧(k=9→cQ H b8 [sh.val, .int .i64 (((dK p ⟨fs,d.1,ws⟩ ins).2.steps:Nat):Int), .int .i64 ((kX (dK p ⟨fs,d.1,ws⟩ ins).2:Nat):Int), .int .i64 (((dK p ⟨fs,d.1,ws⟩ ins).2.visits:Nat):Int)])) (af_ 0 (q:=cD fun H hH=>fla) (k:=?_))
  refine cE 1 rfl rfl (a8) rfl (cD fun H hH=>ak) (?_)
  refine af_ 2 (q:=cD fun H hH=>isb) (k:=af_ 3 (q:=cD fun H hH=>fla) (k:=?_))
  refine cE 4 rfl rfl (a8) rfl (cD fun H hH=>ar) (?_)
  refine af_ 5 (q:=cD fun H hH=>isb) (k:=af_ 6 (q:=cD fun H hH=>mv) (k:=?_))
  refine cE 7 rfl rfl (a8) rfl (cD fun H hH=>ui rfl ((w9 more:Nat):Int) (Ez more)) (?_)
  refine af_ 8 (q:=cD fun H hH=>fla) (k:=?_)
  refine cE 9 rfl rfl (a8) rfl (cD fun H hH=>aZ) (?_)
  refine cE 10 rfl rfl (a8) rfl (cD fun H hH=>cU 18446744073709551616 rfl rfl rfl (dK p ⟨fs,d.1,ws⟩ ins).2.steps rfl (aa)) (?_)
  refine cE 11 rfl rfl (a8) rfl (cD fun H hH=>evq (kG rfl rfl (w9 more) (dK p ⟨fs,d.1,ws⟩ ins).2.steps rfl rfl hst0) (congrArg (fun n:Nat=> Value.int .u64 (n:Int)) hrm.symm)) (?_)
  refine cE 12 rfl rfl (a8) rfl (cD fun H hH=>dy rfl (aa)) (?_)
  refine af_ 13 (q:=cD fun H hH=>isb) (k:=af_ 16 (q:=cD fun H hH=>mv) (k:=?_))
  refine cN 14 rfl (a8) rfl (fun k hk=> ⟨fun hi=> ab,fun hi=> ab,fun hi=> ab⟩) (qI eI rfl rfl rfl rfl rfl) ?_
  rintro _ _ ⟨s122,rfl,rfl⟩
  refine cN 15 rfl (a8) rfl (fun k hk=> ⟨fun hi=> ab,fun hi=> ab,fun hi=> ab⟩) (Ev.st lnn) ?_
  rintro _ _ ⟨rfl,rfl⟩
  refine db (a8) (fun k hk=> ⟨fun hi=> ab,fun hi=> ab,fun hi=> ab⟩) (qn_ (wb_ (dt (Nat) (fun y=> y≤4) (fun y=> [(124, .int .i64 ((y:Nat):Int))]) [(2,_),(5,_),(8,_),(10,_),(122,_),(123,_)] (fun y=> []) _ (fun y=> 4 - y) (0) (h0:=?_) (k:=?_))))
  ·try dsimp only
   exact Yl _
  rintro i hi
  try dsimp only[Yd,Ye]at*
  refine ws_ (wr_ (e_ ilt (k:=on_ (qn_ (ws_ (wi_ (k:=fun h11=>?_) (m:=fun h11=>?_)))))))
  ·have hi4:i<4:=by have h9:=h11;simp at h9;omega
   obtain⟨fu,hfu⟩:∃fu,([(((dK p ⟨fs,d.1,ws⟩ ins).2.steps:Nat):Int) - 1,0, -9223372036854775808,(((dK p ⟨fs,d.1,ws⟩ ins).2.steps:Nat):Int) - 1 - ((rm:Nat):Int)]:List Int)[i]? =some fu:=⟨_,Yi (by have h9:=h11;simp at h9⊢;omega)⟩
   have hfb:fu.toNat<(dK p ⟨fs,d.1,ws⟩ ins).2.steps:=by
    have h8:=Yj hfu
    simp only[List.mem_cons,List.not_mem_nil,or_false]at h8
    rcases h8 with rfl|rfl|rfl|rfl <;> omega
   refine wk_ (qn_ (ws_ (wb_ (ws_ (wr_ (e_ ixa (k:=e_ (lel (hy:=hfu)) (k:=e_ asn (k:=on_ (qn_ (ws_ (wr_ (e_ fla (k:=?_))))))))))))))
   refine e_ lds (k:=e_ mv (k:=e_ mv (k:=?_)))
   refine d3_ rfl (NV (a:=a) (p:=p) (pt:=pt) hSI hCI hk hnw hfb) (k:=e_ mv (k:=e_ exr (k:=e_ exr (k:=alc (k:=fun b15=>?_)))))
   refine sto (k:=e_ asn (k:=on_ (qn_ (ws_ (wr_ (e_ mv (k:=?_)))))))
   refine d1_ rfl (Ar 21) (k:=e_ ine (k:=e_ mv (k:=dN 5 144 (k:=fun h12=>eg_ lds (k:=eg_ (bld []) (k:=kK (vs:=[_,_]) (hc:=(By (s:=SV.nil) (s2:=SV.nil) (xs:= []) (ys:= []) (ag))) (k:=eg_ k8 (k:=e_ pkf (k:=on_ (edq))))))) (q:=on_ (qn_ (wi_ (k:=fun h13=>?_) (m:=fun h13=>?_)))))))
   ·exact absurd h13 (by simp[Jz])
   refine wk_ (bn_ (qn_ (wr_ (e_ iad (k:=e_ mv (k:=on_ (?_)))))))
   refine ln_ (i+1) (k:=?_)
   try dsimp only
   exact hi4
  refine we_ (qe_ (le_ (bh_ (qn_ (ws_ (ws_ (wr_ (e_ fla (k:=e_ ldv (k:=e_ lnn (k:=e_ mv (k:=on_ (qn_ (?_))))))))))))))
  refine wb_ (dt (Nat×MS×Nat) (fun y=> y.1≤(dK p ⟨fs,d.1,ws⟩ ins).1.length∧uE (cS p ⟨fs,d.1,ws⟩ ins) y.2.2 y.2.1∧jO (cS p ⟨fs,d.1,ws⟩ ins) (iQ p ⟨fs,d.1,ws⟩) y.2.1∧kS (cS p ⟨fs,d.1,ws⟩ ins) y.2.2 y.2.1=((dK p ⟨fs,d.1,ws⟩ ins).1.drop y.1,(dK p ⟨fs,d.1,ws⟩ ins).2)) (fun y=> [(149, .int .i64 ((y.1:Nat):Int))]) [(8,_),(10,_),(147,_),(148,_)] (fun y=> [Ma m (⟨a',p.all,sc,pt,u,bs⟩,y.2.1)]) _ (fun y=> (dK p ⟨fs,d.1,ws⟩ ins).1.length - y.1) ((0,lh (iQ p ⟨fs,d.1,ws⟩),(cS p ⟨fs,d.1,ws⟩ ins).ids.length+1)) (h0:=?_) (k:=?_))
  ·try dsimp only
   exact⟨Yl _,pA hms0.lo,hms0,rfl⟩
  rintro⟨i,sa,f⟩ ⟨hi,hlf,hsa,hall⟩
  try dsimp only[Yd,Ye]at*
  obtain⟨f9,rfl⟩:∃g,f=g+1:=⟨f - 1,by have:=hlf.one;omega⟩
  obtain⟨hsB,_⟩:=tJ hro.dr hro.few hsa
  have hrl:=sq (ins:=ins) hk
  refine ws_ (wr_ (e_ ilt (k:=on_ (qn_ (ws_ (wi_ (k:=fun h14=>?_) (m:=fun h14=>?_)))))))
  ·obtain⟨hh,hhe⟩:∃hh,(dK p ⟨fs,d.1,ws⟩ ins).1[i]? =some hh:=⟨_,Yi (by have h9:=h14;omega)⟩
   rw[dF hhe]at hall
   obtain⟨hn1,hn2⟩:=all_cons hall
   have hlf2:=hlf.next hro.dr hro.few hsa hn1
   refine wk_ (qn_ (ws_ (wb_ (ws_ (wr_ (e_ ixa (k:=e_ (jn (hy:=hhe)) (k:=alc (k:=fun b18=>?_)))))))))
   refine sto (k:=on_ (qn_ (ws_ (wr_ (e_ mv (k:=?_))))))
   refine d1_ rfl (EW hSI hCI hro hsa hn1) (k:=e_ mv (k:=e_ exr (k:=e_ exr (k:=alc (k:=fun b19=>?_)))))
   refine sto (k:=e_ asn (k:=on_ (qn_ (ws_ (wr_ (e_ mv (k:=e_ k8 (k:=e_ mv (k:=eg_ lds (k:=eg_ lds (k:=?_)))))))))))
   refine eg_ (ph hh hh rfl rfl) (k:=?_)
   refine e_ pkf (k:=on_ (qn_ (wi_ (k:=fun h15=>?_) (m:=fun h15=>?_))))
   ·exact absurd h15 (an)
   refine wk_ (bn_ (qn_ (wr_ (e_ iad (k:=e_ mv (k:=on_ (?_)))))))
   refine ln_ ((i+1,(dV (cS p ⟨fs,d.1,ws⟩ ins) sa).2,f9)) (k:=?_)
   try dsimp only
   exact⟨aa,hlf2,hsB,hn2⟩
  obtain rfl:i=(dK p ⟨fs,d.1,ws⟩ ins).1.length:=by have h9:=h14;omega
  rw[List.drop_length]at hall
  have hnz:=all_nil hall
  have hz1:=congrArg Prod.fst hnz
  have hz2:=congrArg Prod.snd hnz
  dsimp only at hz1 hz2
  refine we_ (qe_ (le_ (bh_ (qn_ (ws_ (wr_ (e_ mv (k:=?_))))))))
  refine d1_ rfl (EV hSI hCI hro hsa hz1) (k:=?_)
  rw[hz2]
  rw[hz2]at hsB
  refine e_ mv (k:=e_ exr (k:=e_ exr (k:=alc (k:=fun b21=>?_))))
  refine sto (k:=e_ asn (k:=on_ (qn_ (ws_ (wr_ (e_ mv (k:=?_)))))))
  refine d1_ rfl (pI hro hsB) (k:=e_ mv (k:=e_ exr (k:=e_ exr (k:=e_ exr (k:=e_ asn (k:=e_ asn (k:=e_ asn (k:=on_ (qn_ (ws_ (wr_ (e_ mv (k:=e_ k8 (k:=?_))))))))))))))
  refine e_ mv (k:=eg_ lds (k:=eg_ (bld []) (k:=?_)))
  refine eg_ (uh (0,0) (0,0) rfl rfl) (k:=?_)
  refine e_ pkt (k:=e_ mv (k:=dh 5 189 (k:=fun h16=>eg_ mv (k:=eg_ fla (k:=eg_ ldv (k:=eg_ ieq (k:=e_ pkt (k:=on_ (edq))))))) (q:=e_ mv (k:=dh 5 195 (k:=fun h17=>eg_ mv (k:=eg_ fla (k:=eg_ ldv (k:=eg_ ieq (k:=e_ pkt (k:=on_ (edq))))))) (q:=e_ mv (k:=dh 5 201 (k:=fun h18=>eg_ mv (k:=eg_ fla (k:=eg_ ldv (k:=eg_ ieq (k:=e_ pkt (k:=on_ (edq))))))) (q:=e_ asn (k:=on_ (qn_ (wt_ (rt_ Tryz.results3 (k:=?_))))))))))))
  refine⟨_,hsb,?_,rfl⟩
  simp[gF,hz2]
 refine wk_ (qn_ (ws_ (ws_ (wr_ (e_ fla (k:=e_ ldv (k:=e_ lnn (k:=e_ mv (k:=on_ (qn_ (wb_ (dt (Nat×MS×Nat) (fun y=> y.1≤(dK p ⟨fs,d.1,ws⟩ ins).1.length∧uE (cS p ⟨fs,d.1,ws⟩ ins) y.2.2 y.2.1∧jO (cS p ⟨fs,d.1,ws⟩ ins) (iQ p ⟨fs,d.1,ws⟩) y.2.1∧kS (cS p ⟨fs,d.1,ws⟩ ins) y.2.2 y.2.1=((dK p ⟨fs,d.1,ws⟩ ins).1.drop y.1,(dK p ⟨fs,d.1,ws⟩ ins).2)) (fun y=> [(149, .int .i64 ((y.1:Nat):Int))]) [(8,_),(10,_),(147,_),(148,_)] (fun y=> [Ma m (⟨a',p.all,sc,pt,u,bs⟩,y.2.1)]) _ (fun y=> (dK p ⟨fs,d.1,ws⟩ ins).1.length - y.1) ((0,lh (iQ p ⟨fs,d.1,ws⟩),(cS p ⟨fs,d.1,ws⟩ ins).ids.length+1)) (h0:=?_) (k:=?_)))))))))))))
 ·try dsimp only
  exact⟨Yl _,pA hms0.lo,hms0,rfl⟩
 rintro⟨i,sa,f⟩ ⟨hi,hlf,hsa,hall⟩
 try dsimp only[Yd,Ye]at*
 obtain⟨f9,rfl⟩:∃g,f=g+1:=⟨f - 1,by have:=hlf.one;omega⟩
 obtain⟨hsB,_⟩:=tJ hro.dr hro.few hsa
 have hrl:=sq (ins:=ins) hk
 refine ws_ (wr_ (e_ ilt (k:=on_ (qn_ (ws_ (wi_ (k:=fun h19=>?_) (m:=fun h19=>?_)))))))
 ·obtain⟨hh,hhe⟩:∃hh,(dK p ⟨fs,d.1,ws⟩ ins).1[i]? =some hh:=⟨_,Yi (by have h9:=h19;omega)⟩
  rw[dF hhe]at hall
  obtain⟨hn1,hn2⟩:=all_cons hall
  have hlf2:=hlf.next hro.dr hro.few hsa hn1
  refine wk_ (qn_ (ws_ (wb_ (ws_ (wr_ (e_ ixa (k:=e_ (jn (hy:=hhe)) (k:=alc (k:=fun b18=>?_)))))))))
  refine sto (k:=on_ (qn_ (ws_ (wr_ (e_ mv (k:=?_))))))
  refine d1_ rfl (EW hSI hCI hro hsa hn1) (k:=e_ mv (k:=e_ exr (k:=e_ exr (k:=alc (k:=fun b19=>?_)))))
  refine sto (k:=e_ asn (k:=on_ (qn_ (ws_ (wr_ (e_ mv (k:=e_ k8 (k:=e_ mv (k:=eg_ lds (k:=eg_ lds (k:=?_)))))))))))
  refine eg_ (ph hh hh rfl rfl) (k:=?_)
  refine e_ pkf (k:=on_ (qn_ (wi_ (k:=fun h20=>?_) (m:=fun h20=>?_))))
  ·exact absurd h20 (an)
  refine wk_ (bn_ (qn_ (wr_ (e_ iad (k:=e_ mv (k:=on_ (?_)))))))
  refine ln_ ((i+1,(dV (cS p ⟨fs,d.1,ws⟩ ins) sa).2,f9)) (k:=?_)
  try dsimp only
  exact⟨aa,hlf2,hsB,hn2⟩
 obtain rfl:i=(dK p ⟨fs,d.1,ws⟩ ins).1.length:=by have h9:=h19;omega
 rw[List.drop_length]at hall
 have hnz:=all_nil hall
 have hz1:=congrArg Prod.fst hnz
 have hz2:=congrArg Prod.snd hnz
 dsimp only at hz1 hz2
 refine we_ (qe_ (le_ (bh_ (qn_ (ws_ (wr_ (e_ mv (k:=?_))))))))
 refine d1_ rfl (EV hSI hCI hro hsa hz1) (k:=?_)
 rw[hz2]
 rw[hz2]at hsB
 refine e_ mv (k:=e_ exr (k:=e_ exr (k:=alc (k:=fun b21=>?_))))
 refine sto (k:=e_ asn (k:=on_ (qn_ (ws_ (wr_ (e_ mv (k:=?_)))))))
 refine d1_ rfl (pI hro hsB) (k:=e_ mv (k:=e_ exr (k:=e_ exr (k:=e_ exr (k:=e_ asn (k:=e_ asn (k:=e_ asn (k:=on_ (qn_ (ws_ (wr_ (e_ mv (k:=e_ k8 (k:=?_))))))))))))))
 refine e_ mv (k:=eg_ lds (k:=eg_ (bld []) (k:=?_)))
 refine eg_ (uh (0,0) (0,0) rfl rfl) (k:=?_)
 refine e_ pkt (k:=e_ mv (k:=dh 5 189 (k:=fun h21=>eg_ mv (k:=eg_ fla (k:=eg_ ldv (k:=eg_ ieq (k:=e_ pkt (k:=on_ (edq))))))) (q:=e_ mv (k:=dh 5 195 (k:=fun h22=>eg_ mv (k:=eg_ fla (k:=eg_ ldv (k:=eg_ ieq (k:=e_ pkt (k:=on_ (edq))))))) (q:=e_ mv (k:=dh 5 201 (k:=fun h23=>eg_ mv (k:=eg_ fla (k:=eg_ ldv (k:=eg_ ieq (k:=e_ pkt (k:=on_ (edq))))))) (q:=e_ asn (k:=on_ (qn_ (wt_ (rt_ Tryz.results3 (k:=?_))))))))))))
 refine⟨_,hsb,?_,rfl⟩
 simp[gF,hz2]
end Go.Sx
