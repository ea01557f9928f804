import Derived.Test.YtcbidldebfibkaaGreatDoorQ39
import Derived.Shelf.Sort.Plain
import Derived.Shelf.Slices.In.SortNone
import Derived.Shelf.Strings.Fields
import Derived.Test.YtcbidldebfibkaaGreatDoorProg
set_option linter.unusedVariables false
set_option linter.unusedSimpArgs false
set_option linter.unusedSectionVars false
set_option linter.unnecessarySimpa false
set_option maxHeartbeats 0
namespace Go.Sx
open Go Go.Proofs
set_option maxRecDepth 100000
theorem zG {G:cM}{H:cG}{sf sp sf2 sp2:SV}{fs:List FV}{lp lp2:List (SV×SV)}{ps:Pcs}{n:Int} [Sl H sf eF fs] [hsp:Sl H sp eP lp] [Sl H sf2 eF fs] [hsp2:Sl H sp2 eP lp2] (hP:iA H lp ps) (hP2:iA H lp2 ps) (hk:sH ps) (hn:fs.length≤1000000) (hpl:ps.length≤1000000000):
 SC G Tryz.prog 14 [.agg [sf.val, .int .i64 n,sp.val].toArray, .agg [sf2.val, .int .i64 n,sp2.val].toArray] H (fun v H'=> v= .bool true∧H'=H):=
 (zH hP hP2 (fun p hp=> (hk p hp).1) (fun p hp=> (hk p hp).1) (fun p hp=> by have:=(hk p hp).2.2.2;omega) (a8) (a8)).mono fun v H' h=> ⟨by rw[h.1];simp,h.2⟩
section
variable {G:cM}{H:cG}{s:SV}{xs:List Nat}{fs:List FV}{n:Nat}{ps:Pcs}
theorem Fi {i e:Nat} [hg:Glb G H] [sI G] [Tab H 26 ig] [Tab H 24 fF] [hs:Sl H s eB xs] [Spc H] (hT:gE G) (hS:kh) (hn:xs.length≤2000000) (hb:∀x∈xs,x<256) (hu:unE xs=some (fs,n,ps)) (hgo:goE fs ((n:Nat):Int) 0 (-1) ps=some (i,e)):
 SC G Tryz.prog 7 [s.val] H (fun v H'=> v= .bool true∧H'=H):=by
 obtain⟨hc,hnx,hok,hpl,hsum⟩:=AR hb (a8) hu
 have hsz:=pL hb hu
 obtain⟨hc1,hc2⟩:=eG hc
 refine sWk Tryz.func7 Tryz.ntmps7 ?_
 refine ws_ (wr_ (e_ asn (k:=on_ (qn_ (ws_ (ws_ (wr_ (?_))))))))
 refine d0_ rfl (wS) (k:=e_ oQ (k:=on_ (qn_ (wi_ (k:=fun h1=>?_) (m:=fun h1=>?_)))))
 ·exact absurd h1 (ag)
 refine wk_ (qn_ (ws_ (wr_ (e_ mv (k:=?_)))))
 refine c1_ rfl (E3 hu (a8) hb) (k:=?_)
 rintro _ _ ⟨lp,F,sf,sp,hP,rfl,rfl⟩
 refine e_ mv (k:=e_ exr (k:=e_ exr (k:=alc (k:=fun b3=>?_))))
 refine sto (k:=e_ asn (k:=on_ (qn_ (ws_ (wr_ (e_ mv (k:=?_)))))))
 refine c1_ rfl (oh hu (a8) hb) (k:=?_)
 rintro _ _ ⟨lp2,F2,sf2,sp2,hP2,rfl,rfl⟩
 refine e_ mv (k:=e_ exr (k:=e_ exr (k:=alc (k:=fun b5=>?_))))
 refine sto (k:=e_ asn (k:=on_ (qn_ (ws_ (ws_ (wr_ (e_ mv (k:=?_))))))))
 refine d1_ rfl (EU) (k:=e_ mv (k:=e_ ine (k:=e_ mv (k:=dQ 5 32 (k:=fun h2=>eg_ lds (k:=eg_ lds (k:=gU (vs:=[_,_]) (hc:=(zG (fs:=fs) (lp:=lp) (lp2:=lp2) (ps:=ps) (hP.ext (fun _ _ h=> inferInstance) (fun _ _ h=> inferInstance)) (hP2.ext (fun _ _ h=> inferInstance) (fun _ _ h=> inferInstance)) hok (a8) (a8))) (k:=eg_ oQ (k:=e_ pkf (k:=on_ (edq))))))) (q:=on_ (qn_ (wi_ (k:=fun h3=>?_) (m:=fun h3=>?_))))))))
 ·exact absurd h3 (aj)
 refine wk_ (qn_ (ws_ (ws_ (wr_ (e_ mv (k:=e_ ine (k:=on_ (qn_ (dw (k:=wk_ (qn_ (ws_ (wr_ (?_))))))))))))))
 refine e_ lds (k:=?_)
 refine c1_ rfl (Jl (fs:=fs) (lp:=lp) (ps:=ps) (n:=((n:Nat):Int)) (hP.ext (fun _ _ h=> inferInstance) (fun _ _ h=> inferInstance)) hc (a8) (a8) (a8) (fun q hq=> ⟨cA,(hsz q hq).2.1,cm⟩)) (k:=?_)
 rintro _ _ (⟨i',e',hg1,he,rfl,rfl⟩|⟨hg1,_⟩)
 ·rw[hgo]at hg1
  simp only[Option.some.injEq,Prod.mk.injEq]at hg1
  obtain⟨rfl,rfl⟩:=hg1
  have hne:=u9 he
  refine e_ mv (k:=e_ exr (k:=e_ exr (k:=e_ exr (k:=e_ asn (k:=e_ asn (k:=e_ asn (k:=on_ (qn_ (ws_ (ws_ (wr_ (e_ mv (k:=e_ ine (k:=?_))))))))))))))
  refine on_ (qn_ (wi_ (k:=fun h4=>?_) (m:=fun h4=>?_)))
  ·refine ws_ (wr_ (e_ mv (k:=e_ mv (k:=e_ mv (k:=?_)))))
   refine d3_ rfl (DW hT hS hn hb hu hgo) (k:=e_ asn (k:=on_ (qn_ (wt_ (qr_ (rt_ Tryz.results7 (k:=?_)))))))
   exact⟨_,hsb,rfl,rfl⟩
  exact absurd h4 hne
 exfalso;rw[hgo]at hg1;cases hg1
theorem Fg [hg:Glb G H] [sI G] [Tab H 26 ig] [Tab H 24 fF] [qO H 25 tzT] [hs:Sl H s eB xs] [Spc H] (hT:gE G) (hS:kh) (hn:xs.length≤2000000) (hb:∀x∈xs,x<256) (hu:unE xs=some (fs,n,ps)) (hgo:goE fs ((n:Nat):Int) 0 (-1) ps=none):
 SC G Tryz.prog 7 [s.val] H (fun v H'=> v= .bool true∧H'=H):=by
 obtain⟨hc,hnx,hok,hpl,hsum⟩:=AR hb (a8) hu
 have hsz:=pL hb hu
 obtain⟨hc1,hc2⟩:=eG hc
 have hne:fs≠ []:=fun h=> by rw[h]at hc1;simp at hc1
 refine sWk Tryz.func7 Tryz.ntmps7 ?_
 refine ws_ (wr_ (e_ asn (k:=on_ (qn_ (ws_ (ws_ (wr_ (?_))))))))
 refine d0_ rfl (wS) (k:=e_ oQ (k:=on_ (qn_ (wi_ (k:=fun h1=>?_) (m:=fun h1=>?_)))))
 ·exact absurd h1 (ag)
 refine wk_ (qn_ (ws_ (wr_ (e_ mv (k:=?_)))))
 refine c1_ rfl (E3 hu (a8) hb) (k:=?_)
 rintro _ _ ⟨lp,F,sf,sp,hP,rfl,rfl⟩
 refine e_ mv (k:=e_ exr (k:=e_ exr (k:=alc (k:=fun b3=>?_))))
 refine sto (k:=e_ asn (k:=on_ (qn_ (ws_ (wr_ (e_ mv (k:=?_)))))))
 refine c1_ rfl (oh hu (a8) hb) (k:=?_)
 rintro _ _ ⟨lp2,F2,sf2,sp2,hP2,rfl,rfl⟩
 refine e_ mv (k:=e_ exr (k:=e_ exr (k:=alc (k:=fun b5=>?_))))
 refine sto (k:=e_ asn (k:=on_ (qn_ (ws_ (ws_ (wr_ (e_ mv (k:=?_))))))))
 refine d1_ rfl (EU) (k:=e_ mv (k:=e_ ine (k:=e_ mv (k:=dQ 5 32 (k:=fun h2=>eg_ lds (k:=eg_ lds (k:=gU (vs:=[_,_]) (hc:=(zG (fs:=fs) (lp:=lp) (lp2:=lp2) (ps:=ps) (hP.ext (fun _ _ h=> inferInstance) (fun _ _ h=> inferInstance)) (hP2.ext (fun _ _ h=> inferInstance) (fun _ _ h=> inferInstance)) hok (a8) (a8))) (k:=eg_ oQ (k:=e_ pkf (k:=on_ (edq))))))) (q:=on_ (qn_ (wi_ (k:=fun h3=>?_) (m:=fun h3=>?_))))))))
 ·exact absurd h3 (aj)
 refine wk_ (qn_ (ws_ (ws_ (wr_ (e_ mv (k:=e_ ine (k:=on_ (qn_ (dw (k:=wk_ (qn_ (ws_ (wr_ (?_))))))))))))))
 refine e_ lds (k:=?_)
 refine c1_ rfl (Jl (fs:=fs) (lp:=lp) (ps:=ps) (n:=((n:Nat):Int)) (hP.ext (fun _ _ h=> inferInstance) (fun _ _ h=> inferInstance)) hc (a8) (a8) (a8) (fun q hq=> ⟨cA,(hsz q hq).2.1,cm⟩)) (k:=?_)
 rintro _ _ (⟨i',e',hg1,he,rfl,rfl⟩|⟨hg1,br,s1,sh,gs,rfl,hq1,ho1,rfl⟩)
 ·exfalso;rw[hgo]at hg1;cases hg1
 refine e_ mv (k:=e_ exr (k:=e_ exr (k:=e_ exr (k:=e_ asn (k:=e_ asn (k:=e_ asn (k:=on_ (qn_ (ws_ (ws_ (wr_ (e_ mv (k:=e_ ine (k:=?_))))))))))))))
 refine on_ (qn_ (dw (k:=wk_ (qn_ (ws_ (wr_ (e_ mv (k:=?_))))))))
 refine c1_ rfl (Mo hT hS hn hb hu hgo) (k:=?_)
 rintro _ _ ⟨be,s1',sh',hgs,rfl,hq2,ho2,rfl⟩
 have hgl:gs.length=ps.length:=by rw[←hq1,Yh]
 have hhl:hgs.length=ps.length:=by rw[←hq2,Yh]
 have hgb:∀g∈gs,g.xs.length≤2000000∧(∀x∈g.xs,x<256)∧g.dead.length≤100000000:=fun g hg=> by
  have hm:qgQ g∈ps:=hq1 ▸ List.mem_map_of_mem hg
  obtain⟨a1,a2,a3⟩:=hsz _ hm
  exact⟨Xi a1 hn,a2,Xi a3 (a8)⟩
 have hhb:∀h∈hgs,h.g.xs.length≤1000000000∧h.dead.length≤100000000:=fun h hh=> by
  have hm:hgQ h∈ps:=hq2 ▸ List.mem_map_of_mem hh
  obtain⟨a1,a2,a3⟩:=hsz _ hm
  exact⟨Xi a1 (a8),Xi a3 (a8)⟩
 refine e_ mv (k:=e_ exr (k:=e_ exr (k:=e_ asn (k:=e_ asn (k:=on_ (qn_ (ws_ (ws_ (wr_ (e_ mv (k:=?_)))))))))))
 refine e_ (cN rfl) (k:=?_)
 refine e_ mv (k:=eg_ mv (k:=?_))
 refine eg_ (uF rfl) (k:=?_)
 refine e_ pkf (k:=on_ (qn_ (dw (k:=wk_ (qn_ (ws_ (wr_ (e_ mv (k:=?_)))))))))
 refine c1_ rfl (FZ (fs:=fs) (hs:=hgs) hne (a8) ho2 (a8) hhb) (k:=?_)
 rintro _ _ ⟨sf3,sp3,xl,rfl,hx3,rfl⟩
 refine e_ mv (k:=?_)
 refine dE (H':=Vr br [s1.val, .int .i64 ((n:Nat):Int),sh.val,SV.nil.val, .bool true]::Row s1 eF fs::Row sh eP (gs.map qgV)::Cl qgH gs::Row sf3 eF fs::Row sp3 eP (xl.map xgV)::Cl xgH xl::H) (hsb) ?_
 refine c1_ rfl (Ki (fs:=fs) (gs:=gs) hc ho1 (a8) hgb) (k:=?_)
 rintro _ _ ⟨sf4,sp4,xl4,rfl,hx4,rfl⟩
 have hP3:iA (Row sf4 eF fs::Row sp4 eP (xl4.map xgV)::Cl xgH xl4::Row sf3 eF fs::Row sp3 eP (xl.map xgV)::Cl xgH xl::H) (xl.map xgV) ps:=by rw[←hq2,←hx3];exact Ja inferInstance
 have hP4:iA (Row sf4 eF fs::Row sp4 eP (xl4.map xgV)::Cl xgH xl4::Row sf3 eF fs::Row sp3 eP (xl.map xgV)::Cl xgH xl::H) (xl4.map xgV) ps:=by rw[←hq1,←hx4];exact Ja inferInstance
 refine d2_ rfl (zG (fs:=fs) (ps:=ps) hP3 hP4 hok (a8) (a8)) (k:=e_ asn (k:=on_ (qn_ (wt_ (rt_ Tryz.results7 (k:=?_))))))
 exact⟨_,hsb,rfl,rfl⟩
theorem Ff [hg:Glb G H] [sI G] [Tab H 26 ig] [Tab H 24 fF] [qO H 25 tzT] [hs:Sl H s eB xs] [Spc H] (hT:gE G) (hS:kh) (hn:xs.length≤2000000) (hb:∀x∈xs,x<256):SC G Tryz.prog 7 [s.val] H (fun v H'=> v= .bool true∧H'=H):=by
 cases hu:unE xs with
 |none=> exact Fh hu hn hb
 |some r=>
  obtain⟨fs,n,ps⟩:=r
  cases hgo:goE fs ((n:Nat):Int) 0 (-1) ps with
  |none=> exact Fg hT hS hn hb hu hgo
  |some p=>
   obtain⟨i,e⟩:=p
   exact Fi hT hS hn hb hu hgo
end
end Go.Sx
namespace Go.Proofs
open Go.Sx
open Go.Shelf
def Tryz.lays190_ren:Go.Shelf.Ren:=⟨fun| 190=> 177| 125=> 181| 258=> 197| 128=> 202| 129=> 203| 302=> 213| 303=> 214| 304=> 215| 305=> 216| 306=> 217| 307=> 218| 308=> 219| 309=> 220| 310=> 221| 333=> 229| 329=> 230| 330=> 231| 334=> 232| 335=> 233| 336=> 234| 344=> 243|n=> n,fun| 31=> 286| 9=> 9| 3=> 3| 46=> 60| 0=> 0| 51=> 146| 53=> 84| 4=> 4| 183=> 326| 182=> 325| 131=> 180| 5=> 5| 218=> 333| 222=> 312| 228=> 348| 229=> 112|n=> n,fun|n=> n⟩
theorem qN:Go.Proofs.Lays.n190 Tryz.prog Tryz.lays190_ren:={
 mixed:=aa
 f125:=Tryz.func181.trans (congrArg some (aa))
 f128:=Tryz.func202.trans (congrArg some (aa))
 f129:=Tryz.func203.trans (congrArg some (aa))
 f190:=Tryz.func177.trans (congrArg some (aa))
 f258:=Tryz.func197.trans (congrArg some (aa))
 f302:=Tryz.func213.trans (congrArg some (aa))
 f303:=Tryz.func214.trans (congrArg some (aa))
 f304:=Tryz.func215.trans (congrArg some (aa))
 f305:=Tryz.func216.trans (congrArg some (aa))
 f306:=Tryz.func217.trans (congrArg some (aa))
 f307:=Tryz.func218.trans (congrArg some (aa))
 f308:=Tryz.func219.trans (congrArg some (aa))
 f309:=Tryz.func220.trans (congrArg some (aa))
 f310:=Tryz.func221.trans (congrArg some (aa))
 f329:=Tryz.func230.trans (congrArg some (aa))
 f330:=Tryz.func231.trans (congrArg some (aa))
 f333:=Tryz.func229.trans (congrArg some (aa))
 f334:=Tryz.func232.trans (congrArg some (aa))
 f335:=Tryz.func233.trans (congrArg some (aa))
 f336:=Tryz.func234.trans (congrArg some (aa))
 f344:=Tryz.func243.trans (congrArg some (aa))
 t0:=Tryz.underlying0
 a0:=Tryz.isAgg0
 z0:=Tryz.sizeOf0
 v0:=Tryz.zeroValue0
 t3:=Tryz.underlying3
 a3:=Tryz.isAgg3
 z3:=Tryz.sizeOf3
 v3:=Tryz.zeroValue3
 t4:=Tryz.underlying4
 a4:=Tryz.isAgg4
 z4:=Tryz.sizeOf4
 v4:=Tryz.zeroValue4
 t5:=Tryz.underlying5
 a5:=Tryz.isAgg5
 z5:=Tryz.sizeOf5
 v5:=Tryz.zeroValue5
 t9:=Tryz.underlying9
 a9:=Tryz.isAgg9
 z9:=Tryz.sizeOf9
 v9:=Tryz.zeroValue9
 t31:=Tryz.underlying286
 a31:=Tryz.isAgg286
 z31:=Tryz.sizeOf286
 v31:=Tryz.zeroValue286
 t46:=Tryz.underlying60
 a46:=Tryz.isAgg60
 z46:=Tryz.sizeOf60
 v46:=Tryz.zeroValue60
 t51:=Tryz.underlying146
 a51:=Tryz.isAgg146
 z51:=Tryz.sizeOf146
 v51:=Tryz.zeroValue146
 t53:=Tryz.underlying84
 a53:=Tryz.isAgg84
 z53:=Tryz.sizeOf84
 v53:=Tryz.zeroValue84
 t131:=Tryz.underlying180
 a131:=Tryz.isAgg180
 z131:=Tryz.sizeOf180
 v131:=Tryz.zeroValue180
 t182:=Tryz.underlying325
 a182:=Tryz.isAgg325
 z182:=Tryz.sizeOf325
 v182:=Tryz.zeroValue325
 t183:=Tryz.underlying326
 a183:=Tryz.isAgg326
 z183:=Tryz.sizeOf326
 v183:=Tryz.zeroValue326
 t218:=Tryz.underlying333
 a218:=Tryz.isAgg333
 z218:=Tryz.sizeOf333
 v218:=Tryz.zeroValue333
 t222:=Tryz.underlying312
 a222:=Tryz.isAgg312
 z222:=Tryz.sizeOf312
 v222:=Tryz.zeroValue312
 t228:=Tryz.underlying348
 a228:=Tryz.isAgg348
 z228:=Tryz.sizeOf348
 v228:=Tryz.zeroValue348
 t229:=Tryz.underlying112
 a229:=Tryz.isAgg112
 z229:=Tryz.sizeOf112
 v229:=Tryz.zeroValue112}
open Go.Sort Go.RowKit in
theorem Tryz.slices_Sort_string (blk off cap:Nat) (ss:List (List UInt8)) (w:World) (hH:Holds encStr w blk off ss.toArray) (hblk:blk<w.heap.size) (hsz:ss.length<4611686018427387904):
 Calls Tryz.prog 177 #[.slice (some ⟨blk,off,none⟩) ss.length cap] w fun e w'=>
  e= .returned (.tuple #[])∧∃n os,w'=grow (putRow encStr (Sort.ahead w n) blk off (ss.mergeSort fun x y=> decide (x≤y)).toArray) os:=Any.slices_Sort_string qN blk off cap ss w hH hblk hsz
def Tryz.lays157_ren:Go.Shelf.Ren:=⟨fun| 157=> 228| 229=> 241| 199=> 242| 261=> 246| 311=> 247| 312=> 248|n=> n,fun| 9=> 9| 31=> 286| 3=> 3| 5=> 5| 4=> 4| 119=> 345| 0=> 0| 40=> 347| 152=> 350| 21=> 21| 154=> 352| 51=> 146| 141=> 354| 196=> 358| 193=> 355| 198=> 361| 49=> 359| 194=> 356| 201=> 364| 226=> 366| 46=> 60| 227=> 367|n=> n,fun| 0=> 27| 6=> 28|n=> n⟩
theorem x9:Go.Proofs.Lays.n157 Tryz.prog Tryz.lays157_ren:={
 mixed:=aa
 f157:=Tryz.func228.trans (congrArg some (aa))
 f199:=Tryz.func242.trans (congrArg some (aa))
 f229:=Tryz.func241.trans (congrArg some (aa))
 f261:=Tryz.func246.trans (congrArg some (aa))
 f311:=Tryz.func247.trans (congrArg some (aa))
 f312:=Tryz.func248.trans (congrArg some (aa))
 t0:=Tryz.underlying0
 a0:=Tryz.isAgg0
 z0:=Tryz.sizeOf0
 v0:=Tryz.zeroValue0
 t3:=Tryz.underlying3
 a3:=Tryz.isAgg3
 z3:=Tryz.sizeOf3
 v3:=Tryz.zeroValue3
 t4:=Tryz.underlying4
 a4:=Tryz.isAgg4
 z4:=Tryz.sizeOf4
 v4:=Tryz.zeroValue4
 t5:=Tryz.underlying5
 a5:=Tryz.isAgg5
 z5:=Tryz.sizeOf5
 v5:=Tryz.zeroValue5
 t9:=Tryz.underlying9
 a9:=Tryz.isAgg9
 z9:=Tryz.sizeOf9
 v9:=Tryz.zeroValue9
 t21:=Tryz.underlying21
 a21:=Tryz.isAgg21
 z21:=Tryz.sizeOf21
 v21:=Tryz.zeroValue21
 t31:=Tryz.underlying286
 a31:=Tryz.isAgg286
 z31:=Tryz.sizeOf286
 v31:=Tryz.zeroValue286
 t40:=Tryz.underlying347
 a40:=Tryz.isAgg347
 z40:=Tryz.sizeOf347
 v40:=Tryz.zeroValue347
 t46:=Tryz.underlying60
 a46:=Tryz.isAgg60
 z46:=Tryz.sizeOf60
 v46:=Tryz.zeroValue60
 t49:=Tryz.underlying359
 a49:=Tryz.isAgg359
 z49:=Tryz.sizeOf359
 v49:=Tryz.zeroValue359
 t51:=Tryz.underlying146
 a51:=Tryz.isAgg146
 z51:=Tryz.sizeOf146
 v51:=Tryz.zeroValue146
 t119:=Tryz.underlying345
 a119:=Tryz.isAgg345
 z119:=Tryz.sizeOf345
 t141:=Tryz.underlying354
 a141:=Tryz.isAgg354
 z141:=Tryz.sizeOf354
 v141:=Tryz.zeroValue354
 t152:=Tryz.underlying350
 a152:=Tryz.isAgg350
 z152:=Tryz.sizeOf350
 v152:=Tryz.zeroValue350
 t154:=Tryz.underlying352
 a154:=Tryz.isAgg352
 z154:=Tryz.sizeOf352
 v154:=Tryz.zeroValue352
 t193:=Tryz.underlying355
 a193:=Tryz.isAgg355
 z193:=Tryz.sizeOf355
 v193:=Tryz.zeroValue355
 t194:=Tryz.underlying356
 a194:=Tryz.isAgg356
 z194:=Tryz.sizeOf356
 v194:=Tryz.zeroValue356
 t196:=Tryz.underlying358
 a196:=Tryz.isAgg358
 z196:=Tryz.sizeOf358
 v196:=Tryz.zeroValue358
 t198:=Tryz.underlying361
 a198:=Tryz.isAgg361
 z198:=Tryz.sizeOf361
 v198:=Tryz.zeroValue361
 t201:=Tryz.underlying364
 a201:=Tryz.isAgg364
 z201:=Tryz.sizeOf364
 v201:=Tryz.zeroValue364
 t226:=Tryz.underlying366
 a226:=Tryz.isAgg366
 z226:=Tryz.sizeOf366
 v226:=Tryz.zeroValue366
 t227:=Tryz.underlying367
 a227:=Tryz.isAgg367
 z227:=Tryz.sizeOf367
 v227:=Tryz.zeroValue367
 g0:=aa
 g6:=aa}
open Go.RowKit Go.Lib in
theorem Tryz.strings_Fields (s:ByteArray) (w:World) (hs:s.size<4294967281) (hascii:∀(j:Nat) b,s.data.toList[j]? =some b→b.toNat<128) (htab:Lib.TabIs Tryz.prog w "strings.asciiSpace" .u8 Lib.asciiSpaceTab):
 Calls Tryz.prog 228 #[.string s] w fun e w'=>
  e= .returned (.slice (some ⟨w.heap.size,0,none⟩) (Lib.fields s.data.toList).length (Lib.fields s.data.toList).length)∧w'=w.alloc (.cells ((Lib.fields s.data.toList).map fun l=> Value.string ⟨l.toArray⟩).toArray 9):=Any.strings_Fields x9 (aa) (aa) s w hs hascii htab
open Go.RowKit Go.Sort in
theorem Tryz.slices_Sort_string_none (p:Option Addr) (cap:Nat) (w:World):
 Calls Tryz.prog 177 #[.slice p 0 cap] w fun e w'=> e= .returned (.tuple #[])∧w'=w:=Any.slices_Sort_string_none qN p cap w
end Go.Proofs
namespace Go.Sx
open Go Go.Proofs
set_option maxRecDepth 100000
theorem LD:∀x y:List UInt8,x<y↔x.map (·.toNat)<y.map (·.toNat):=by
 intro x
 induction x with
 |nil=> intro y;cases y <;> simp
 |cons a x ih=>
  intro y
  cases y with
  |nil=> simp
  |cons b y=>
   simp only[List.map_cons,List.cons_lt_cons_iff,ih y,UInt8.lt_iff_toNat_lt,UInt8.toNat_inj]
def by8 (q:ByteArray):List UInt8:=q.data.toList
def un8 (l:List UInt8):ByteArray:=⟨l.toArray⟩
theorem GJ (q:ByteArray):un8 (by8 q)=q:=by cases q;simp[un8,by8]
theorem yY (l:List UInt8):cF (un8 l)=l.map (·.toNat):=by simp[cF,un8]
theorem zw (l:List (List UInt8)):(((l.mergeSort fun x y=> decide (x≤y)).map un8).map cF).Pairwise (fun a b=> ¬b<a):=by
 rw[List.map_map]
 refine List.pairwise_map.2 ?_
 have h:(l.mergeSort fun x y=> decide (x≤y)).Pairwise fun x y=> decide (x≤y)=true:=by
  refine List.pairwise_mergeSort (le:=fun x y=> decide (x≤y)) (fun a b c h1 h2=> ?_) (fun a b=> ?_) l
  ·simp only[decide_eq_true_eq]at h1 h2⊢;exact List.le_trans h1 h2
  ·simp only[Bool.or_eq_true,decide_eq_true_eq];exact List.le_total a b
 refine h.imp fun{a b} hab=> ?_
 simp only[Function.comp,yY,←LD]
 exact List.not_lt.2 (Yt hab)
theorem wY:∀ss:List ByteArray,eS.all ss=ss.map Value.string
 | []=> rfl
 |q::r=> by show Value.string q::eS.all r=_;rw[wY r];all_goals rfl
theorem CD {w:World}{L L':nD}(hp:L'.Perm L) (h:kD w L):kD w L':=⟨((hp.map (·.1)).nodup_iff).2 h.nodup,fun x hx=> h.at_ x (hp.mem_iff.1 hx)⟩
theorem DM:kh:=by
 intro G H R s ss hr hn
 refine⟨pV Tryz.func177 rfl (aa),fun w hw=> ?_⟩
 obtain⟨hS,L,hL,hl⟩:=hw
 obtain⟨L',hp,L1,L2,rfl,hRow,hR⟩:=hr.out L hL
 have hl':=CD hp hl
 rcases hRow with⟨rfl,rfl,rfl⟩|⟨b,C,E,fz,h1,h2,h3,rfl,h5,hf,h7⟩
 ·refine(Tryz.slices_Sort_string_none none 0 w).mono ?_
  rintro e w' ⟨rfl,rfl⟩
  exact⟨Row SV.nil eS []::R,⟨hS,L2,⟨[],L2,rfl, .inl ⟨rfl,rfl,rfl⟩,hR⟩,by simpa using hl'⟩,rfl, [], .refl _,List.Pairwise.nil,rfl⟩
 ·have hb:w.heap[b]? =some (.cells C E fz):=hl'.at_ (b, .cells C E fz) (aj)
  have hbl:b<w.heap.size:=(Array.getElem?_eq_some_iff.1 hb).1
  have hall:∀(j:Nat) (q:ByteArray),ss[j]? =some q→C[j]? =some (.string q):=fun j q hq=> h7 j _ (by
   have:=wY ss
   rw[this,Xd,hq];all_goals rfl)
  have hH:Go.Sort.Holds encStr w b 0 (ss.map by8).toArray:=by
   intro j hj
   have hj2:j<ss.length:=by simpa using hj
   have hjq:ss[j]? =some ss[j]:=Yi hj2
   have hC:=hall j _ hjq
   have hjC:=(Array.getElem?_eq_some_iff.1 hC).1
   constructor
   ·simp only[World.cell?,hb,Nat.zero_add]
    simp[hC,encStr,by8,hj2]
   ·simp only[World.frozen?,hb,Nat.zero_add]
    have:=hf.free j hjC
    simp only[Bool.and_eq_false_iff,decide_eq_false_iff_not]
    omega
  have hv: [s.val].toArray= #[Value.slice (some ⟨b,0,none⟩) (ss.map by8).length s.c]:=by
   simp only[SV.val,h1,h2,Yh]
  rw[hv]
  refine(Tryz.slices_Sort_string b 0 s.c (ss.map by8) w hH hbl (by rw[Yh];omega)).mono ?_
  rintro e w' ⟨rfl,n,os,rfl⟩
  obtain⟨ml,hml⟩:∃ml,ml=(ss.map by8).mergeSort fun x y=> decide (x≤y):=⟨_,rfl⟩
  have hmp:ml.Perm (ss.map by8):=by rw[hml];exact List.mergeSort_perm _ _
  have hmlen:ml.length=ss.length:=by rw[hmp.length_eq,Yh]
  rw[←hml]
  refine⟨Row s eS (ml.map un8)::R,?_,rfl,ml.map un8,?_,?_,rfl⟩
  ·refine⟨⟨hS.os,hS.tape,hS.output⟩, [(b, .cells (Go.Sort.putCells encStr 0 ml.toArray C) E fz)]++L2,⟨_,L2,rfl, .inr ⟨b,_,E,fz,h1,by simp[h2,hmlen],h3,rfl,by simp[Go.Sort.putCells,h5],by simpa [Go.Sort.putCells] using hf,?_⟩,hR⟩,?_⟩
   ·intro j v hv
    have:=wY (ml.map un8)
    rw[this,List.map_map,Xd]at hv
    cases hm:ml[j]? with
    |none=> rw[hm]at hv;cases hv
    |some q=>
     rw[hm]at hv
     obtain rfl:=Option.some.inj hv
     have hjl:=(Yk.1 hm).1
     obtain⟨q0,hq0⟩:∃q0,ss[j]? =some q0:=⟨_,Yi (a8)⟩
     have hC:=hall j q0 hq0
     have hjC:=(Array.getElem?_eq_some_iff.1 hC).1
     have hq:=(Yk.1 hm).2
     simp[Go.Sort.putCells,hjC,hjl,hq,un8]
   ·have hnd:=hl'.nodup
    simp only[List.map_append,List.map_cons,List.map_nil,Yd,Ye,List.nodup_cons]at hnd⊢
    refine⟨by simpa using hnd,fun x hx=> ?_⟩
    rcases List.mem_cons.1 hx with rfl|hx
    ·simp only[Go.Sort.grow,Go.Sort.putRow,Go.Sort.mapBlock,Go.Sort.ahead]
     rw[Array.getElem?_append_left (by simpa using hbl),Array.getElem?_modify,if_pos rfl,hb];all_goals rfl
    ·have hxb:b≠x.1:=fun h=> hnd.1 (h ▸ List.mem_map_of_mem hx)
     have hx2:=hl'.at_ x (by simp[hx])
     have hxl:=(Array.getElem?_eq_some_iff.1 hx2).1
     simp only[Go.Sort.grow,Go.Sort.putRow,Go.Sort.mapBlock,Go.Sort.ahead]
     rw[Array.getElem?_append_left (by simpa using hxl),Array.getElem?_modify,if_neg hxb,hx2]
  ·have h9:=hmp.map un8
   rw[List.map_map,show(un8∘by8)=id from funext GJ,List.map_id]at h9
   exact h9
  ·rw[hml];exact zw _
theorem Hi {H:cG} [hs:Spc H] {G:cM}{w:World}(hw:Sat G w H):Lib.TabIs Tryz.prog w "strings.asciiSpace" .u8 Lib.asciiSpaceTab:=by
 obtain⟨hS,L,hL,hl⟩:=hw
 obtain⟨E,fz,hm⟩:=hs.out L hL
 have h:=hl.at_ _ hm
 have hg:Tryz.prog.globalNamed "strings.asciiSpace" =some 27:=aa
 have ht:(Lib.asciiSpaceTab.map fun z=> Value.int .u8 z).toArray=((List.range 256).map fun i=> Value.int .u8 (if i=9∨i=10∨i=11∨i=12∨i=13∨i=32 then 1 else 0)).toArray:=by
  have e:Lib.asciiSpaceTab=(List.range 256).map fun i=> (if i=9∨i=10∨i=11∨i=12∨i=13∨i=32 then(1:Int)else 0):=an
  rw[e,List.map_map];all_goals rfl
 show w.var? Tryz.prog "strings.asciiSpace" =_
 simp only[World.var?,hg,Option.bind_some,h,ht]
theorem H9 {G:cM}{H:cG}{q:ByteArray} [Spc H] (hq:q.size<4294967281) (ha:∀b∈q.data.toList,b.toNat<128):SC G Tryz.prog 228 [.string q] H (fun v H'=> ∃s:SV,v=s.val∧H'=Row s eS ((Lib.fields q.data.toList).map un8)::H):=by
 refine⟨pV Tryz.func228 rfl (aa),fun w hw=> ?_⟩
 refine(Tryz.strings_Fields q w hq (fun j b hb=> ha b (Yj hb)) (Hi hw)).mono ?_
 rintro e w' ⟨rfl,rfl⟩
 obtain⟨hS,L,hL,hl⟩:=hw
 refine⟨Row ⟨some ⟨w.heap.size,0,none⟩,(Lib.fields q.data.toList).length,(Lib.fields q.data.toList).length⟩ eS ((Lib.fields q.data.toList).map un8)::H,⟨⟨hS.os,hS.tape,hS.output⟩, [(w.heap.size, .cells ((Lib.fields q.data.toList).map fun l=> Value.string ⟨l.toArray⟩).toArray 9 (0,0))]++L,⟨_,L,rfl, .inr ⟨w.heap.size,_,9,(0,0),rfl,aj,Nat.le_refl _,rfl,by simp[eS], .inl rfl,fun j v hv=> ?_⟩,hL⟩,?_⟩,_,rfl,rfl⟩
 ·rw[wY,List.map_map]at hv
  simpa [un8,Function.comp_def] using hv
 ·have hlt:∀x∈L,x.1<w.heap.size:=fun x hx=> (Array.getElem?_eq_some_iff.1 (hl.at_ x hx)).1
  refine⟨?_,fun x hx=> ?_⟩
  ·simp only[List.map_append,List.map_cons,List.map_nil,Yd,Ye,List.nodup_cons]
   refine⟨fun hm=> ?_,hl.nodup⟩
   obtain⟨x,hx,he⟩:=List.mem_map.1 hm
   have:=hlt x hx
   omega
  ·rcases List.mem_append.1 hx with hx|hx
   ·simp only[List.mem_singleton]at hx;subst hx
    exact Array.getElem?_push_size
   ·have:=hlt x hx
    simp only[World.alloc]
    rw[Array.getElem?_push_lt this,←Array.getElem?_eq_getElem this];exact hl.at_ x hx
def xC:ByteArray:=⟨#[97,32,97,110,32,97,110,100,32,97,114,101,32,97,115,32,97,116,32,98,101,32,98,117,116,32,98,121,32,102,111,114,32,102,114,111,109,32,104,97,115,32,104,101,32,105,102,32,105,110,32,105,110,116,111,32,105,115,32,105,116,32,105,116,115,32,110,111,32,110,111,116,32,111,102,32,111,110,32,111,114,32,115,104,101,32,115,111,32,115,117,99,104,32,116,104,97,116,32,116,104,101,32,116,104,101,105,114,32,116,104,101,110,32,116,104,101,114,101,32,116,104,101,115,101,32,116,104,101,121,32,116,104,105,115,32,116,111,32,119,97,115,32,119,101,32,119,101,114,101,32,119,105,108,108,32,119,105,116,104,32,121,111,117]⟩
theorem zt:∀b∈xC.data.toList,b.toNat<128:=an
theorem C3:(((Lib.fields xC.data.toList).map fun l=> l.map (·.toNat)).isPerm im)=true:=an
theorem xB:im.Pairwise (fun a b=> ¬b<a):=an
theorem DB:(Lib.fields xC.data.toList).length≤1000:=an
theorem Hf {ss:List ByteArray}(hp:ss.Perm ((Lib.fields xC.data.toList).map un8)) (hs:(ss.map cF).Pairwise (fun a b=> ¬b<a)):ss=gW:=by
 have h1:(ss.map cF).Perm im:=by
  refine(hp.map cF).trans ?_
  rw[List.map_map,show(cF∘un8)=fun l:List UInt8=> l.map (·.toNat)from funext yY]
  exact List.isPerm_iff.1 C3
 have h2:ss.map cF=im:=List.Perm.eq_of_pairwise (le:=fun a b:List Nat=> ¬b<a) (fun a b _ _ h3 h4=> by
  by_cases e:a=b
  ·exact e
  ·exact absurd (ud h4 e) h3) hs xB h1
 have h3:ss.map cF=gW.map cF:=by rw[h2,lL]
 have h4:=congrArg (List.map dO) h3
 rw[List.map_map,List.map_map,show(dO∘cF)=id from funext jk,List.map_id,List.map_id]at h4
 exact h4
theorem Hd {G:cM}:gE G:=by
 intro H hH
 refine sWk Tryz.func211 Tryz.ntmps211 ?_
 refine go ?_
 refine c1_ rfl (H9 (q:=xC) (an) zt) (k:=?_)
 rintro _ _ ⟨s2,rfl,rfl⟩
 refine go ?_
 refine c1_ rfl (DM G _ _ s2 _ inferInstance (by rw[Yh];have:=DB;omega)) (k:=?_)
 rintro _ _ ⟨rfl,ss,hp,hso,rfl⟩
 rw[Hf hp hso]
 refine gk (k:=rt_ Tryz.results211 (k:=?_))
 exact⟨_,hsb,s2,rfl,rfl⟩
end Go.Sx
