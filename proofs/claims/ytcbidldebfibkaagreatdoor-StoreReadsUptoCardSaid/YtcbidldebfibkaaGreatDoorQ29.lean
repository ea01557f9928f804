import Derived.Test.YtcbidldebfibkaaGreatDoorQ28
set_option linter.unusedVariables false
set_option linter.unusedSimpArgs false
set_option linter.unusedSectionVars false
set_option linter.unnecessarySimpa false
set_option maxHeartbeats 0
namespace Go.Sx
open Go Go.Proofs
set_option maxRecDepth 100000
theorem K1 {G:cM}{H:cG}{s:SV}{fs:List FV} [hg:Glb G H] [hs:Sl H s eF fs] (hc:e7 fs=true):SC G Tryz.prog 35 [.agg [s.val].toArray] H (fun v H'=> ∃s':SV,v= .tuple #[s'.val, .nilIface]∧H'=Row s' eB (fq fs)::H):=
 (B1 (fs:=fs) (by have:=eG hc;omega) (fun f hf=> by have:=((eG hc).2 f hf).1;omega)).mono fun v H' h=> by
   rcases h with⟨h,_⟩|⟨_,h⟩
   ·rw[hc]at h;cases h
   ·exact h
theorem BO {G:cM}{H R:cG}{b:Nat}{s:SV}{xs:List Nat}{l:List Int} [hg:Glb G R] [hr:Rem H Wr b xs R] [Sl R s eI l] (hn:xs.length≤100000000000) (hm:l.length≤10000000000) (hl:∀x∈l,x≤9223372036854775807) (h1:iW l=false) (h2:rise l=true):SC G Tryz.prog 75 [.pointer (some ⟨b,0,none⟩),s.val] H (fun v H'=> v= .nilIface∧H'=Wr b (xs++(uv l.length++dz (-1) l))::R):=
 (AN hn hm hl).mono fun v H' h=> by
   rcases h with⟨h,_⟩|⟨_,h,_⟩|⟨_,_,h⟩
   ·rw[h1]at h;cases h
   ·rw[h2]at h;cases h
   ·exact h
theorem Mr {H R:cG}{zs:List (SV×List Nat)}{i:Nat}{z:SV×List Nat}(hr:mL H (Cl lnH zs) R) (h:zs[i]? =some z):Sl H z.1 eI (dg z.2):=fy (eV hr (Bn h)) inferInstance
theorem fL.less {H H':cG}{l:List (Int×SV)}{ds:List Doc}(hs:cK H' H) (h:fL H l ds):fL H' l ds:=⟨h.1,fun i p q hp hq=> by
 obtain⟨h1,h2⟩:=h.2 i p q hp hq
 exact⟨h1,fy hs h2⟩⟩
def nC (k:Nat):List SV→List (Nat×SV)
 | []=> []
 |s::l=> (k,s)::nC (k+1) l
theorem xw:∀(l:List SV) (k:Nat),(nC k l).length=l.length
 | [],_=> rfl
 |s::l,k=> by simp[nC,xw l]
theorem xx:∀{l:List SV}{k i:Nat}{s:SV},l[i]? =some s→(nC k l)[i]? =some (k+i,s)
 | [],_,_,_,h=> aR
 |q::l,k,0,s,h=> aZ
 |q::l,k,i+1,s,h=> by
  rw[Xc]at h
  rw[nC,Xc,xx h];congr 2;omega
theorem Ju {H:cG}{a b c d e f:SV}{p q r s t u:List Nat} [h1:Sl H a eB p] [h2:Sl H b eB q] [h3:Sl H c eB r] [h4:Sl H d eB s] [h5:Sl H e eB t] [h6:Sl H f eB u]:kL H (nC 1 [a,b,c,d,e,f]) [(1,p),(2,q),(3,r),(4,s),(5,t),(6,u)]:=⟨rfl,fun i x y hx hy=> by
 match i,hx,hy with
 | 0,hx,hy=> simp[nC]at hx hy;subst hx;subst hy;exact⟨rfl,h1⟩
 | 1,hx,hy=> simp[nC]at hx hy;subst hx;subst hy;exact⟨rfl,h2⟩
 | 2,hx,hy=> simp[nC]at hx hy;subst hx;subst hy;exact⟨rfl,h3⟩
 | 3,hx,hy=> simp[nC]at hx hy;subst hx;subst hy;exact⟨rfl,h4⟩
 | 4,hx,hy=> simp[nC]at hx hy;subst hx;subst hy;exact⟨rfl,h5⟩
 | 5,hx,hy=> simp[nC]at hx hy;subst hx;subst hy;exact⟨rfl,h6⟩
 |n+6,hx,hy=> simp[nC]at hx⟩
theorem JN {G:cM}{H R R2:cG}{g r:Nat}{fv dv lv:SV}{zs:List (SV×List Nat)}{fs:List FV}{l:List (Int×SV)}{ds:List Doc} [hg0:Glb G R] [Tab R 26 ig] [Tab R 24 fF] [hv:dh R g [fv.val,dv.val,lv.val, .map (some r)]] [hf:Sl R fv eF fs] [hd:Sl R dv eD l] [hl:Sl R lv eSV (zs.map (·.1))] [hz:mL R (Cl lnH zs) R2] [hr:Rem H iX r (gA fs ds) R] (hS:kh) (hok:ny fs ds) (hdi:fL R l ds) (hzs:zs.map (·.2)=(List.range fs.length).map (dT fs ds)):SC G Tryz.prog 129 [.pointer (some ⟨g,0,none⟩)] H (fun v H'=> ∃s:SV,v= .tuple #[s.val, .nilIface]∧H'=Row s eB (rb fs ds)::R):=by
 have hll:=hdi.1
 have hfl:=hok.flen
 have hfew:=hok.few
 obtain⟨hB1,hB2,hB3,hB4⟩:=hok.blocks
 have hid:∀x∈ds.map (·.1),x<1099511627776:=fun x hx=> by obtain⟨d,hd,rfl⟩:=List.mem_map.1 hx;exact hok.ids d hd
 have hidl:(ds.map (·.1)).length=l.length:=by rw[Yh,hll]
 have hzl:zs.length=fs.length:=by have:=congrArg List.length hzs;simpa using this
 have hzml:(zs.map (·.1)).length=fs.length:=by rw[Yh,hzl]
 have hsz:=hok.size
 refine SC.rem (h:=hr) ?_
 refine sWk Tryz.func129 Tryz.ntmps129 ?_
 refine go ?_
 refine c1_ rfl (K1 hok.chk) (k:=?_)
 rintro _ _ ⟨s25,rfl,rfl⟩
 refine e_ mv (k:=e_ exr (k:=e_ exr (k:=e_ asn (k:=e_ asn (k:=on_ (qn_ (ws_ (ws_ (wr_ (e_ mv (k:=?_)))))))))))
 refine e_ (cN rfl) (k:=?_)
 refine gk (k:=dw (k:=go ?_))
 refine c1_ rfl (JM (r:=r) hS hok.goodT hB3 hB4) (k:=?_)
 rintro _ _ ⟨sa,sb,rfl,rfl⟩
 refine e_ mv (k:=e_ exr (k:=e_ exr (k:=e_ exr (k:=e_ asn (k:=e_ asn (k:=e_ asn (k:=on_ (qn_ (ws_ (ws_ (wr_ (e_ mv (k:=?_)))))))))))))
 refine e_ (cN rfl) (k:=?_)
 refine gk (k:=dw (k:=go ?_))
 refine s_ (gD eI 0 rfl rfl _ _ rfl rfl rfl (a8) (a8) (a8)) (k:=?_)
 rintro _ _ ⟨s45,rfl,hs45n,hs45c,rfl⟩
 refine e_ asn (k:=on_ (qn_ (ws_ (ws_ (wr_ (?_))))))
 rw[show Row s45 eI (List.replicate l.length (0:Int))=Row s45 eI (gb (ds.map (·.1)) 0 0)from by rw[oz,hidl]]
 refine gk (k:=dn (Nat) (fun y=> y≤l.length) (fun y=> [(51, .int .i64 ((y:Nat):Int))]) [(0,_),(4,_),(6,_),(7,_),(8,_),(49,_),(50,_)] (fun y=> [Row s45 eI (gb (ds.map (·.1)) 0 y)]) _ (fun y=> l.length - y) (0) (h0:=?_) (k:=?_))
 ·try dsimp only
  exact Yl _
 rintro i hi
 try dsimp only[Yd,Ye]at*
 refine gk (k:=wi_ (k:=fun h1=>?_) (m:=fun h1=>?_))
 ·obtain⟨d,s,vs,hli,hdj,hsl⟩:=hdi.get (i:=i) (a8)
  have hg1:(ds.map (·.1))[i]? =some d:=by rw[Xd,hdj];all_goals rfl
  have hfll:=nW (full:=ds.map (·.1)) (z:=(0:Int)) (i:=i) (a8)
  refine gk (k:=alc (k:=fun b10=>?_))
  refine go ?_
  refine s_ (fo (i:=i) rfl rfl rfl (a8)) (k:=?_)
  rintro _ _ ⟨rfl,rfl⟩
  rw[qq hg1]
  refine go ?_
  refine ln_ (i+1) (k:=?_)
  try dsimp only
  omega
 obtain rfl:i=l.length:=a8
 rw[show gb (ds.map (·.1)) 0 l.length=ds.map (·.1)from by rw[←hidl,nX]]
 refine go ?_
 refine c0_ rfl (fC) (k:=?_)
 rintro _ _ ⟨bw,rfl,rfl⟩
 refine go ?_
 refine d2_ rfl (BO (aj) (a8) (fun x hx=> by have:=hid x hx;omega) hok.pos hok.up) (k:=?_)
 rw[show []++(uv (ds.map (·.1)).length++dz (-1) (ds.map (·.1)))=qi ds from by rw[qi,Yh];all_goals rfl]
 have hIl:(qi ds).length≤50000:=by
  have h1:=mq hok.pos (fun x hx=> by have:=hid x hx;omega)
  have h2:=dM (n:=ds.length) (k:=6) (a8) (a8)
  rw[qi,Ya];omega
 refine e_ asn (k:=on_ (qn_ (ws_ (wr_ (e_ mv (k:=?_))))))
 refine e_ (cN rfl) (k:=?_)
 refine gk (k:=dw (k:=go ?_))
 refine c1_ rfl (iB (a8)) (k:=?_)
 rintro _ _ ⟨s70,rfl,rfl⟩
 refine go ?_
 refine d1_ rfl (Jy) (k:=?_)
 rw[show Wr bw []=Wr bw (j5 fs ds 0)from rfl]
 refine go ?_
 refine dn (Nat) (fun y=> y≤fs.length) (fun y=> [(78, .int .i64 ((y:Nat):Int))]) [(0,_),(4,_),(6,_),(7,_),(11,_),(13,_),(76,_),(77,_)] (fun y=> [Wr bw (j5 fs ds y)]) _ (fun y=> fs.length - y) (0) (h0:=?_) (k:=?_)
 ·try dsimp only
  exact Yl _
 rintro i hi
 try dsimp only[Yd,Ye]at*
 refine gk (k:=wi_ (k:=fun h2=>?_) (m:=fun h2=>?_))
 ·obtain⟨z,hzi⟩:∃z,zs[i]? =some z:=⟨_,Yi (a8)⟩
  have hz1:(zs.map (·.1))[i]? =some z.1:=by rw[Xd,hzi];all_goals rfl
  have hz2:z.2=dT fs ds i:=by
   have h1:=congrArg (·[i]?) hzs
   simp only[Xd,hzi,List.getElem?_range (by omega:i<fs.length),Option.map_some,Option.some.injEq]at h1
   exact h1
  haveI hzs2:Sl R z.1 eI (dg (dT fs ds i)):=hz2 ▸ Mr hz hzi
  have hlb:=kZ (fs:=fs) hsz hfew i
  refine go ?_
  refine go ?_
  refine d2_ rfl (wj (a8) (aV) (qg fs hsz i) (fun _=> aV)) (k:=?_)
  rw[show j5 fs ds i++fB (dT fs ds i)=j5 fs ds (i+1)from by simp[j5,List.range_succ]]
  refine e_ asn (k:=on_ (qn_ (ws_ (wr_ (e_ mv (k:=?_))))))
  refine e_ (cN rfl) (k:=?_)
  refine gk (k:=dw (k:=go ?_))
  refine ln_ (i+1) (k:=?_)
  try dsimp only
  omega
 obtain rfl:i=fs.length:=a8
 have hlb:=kZ (fs:=fs) hsz hfew fs.length
 refine go ?_
 refine go ?_
 refine c1_ rfl (iB (a8)) (k:=?_)
 rintro _ _ ⟨s92,rfl,rfl⟩
 refine go ?_
 refine c1_ rfl (GU (hdi.less (hsb)) (a8) (a8) hok.q hsz hok.fd) (k:=?_)
 rintro _ _ ⟨s96,rfl,rfl⟩
 refine s_ (dp eSV [s25,s70,s92,sa,sb,s96] (aI) rfl (an)) (k:=?_)
 rintro _ _ ⟨s97,rfl,rfl⟩
 refine dE (cK.nilRow (e:=eK) cK.refl) ?_
 obtain⟨ss,hss⟩:∃ss,ss= [s25,s70,s92,sa,sb,s96]:=⟨_,rfl⟩
 have hsl:ss.length=6:=by rw[hss];all_goals rfl
 have htl:=xw ss 1
 rw[←hss,show Row SV.nil eK []=Row SV.nil eK ((nC 1 ss).take 0)from rfl]
 refine gk (k:=dn (Nat×SV) (fun y=> y.1≤ss.length) (fun y=> [(17,y.2.val),(99, .int .i64 ((y.1:Nat):Int))]) [(97,_),(98,_)] (fun y=> [Row y.2 eK ((nC 1 ss).take y.1)]) _ (fun y=> ss.length - y.1) ((0,SV.nil)) (h0:=?_) (k:=?_))
 ·try dsimp only
  exact Yl _
 rintro⟨i,u⟩ hi
 try dsimp only[Yd,Ye]at*
 refine gk (k:=wi_ (k:=fun h3=>?_) (m:=fun h3=>?_))
 ·obtain⟨x,hx⟩:∃x,ss[i]? =some x:=⟨_,Yi (a8)⟩
  have htg:=cP (xx (k:=1) hx)
  have htkl:((nC 1 ss).take i).length≤6:=ax
  refine wk_ (qn_ (ws_ (wb_ (ws_ (wr_ (e_ mv (k:=e_ ixa (k:=e_ lel (k:=e_ asn (k:=e_ asn (k:=on_ (qn_ (wr_ (?_))))))))))))))
  refine e_ mv (k:=e_ mv (k:=e_ iad (k:=?_)))
  refine e_ (cS 256 rfl rfl rfl (1+i) (a8) (a8)) (k:=?_)
  refine e_ mv (k:=e_ (bld [(0,_),(1,_)]) (k:=dD eK (k:=fun s110=>?_)))
  refine app (k:=fun s111=>?_)
  rw[←htg]
  refine go ?_
  refine ln_ ((i+1,s111)) (k:=?_)
  try dsimp only
  omega
 obtain rfl:i=ss.length:=a8
 rw[show(nC 1 ss).take ss.length=nC 1 ss from by rw[←htl,List.take_length],hss]
 refine go ?_
 refine c2_ rfl (Jt (bl:=ld fs ds) 83 (ag) (ag) Ju hB1 hB2 (by simp[ld])) (k:=?_)
 rintro _ _ ⟨s114,rfl,rfl⟩
 refine gk (k:=rt_ Tryz.results129 (k:=?_))
 exact⟨_,hsb,s114,rfl,rfl⟩
def nw (fs:List FV):Int→List Doc→Nat
 |_, []=> 0
 |la,d::r=> if d.1<0∨1099511627776≤d.1 then 8 else if d.1≤la then 4 else if iE fs d.2=0 then nw fs d.1 r else iE fs d.2
def k8 (fs:List FV) (ds:List Doc):Nat:=if e7 fs=false then 11 else if 4096<ds.length then 3 else nw fs (-1) ds
theorem yV {fs:List FV}:∀{ds:List Doc}{la:Int},nw fs la ds=0→(∀d∈ds,0≤d.1∧d.1<1099511627776∧iE fs d.2=0)∧(∀d,ds.head? =some d→la<d.1)∧rise (ds.map (·.1))=true
 | [],_,_=> ⟨aj,aj,rfl⟩
 |d::r,la,h=> by
  rw[nw]at h
  split at h
  ·cases h
  ·split at h
   ·cases h
   ·split at h
    ·rename_i h1 h2 h3
     obtain⟨i1,i2,i3⟩:=yV h
     refine⟨fun e he=> ?_,fun e he=> by simp at he;subst he;omega,?_⟩
     ·rcases List.mem_cons.1 he with rfl|he
      ·exact⟨a8,a8,h3⟩
      ·exact i1 e he
     ·rw[List.map_cons,kY]
      refine⟨fun y hy=> ?_,i3⟩
      rw[List.head?_map]at hy
      cases hr:r.head? with
      |none=> rw[hr]at hy;cases hy
      |some e=> rw[hr]at hy;obtain rfl:=Option.some.inj hy;exact i2 e hr
    ·rename_i h3;exact absurd h h3
theorem qG {fs:List FV}{ds:List Doc}(h:k8 fs ds=0) (hz:dsz ds≤30000000) (ht:(gA fs ds).length≤2000000):ny fs ds:=by
 rw[k8]at h
 split at h
 ·cases h
 ·split at h
  ·cases h
  ·rename_i h1 h2
   obtain⟨i1,i2,i3⟩:=yV h
   refine⟨cx,a8,?_,i3,fun d hd=> (i1 d hd).2.1,fun d hd=> (i1 d hd).2.2,hz,ht⟩
   rw[il]
   intro i x hx
   rw[Xd]at hx
   cases hd:ds[i]? with
   |none=> rw[hd]at hx;cases hx
   |some d=> rw[hd]at hx;obtain rfl:=Option.some.inj hx;exact(i1 d (Yj hd)).1
theorem JO {G:cM}{H:cG}{s vv:SV}{fs:List FV}{vs:List Val} [hg:Glb G H] [hf:Sl H s eF fs] [hv:Sl H vv eVl vs] (hn:fs.length≤1000000) (hfn:∀f∈fs,f.name.size≤1000000000) (hvn:vs.length≤1000000000) (hq:∀v∈vs,v.2.size≤1000000000):SC G Tryz.prog 127 [.agg [s.val].toArray,vv.val] H (fun v H'=> H'=H∧((iE fs vs=0∧v= .nilIface)∨(iE fs vs≠0∧∃k,k<24∧v=G.err k))):=
 (LH hn hfn hvn hq).mono fun v H' ⟨h1,h2⟩=> ⟨h2,by
   subst h1
   by_cases h:iE fs vs=0
   ·exact .inl ⟨h,by rw[h];all_goals rfl⟩
   ·refine .inr ⟨h,?_⟩
    unfold MG
    rw[if_neg h]
    split
    ·exact⟨0,ag,rfl⟩
    ·split
     ·exact⟨4,ag,rfl⟩
     ·split
      ·exact⟨11,ag,rfl⟩
      ·exact⟨12,ag,rfl⟩⟩
theorem JS {G:cM}{H:cG}{fv dv:SV}{fs:List FV}{l:List (Int×SV)}{ds:List Doc} [hg:Glb G H] [Tab H 26 ig] [Tab H 24 fF] [hf:Sl H fv eF fs] [hd:Sl H dv eD l] [Spc H] (hT:gE G) (hS:kh) (hdi:fL H l ds) (hfl:fs.length≤1000000) (hfn:∀f∈fs,f.name.size≤1000000000) (hn:ds.length≤1000000000) (hq:∀d∈ds,d.2.length≤1000000000∧∀v∈d.2,v.2.size≤1000000000) (hz:dsz ds≤30000000) (ht:(gA fs ds).length≤2000000):
 SC G Tryz.prog 96 [.agg [fv.val].toArray,dv.val] H (fun v H'=> (k8 fs ds=0∧∃s:SV,v= .tuple #[s.val, .nilIface]∧H'=Row s eB (rb fs ds)::H)∨(k8 fs ds≠0∧∃k,k<24∧v= .tuple #[.slice none 0 0,G.err k]∧H'=H)):=by
 have hll:=hdi.1
 refine sWk Tryz.func96 Tryz.ntmps96 ?_
 refine gk (k:=bxx (k:=fun b2=>?_))
 refine go ?_
 refine c1_ rfl (po (fs:=fs) (a8) (fun f hf=> cg)) (k:=?_)
 rintro _ _ ⟨rfl,(⟨hc,rfl⟩|⟨hc,rfl⟩)⟩
 ·refine e_ asn (k:=on_ (qn_ (ws_ (wr_ (e_ mv (k:=?_))))))
  refine e_ (cR rfl) (k:=?_)
  refine gk (k:=ift (k:=gk (k:=rt_ Tryz.results96 (k:=?_))))
  exact⟨_,hsb, .inr ⟨by rw[k8,if_pos hc];decide,0,ag,rfl,rfl⟩⟩
 refine e_ asn (k:=on_ (qn_ (ws_ (wr_ (e_ mv (k:=?_))))))
 refine e_ (cN rfl) (k:=?_)
 refine gk (k:=dw (k:=gk (k:=wi_ (k:=fun h1=>?_) (m:=fun h1=>?_))))
 ·have hcd:k8 fs ds=3:=by rw[k8,if_neg (bW),if_pos (a8)]
  refine go ?_
  refine cW cL (as_ 0 (q:=ldv) (k:=as_ 1 (q:=asn) (k:=as_ 2 (q:=asn) (k:=az_ (k:=gk (k:=rt_ Tryz.results96 (k:=?_)))))))
  exact⟨_,hsb, .inr ⟨by rw[hcd];decide,4,ag,rfl,rfl⟩⟩
 have hcd:k8 fs ds=nw fs (-1) ds:=by rw[k8,if_neg (bW),if_neg (a8)]
 refine go ?_
 refine gk (k:=dn (Nat×Int) (fun y=> y.1≤l.length∧nw fs (-1) ds=nw fs y.2 (ds.drop y.1)) (fun y=> [(7, .int .i64 y.2),(22, .int .i64 ((y.1:Nat):Int))]) [(1,_),(2,_),(20,_),(21,_)] (fun y=> []) _ (fun y=> l.length - y.1) ((0, -1)) (h0:=?_) (k:=?_))
 ·try dsimp only
  exact⟨Yl _,rfl⟩
 rintro⟨i,la⟩ ⟨hi,hck⟩
 try dsimp only[Yd,Ye]at*
 refine gk (k:=wi_ (k:=fun h2=>?_) (m:=fun h2=>?_))
 ·obtain⟨d,s,vs,hli,hdj,hsl⟩:=hdi.get (i:=i) (a8)
  obtain⟨hq1,hq2⟩:=hq _ (Yj hdj)
  rw[dV hdj,nw]at hck
  simp only at hq1 hq2 hck
  refine gk (k:=alc (k:=fun b9=>?_))
  refine gk (k:=dQ 4 34 (k:=fun h3=>gk (k:=edq)) (q:=go ?_))
  refine gk (k:=wi_ (k:=fun h4=>?_) (m:=fun h4=>?_))
  ·rw[if_pos (a8)]at hck
   refine go ?_
   refine cW cL (as_ 0 (q:=ldv) (k:=as_ 1 (q:=asn) (k:=as_ 2 (q:=asn) (k:=az_ (k:=go ?_)))))
   refine rt_ Tryz.results96 (k:=?_)
   exact⟨_,hsb, .inr ⟨by rw[hcd,hck];decide,1,ag,rfl,rfl⟩⟩
  rw[if_neg (a8)]at hck
  refine gk (k:=wi_ (k:=fun h5=>?_) (m:=fun h5=>?_))
  ·rw[if_pos (a8)]at hck
   refine go ?_
   refine cW cL (as_ 0 (q:=ldv) (k:=as_ 1 (q:=asn) (k:=as_ 2 (q:=asn) (k:=az_ (k:=go ?_)))))
   refine rt_ Tryz.results96 (k:=?_)
   exact⟨_,hsb, .inr ⟨by rw[hcd,hck];decide,5,ag,rfl,rfl⟩⟩
  rw[if_neg (a8)]at hck
  refine go ?_
  refine go ?_
  refine c2_ rfl (JO hfl hfn hq1 hq2) (k:=?_)
  rintro _ _ ⟨rfl,(⟨hgl,rfl⟩|⟨hgl,k,hk,rfl⟩)⟩
  ·rw[if_pos hgl]at hck
   refine e_ asn (k:=on_ (qn_ (ws_ (wr_ (e_ mv (k:=?_))))))
   refine e_ (cN rfl) (k:=?_)
   refine gk (k:=dw (k:=go ?_))
   refine ln_ ((i+1,d)) (k:=?_)
   try dsimp only
   exact⟨a8,hck⟩
  rw[if_neg hgl]at hck
  refine e_ asn (k:=on_ (qn_ (ws_ (wr_ (e_ mv (k:=?_))))))
  refine e_ (cR rfl) (k:=?_)
  refine gk (k:=ift (k:=go ?_))
  refine gk (k:=rt_ Tryz.results96 (k:=?_))
  exact⟨_,hsb, .inr ⟨by rw[hcd,hck];exact hgl,k,hk,rfl,rfl⟩⟩
 obtain rfl:i=l.length:=a8
 rw[hll,List.drop_length]at hck
 have hok:=qG (hcd.trans hck) hz ht
 have hsz:=hok.size
 have hfew:=hok.few
 refine go ?_
 refine c2_ rfl (AU (ds:=ds) hT (hdi.less (hsb)) hok.flen (a8) hok.q hsz) (k:=?_)
 rintro _ _ ⟨g,lv,r,zs,rfl,hzs,rfl⟩
 refine c1_ rfl (JN (r:=r) (l:=l) (zs:=zs) (fs:=fs) (ds:=ds) hS hok (hdi.less (hsb)) hzs) (k:=?_)
 rintro _ _ ⟨s55,rfl,rfl⟩
 refine gk (k:=rt_ Tryz.results96 (k:=?_))
 exact⟨_,hsb, .inl ⟨hcd.trans hck,s55,rfl,rfl⟩⟩
theorem HO {G:cM}{H:cG}{fv dv:SV}{fs:List FV}{l:List (Int×SV)}{ds:List Doc} [hf:Sl H fv eF fs] [hd:Sl H dv eD l] (hdi:fL H l ds) (hfl:fs.length≤1000000) (hfn:∀f∈fs,f.name.size≤1000000000) (hn:ds.length≤1000000000) (hq:∀d∈ds,d.2.length≤1000000000∧∀v∈d.2,v.2.size≤1000000000):
 SC G Tryz.prog 101 [.agg [fv.val].toArray,dv.val] H (fun v H'=> v= .int .i64 ((k8 fs ds:Nat):Int)∧H'=H):=by
 have hll:=hdi.1
 refine sWk Tryz.func101 Tryz.ntmps101 ?_
 refine gk (k:=bxx (k:=fun b2=>?_))
 refine go ?_
 refine c1_ rfl (om (fs:=fs) (a8) (fun f hf=> cg)) (k:=?_)
 rintro _ _ ⟨c,rfl,hc,rfl⟩
 refine gk (k:=wi_ (k:=fun h1=>?_) (m:=fun h1=>?_))
 ·have hcd:k8 fs ds=11:=by rw[k8,if_pos (by rcases hc with⟨h,_⟩|⟨_,h⟩;exact h;omega)]
  refine gk (k:=rt_ Tryz.results101 (k:=?_))
  exact⟨_,hsb,by rw[hcd];exact congrArg (Value.int .i64) (a8),rfl⟩
 have hck0:e7 fs=true:=by rcases hc with⟨_,h⟩|⟨h,_⟩;exfalso;omega;exact h
 refine gk (k:=wi_ (k:=fun h2=>?_) (m:=fun h2=>?_))
 ·have hcd:k8 fs ds=3:=by rw[k8,if_neg (by rw[hck0];decide),if_pos (a8)]
  refine gk (k:=rt_ Tryz.results101 (k:=?_))
  exact⟨_,hsb,by rw[hcd];all_goals rfl,rfl⟩
 have hcd:k8 fs ds=nw fs (-1) ds:=by rw[k8,if_neg (by rw[hck0];decide),if_neg (a8)]
 refine go ?_
 refine gk (k:=dn (Nat×Int) (fun y=> y.1≤l.length∧nw fs (-1) ds=nw fs y.2 (ds.drop y.1)) (fun y=> [(6, .int .i64 y.2),(19, .int .i64 ((y.1:Nat):Int))]) [(2,_),(17,_),(18,_)] (fun y=> []) _ (fun y=> l.length - y.1) ((0, -1)) (h0:=?_) (k:=?_))
 ·try dsimp only
  exact⟨Yl _,rfl⟩
 rintro⟨i,la⟩ ⟨hi,hck⟩
 try dsimp only[Yd,Ye]at*
 refine gk (k:=wi_ (k:=fun h3=>?_) (m:=fun h3=>?_))
 ·obtain⟨d,s,vs,hli,hdj,hsl⟩:=hdi.get (i:=i) (a8)
  obtain⟨hq1,hq2⟩:=hq _ (Yj hdj)
  rw[dV hdj,nw]at hck
  simp only at hq1 hq2 hck
  refine gk (k:=alc (k:=fun b8=>?_))
  refine gk (k:=dQ 4 30 (k:=fun h4=>gk (k:=edq)) (q:=gk (k:=wi_ (k:=fun h5=>?_) (m:=fun h5=>?_))))
  ·rw[if_pos (a8)]at hck
   refine gk (k:=rt_ Tryz.results101 (k:=?_))
   exact⟨_,hsb,by rw[hcd,hck];all_goals rfl,rfl⟩
  rw[if_neg (a8)]at hck
  refine gk (k:=wi_ (k:=fun h6=>?_) (m:=fun h6=>?_))
  ·rw[if_pos (a8)]at hck
   refine gk (k:=rt_ Tryz.results101 (k:=?_))
   exact⟨_,hsb,by rw[hcd,hck];all_goals rfl,rfl⟩
  rw[if_neg (a8)]at hck
  refine go ?_
  refine d2_ rfl (M9 hfl hfn hq1 hq2) (k:=gk (k:=wi_ (k:=fun h7=>?_) (m:=fun h7=>?_)))
  ·rw[if_neg (a8)]at hck
   refine gk (k:=rt_ Tryz.results101 (k:=?_))
   exact⟨_,hsb,by rw[hcd,hck];all_goals rfl,rfl⟩
  rw[if_pos (a8)]at hck
  refine go ?_
  refine ln_ ((i+1,d)) (k:=?_)
  try dsimp only
  exact⟨a8,hck⟩
 obtain rfl:i=l.length:=a8
 rw[hll,List.drop_length]at hck
 refine gk (k:=rt_ Tryz.results101 (k:=?_))
 exact⟨_,hsb,by rw[hcd,hck];all_goals rfl,rfl⟩
theorem Nq {G:cM}{H:cG}{f:Nat}{s:ByteArray}(hs:s.size≤1000000000) (hf:f≤1000000000):SC G Tryz.prog 108 [.int .i64 ((f:Nat):Int), .string s] H (fun v H'=> v= .string (sE f s)∧H'=H):=by
 refine sWk Tryz.func108 Tryz.ntmps108 ?_
 refine ws_ (wr_ (e_ asn (k:=on_ (qn_ (ws_ (wr_ (e_ mv (k:=?_))))))))
 refine e_ (gQ rfl rfl f 256 rfl rfl (ag)) (k:=?_)
 refine gk (k:=wi_ (k:=fun h1=>?_) (m:=fun h1=>?_))
 ·exact absurd h1 (a8)
 refine wk_ (qn_ (ws_ (wr_ (e_ mv (k:=?_)))))
 refine e_ (cS 256 rfl rfl rfl (f % 256) rfl (a8)) (k:=?_)
 refine dD eB (k:=fun s14=>?_)
 refine e_ (cV rfl) (k:=?_)
 refine e_ mv (k:=?_)
 refine e_ (gz rfl rfl (by rw[fg];simp;omega)) (k:=?_)
 refine gk (k:=rt_ Tryz.results108 (k:=?_))
 exact⟨_,hsb,rfl,rfl⟩
abbrev jG:=ByteArray×Nat×Nat
def eSp:Enc jG:=⟨fun p=> [.string p.1, .int .i64 ((p.2.1:Nat):Int), .int .i64 ((p.2.2:Nat):Int)],3,true,fun _=> rfl,fun p v h=> by simp at h;rcases h with rfl|rfl|rfl <;> rfl,ag,fun h=> aR,ag⟩
instance {p:jG}:kK eSp p (.agg [.string p.1, .int .i64 ((p.2.1:Nat):Int), .int .i64 ((p.2.2:Nat):Int)].toArray):=⟨rfl⟩
instance {s:ByteArray}{a b:Nat}:fH eSp (.agg [.string s, .int .i64 ((a:Nat):Int), .int .i64 ((b:Nat):Int)].toArray) (s,a,b):=⟨rfl⟩
def ltS (a b:jG):Prop:=cF a.1<cF b.1∨cF a.1=cF b.1∧(a.2.1<b.2.1∨a.2.1=b.2.1∧a.2.2<b.2.2)
instance (a b:jG):Decidable (ltS a b):=by unfold ltS;infer_instance
theorem Mm {a b:ByteArray}{i j m n:Nat}(h:¬cF a=cF b):ltS (a,i,m) (b,j,n)↔cF a<cF b:=⟨fun h2=> h2.elim id fun h2=> absurd h2.1 h, .inl⟩
theorem Ml {a b:ByteArray}{i j m n:Nat}(h:cF a=cF b) (h1:i≠j):ltS (a,i,m) (b,j,n)↔i<j:=
 ⟨fun h2=> h2.elim (fun h2=> absurd (show cF a<cF b from h2) (by rw[h];exact mW _)) fun h2=> h2.2.elim id fun h3=> absurd h3.1 h1,fun h2=> .inr ⟨h, .inl h2⟩⟩
theorem Mk {a b:ByteArray}{i j m n:Nat}(h:cF a=cF b) (h1:i=j):ltS (a,i,m) (b,j,n)↔m<n:=
 ⟨fun h2=> h2.elim (fun h2=> absurd (show cF a<cF b from h2) (by rw[h];exact mW _)) fun h2=> h2.2.elim (fun h3=> absurd (show i<j from h3) (a8)) fun h3=> h3.2,fun h2=> .inr ⟨h, .inr ⟨h1,h2⟩⟩⟩
theorem M6 {G:cM}{H:cG}{a b:ByteArray}{i j m n:Nat}:SC G Tryz.prog 162 [.agg [.string a, .int .i64 ((i:Nat):Int), .int .i64 ((m:Nat):Int)].toArray, .agg [.string b, .int .i64 ((j:Nat):Int), .int .i64 ((n:Nat):Int)].toArray] H (fun v H'=> v= .bool (decide (ltS (a,i,m) (b,j,n)))∧H'=H):=by
 refine sWk Tryz.func162 Tryz.ntmps162 ?_
 refine gk (k:=bxx (k:=fun b2=>?_))
 refine bxx (k:=fun b3=>?_)
 refine e_ asn (k:=on_ (qn_ (ws_ (ws_ (wr_ (e_ fla (k:=e_ ldv (k:=e_ fla (k:=e_ ldv (k:=e_ zx (k:=gk (k:=wi_ (k:=fun h1=>?_) (m:=fun h1=>?_)))))))))))))
 ·refine ws_ (wr_ (e_ fla (k:=e_ ldv (k:=e_ fla (k:=e_ ldv (k:=?_))))))
  refine e_ MQ (k:=?_)
  refine gk (k:=rt_ Tryz.results162 (k:=?_))
  exact⟨_,hsb,congrArg Value.bool (decide_eq_decide.2 (Mm (ay)).symm),rfl⟩
 refine gk (k:=wi_ (k:=fun h2=>?_) (m:=fun h2=>?_))
 ·refine gk (k:=rt_ Tryz.results162 (k:=?_))
  exact⟨_,hsb,congrArg Value.bool (decide_eq_decide.2 (Iff.trans (a8) (Ml (i:=i) (j:=j) (ay) (a8)).symm)),rfl⟩
 refine gk (k:=rt_ Tryz.results162 (k:=?_))
 exact⟨_,hsb,congrArg Value.bool (decide_eq_decide.2 (Iff.trans (a8) (Mk (m:=m) (n:=n) (ay) (a8)).symm)),rfl⟩
def kM (fs:List FV) (f k:Nat) (vs:List Val):List jG:=(dF fs f vs).map fun t=> (dO t.text,k,t.pos)
def dP (fs:List FV) (f:Nat):Nat→List Doc→List jG
 |_, []=> []
 |k,d::r=> kM fs f k d.2++dP fs f (k+1) r
theorem rR (fs:List FV) (f:Nat):∀(l:List Doc) (k:Nat) (d:Doc),dP fs f k (l++ [d])=dP fs f k l++kM fs f (k+l.length) d.2
 | [],k,d=> by simp[dP]
 |e::l,k,d=> by
  rw[Yd,dP,rR fs f l (k+1) d,dP,Yf,Yb,show k+1+l.length=k+(l.length+1)from a8]
theorem xH {fs:List FV}{f i:Nat}{ds:List Doc}{d:Doc}(h:ds[i]? =some d):dP fs f 0 (ds.take (i+1))=dP fs f 0 (ds.take i)++kM fs f i d.2:=by
 have hi:=(Yk.1 h).1
 rw[cP h,rR,Yg,Nat.min_eq_left (a8),Nat.zero_add]
theorem ph (fs:List FV) (f:Nat):∀(l:List Doc) (k:Nat),(dP fs f k l).length≤dsz l
 | [],_=> by simp[dP]
 |d::l,k=> by
  have h1:=ph fs f l (k+1)
  have h2:=mF fs f d.2
  simp only[dP,dsz,kM,Ya,Yh,List.map_cons,List.sum_cons]at*
  omega
theorem Kf {G:cM}{H:cG}{fv dv:SV}{fs:List FV}{f:Nat}{l:List (Int×SV)}{ds:List Doc} [hf:Sl H fv eF fs] [hd:Sl H dv eD l] (hdi:fL H l ds) (hfl:fs.length≤16) (hff:f≤1000) (hn:ds.length≤100000) (hq:∀d∈ds,d.2.length≤100000000∧∀v∈d.2,v.2.size≤3000000) (hz:dsz ds≤30000000):
 SC G Tryz.prog 136 [.agg [fv.val].toArray,dv.val, .int .i64 ((f:Nat):Int)] H (fun v H'=> ∃s:SV,v=s.val∧H'=Row s eSp (dP fs f 0 ds)::H):=by
 have hll:=hdi.1
 refine sWk Tryz.func136 Tryz.ntmps136 ?_
 refine gk (k:=bxx (k:=fun b3=>?_))
 refine go ?_
 refine s_ (cZ eSp rfl) (k:=?_)
 rintro _ _ ⟨s12,rfl,rfl⟩
 refine e_ asn (k:=on_ (qn_ (ws_ (ws_ (wr_ (?_))))))
 rw[show Row s12 eSp ([]:List jG)=Row s12 eSp (dP fs f 0 (ds.take 0))from rfl]
 refine gk (k:=dn (Nat×SV) (fun y=> y.1≤l.length) (fun y=> [(7,y.2.val),(15, .int .i64 ((y.1:Nat):Int))]) [(2,_),(3,_),(13,_),(14,_)] (fun y=> [Row y.2 eSp (dP fs f 0 (ds.take y.1))]) _ (fun y=> l.length - y.1) ((0,s12)) (h0:=?_) (k:=?_))
 ·try dsimp only
  exact Yl _
 rintro⟨i,u⟩ hi
 try dsimp only[Yd,Ye]at*
 refine gk (k:=wi_ (k:=fun h1=>?_) (m:=fun h1=>?_))
 ·obtain⟨d,s,vs,hli,hdj,hsl⟩:=hdi.get (i:=i) (a8)
  have hmem:=Yj hdj
  obtain⟨hq1,hq2⟩:=hq _ hmem
  have hvz:=ni hmem
  have hfl2:=mF fs f vs
  have hp2:=ph fs f (ds.take i) 0
  have hp3:=wZ ds i
  simp only at hq1 hq2 hvz
  refine gk (k:=alc (k:=fun b9=>?_))
  refine go ?_
  refine c3_ rfl (Ei (a8) (a8) hq1 hq2 (a8)) (k:=?_)
  rintro _ _ ⟨s24,rfl,rfl⟩
  refine e_ lnn (k:=?_)
  rw[show Row u eSp (dP fs f 0 (ds.take i))=Row u eSp (dP fs f 0 (ds.take i)++(kM fs f i vs).take 0)from aj]
  refine gk (k:=dn (Nat×SV) (fun y=> y.1≤(dF fs f vs).length) (fun y=> [(7,y.2.val),(26, .int .i64 ((y.1:Nat):Int))]) [(2,_),(3,_),(8,_),(13,_),(14,_),(15,_),(24,_),(25,_)] (fun y=> [Row y.2 eSp (dP fs f 0 (ds.take i)++(kM fs f i vs).take y.1)]) _ (fun y=> (dF fs f vs).length - y.1) ((0,u)) (h0:=?_) (k:=?_))
  ·try dsimp only
   exact Yl _
  rintro⟨m,u⟩ hm
  try dsimp only[Yd,Ye]at*
  refine go ?_
  refine gk (k:=wi_ (k:=fun h2=>?_) (m:=fun h2=>?_))
  ·obtain⟨t,ht⟩:∃t,(dF fs f vs)[m]? =some t:=⟨_,Yi (a8)⟩
   have htk:(kM fs f i vs).take (m+1)=(kM fs f i vs).take m++ [(dO t.text,i,t.pos)]:=by simp only[kM,←List.map_take];exact lQ ht
   have htl3:((kM fs f i vs).take m).length≤(dF fs f vs).length:=by rw[Yg,kM,Yh];omega
   refine gk (k:=alc (k:=fun b11=>?_))
   refine sto (k:=on_ (qn_ (wr_ (e_ mv (k:=e_ fla (k:=e_ ldv (k:=e_ mv (k:=e_ fla (k:=e_ ldv (k:=e_ (bld [(0,_),(1,_),(2,_)]) (k:=dD eSp (k:=fun s37=>?_))))))))))))
   refine app (k:=fun s38=>?_)
   rw[Yf,←htk]
   refine go ?_
   refine ln_ ((m+1,s38)) (k:=?_)
   try dsimp only
   omega
  obtain rfl:m=(dF fs f vs).length:=a8
  rw[show dP fs f 0 (ds.take i)++(kM fs f i vs).take (dF fs f vs).length=dP fs f 0 (ds.take (i+1))from by rw[xH hdj,show(kM fs f i vs).take (dF fs f vs).length=kM fs f i vs from List.take_of_length_le (by simp[kM])]]
  refine go ?_
  refine ln_ ((i+1,u)) (k:=?_)
  try dsimp only
  omega
 obtain rfl:i=l.length:=a8
 rw[show ds.take l.length=ds from by rw[hll,List.take_length]]
 refine gk (k:=rt_ Tryz.results136 (k:=?_))
 exact⟨_,hsb,u,rfl,rfl⟩
theorem Eh {G:cM}{H:cG}{fv dv:SV}{fs:List FV}{f:Nat}{l:List (Int×SV)}{ds:List Doc} [hf:Sl H fv eF fs] [hd:Sl H dv eD l] (hdi:fL H l ds) (hfl:fs.length≤16) (hff:f≤1000) (hn:ds.length≤100000) (hq:∀d∈ds,d.2.length≤100000000∧∀v∈d.2,v.2.size≤3000000) (hz:dsz ds≤30000000):
 SC G Tryz.prog 105 [.agg [fv.val].toArray,dv.val, .int .i64 ((f:Nat):Int)] H (fun v H'=> ∃s:SV,v=s.val∧H'=Row s eI (dg (dT fs ds f))::H):=by
 have hll:=hdi.1
 have hln:(dT fs ds f).length=l.length:=by rw[dT,Yh,hll]
 refine sWk Tryz.func105 Tryz.ntmps105 ?_
 refine gk (k:=bxx (k:=fun b3=>?_))
 refine go ?_
 refine s_ (cZ eI rfl) (k:=?_)
 rintro _ _ ⟨s11,rfl,rfl⟩
 refine e_ asn (k:=on_ (qn_ (ws_ (ws_ (wr_ (?_))))))
 rw[show Row s11 eI ([]:List Int)=Row s11 eI (dg ((dT fs ds f).take 0))from rfl]
 refine gk (k:=dn (Nat×SV) (fun y=> y.1≤l.length) (fun y=> [(7,y.2.val),(14, .int .i64 ((y.1:Nat):Int))]) [(2,_),(3,_),(12,_),(13,_)] (fun y=> [Row y.2 eI (dg ((dT fs ds f).take y.1))]) _ (fun y=> l.length - y.1) ((0,s11)) (h0:=?_) (k:=?_))
 ·try dsimp only
  exact Yl _
 rintro⟨i,u⟩ hi
 try dsimp only[Yd,Ye]at*
 refine gk (k:=wi_ (k:=fun h1=>?_) (m:=fun h1=>?_))
 ·obtain⟨d,s,vs,hli,hdj,hsl⟩:=hdi.get (i:=i) (a8)
  have hmem:=Yj hdj
  obtain⟨hq1,hq2⟩:=hq _ hmem
  have hvz:=ni hmem
  simp only at hq1 hq2 hvz
  have hg1:(dT fs ds f)[i]? =some (dF fs f vs).length:=by rw[dT,Xd,hdj];all_goals rfl
  have hm1:=lQ (f:=fun n:Nat=> (n:Int)) hg1
  have hl1:(dg ((dT fs ds f).take i)).length≤100000:=by rw[dX,Yg];omega
  refine gk (k:=alc (k:=fun b9=>?_))
  refine go ?_
  refine c3_ rfl (Ei (a8) (a8) hq1 hq2 (a8)) (k:=?_)
  rintro _ _ ⟨s22,rfl,rfl⟩
  refine gk (k:=dD eI (k:=fun s26=>?_))
  refine app (k:=fun s27=>?_)
  rw[show dg ((dT fs ds f).take i)++ [(((dF fs f vs).length:Nat):Int)]=dg ((dT fs ds f).take (i+1))from hm1.symm]
  refine go ?_
  refine ln_ ((i+1,s27)) (k:=?_)
  try dsimp only
  omega
 obtain rfl:i=l.length:=a8
 rw[show(dT fs ds f).take l.length=dT fs ds f from by rw[←hln,List.take_length]]
 refine gk (k:=rt_ Tryz.results105 (k:=?_))
 exact⟨_,hsb,u,rfl,rfl⟩
theorem Ed {G:cM}{H:cG}{s:SV}{l:List (Nat×SV)}{ps:List Po} [hs:Sl H s ePo l] (hp:lI H l ps) (hm:ps.length≤100000000) (ht:dx ps≤1000000000000):SC G Tryz.prog 109 [s.val] H (fun v H'=> v= .int .i64 ((dx ps:Nat):Int)∧H'=H):=by
 have hpl:=hp.1
 have hT:∀i,dx (ps.take i)≤dx ps:=fun i=> by
  conv=> rhs;rw[←List.take_append_drop i ps,j3]
  omega
 refine sWk Tryz.func109 Tryz.ntmps109 ?_
 refine go ?_
 refine gk (k:=dn (Nat) (fun y=> y≤l.length) (fun y=> [(3, .int .i64 ((dx (ps.take y):Nat):Int)),(8, .int .i64 ((y:Nat):Int))]) [(6,_),(7,_)] (fun y=> []) _ (fun y=> l.length - y) (0) (h0:=?_) (k:=?_))
 ·try dsimp only
  exact Yl _
 rintro i hi
 try dsimp only[Yd,Ye]at*
 refine gk (k:=wi_ (k:=fun h1=>?_) (m:=fun h1=>?_))
 ·obtain⟨sp,pos,hli,hpi,hsl⟩:=hp.get (i:=i) (a8)
  generalize (ps.getD i (0, [])).1=d at hli hpi
  have hposl:=dX pos
  have htk:=oe hpi
  have hTi:=hT (i+1)
  simp only at htk
  refine gk (k:=alc (k:=fun b5=>?_))
  refine sto (k:=on_ (qn_ (wr_ (e_ mv (k:=e_ fla (k:=e_ ldv (k:=e_ lnn (k:=e_ iad (k:=e_ asn (k:=on_ (bn_ (qn_ (wr_ (?_))))))))))))))
  rw[show((dx (ps.take i):Nat):Int)+(((dg pos).length:Nat):Int)=((dx (ps.take (i+1)):Nat):Int)from a8]
  refine go ?_
  refine ln_ (i+1) (k:=?_)
  try dsimp only
  omega
 obtain rfl:i=l.length:=a8
 rw[show ps.take l.length=ps from bT]
 refine gk (k:=rt_ Tryz.results109 (k:=?_))
 exact⟨_,hsb,rfl,rfl⟩
def leS (a b:jG):Prop:=¬ltS b a
theorem EZ {a b c:jG}(h:ltS a b) (h':ltS b c):ltS a c:=by
 rcases h with h|⟨h1,h2⟩
 ·rcases h' with h'|⟨h3,_⟩
  ·exact .inl (yo h h')
  ·exact .inl (h3 ▸ h)
 ·rcases h' with h'|⟨h3,h4⟩
  ·exact .inl (h1 ▸ h')
  ·exact .inr ⟨h1.trans h3,by rcases h2 with h2|h2 <;> rcases h4 with h4|h4 <;> omega⟩
theorem F4 {a b:jG}(h:ltS a b):leS a b:=fun h'=> by
 have h9:=EZ h h'
 rcases h9 with h9|⟨_,h9⟩
 ·exact mW _ h9
 ·omega
theorem Fc {a b c:jG}(h:leS a b) (h':leS b c):leS a c:=fun hca=> by
 by_cases hab:ltS a b
 ·exact h' (EZ hca hab)
 ·
  have e:cF a.1=cF b.1:=by
   by_cases e:cF a.1=cF b.1
   ·exact e
   ·by_cases l:cF a.1<cF b.1
    ·exact absurd (.inl l) hab
    ·exact absurd (.inl (ud l e)) h
  have e2:a.2=b.2:=by
   have h1:¬(a.2.1<b.2.1∨a.2.1=b.2.1∧a.2.2<b.2.2):=fun hh=> hab (.inr ⟨e,hh⟩)
   have h2:¬(b.2.1<a.2.1∨b.2.1=a.2.1∧b.2.2<a.2.2):=fun hh=> h (.inr ⟨e.symm,hh⟩)
   exact Prod.ext (a8) (a8)
  have e3:a=b:=Prod.ext (iH.1 e) e2
  rw[e3]at hca
  exact h' hca
structure AE (l out av bv:List jG):Prop where
 perm:(out++(av++bv)).Perm l
 up:out.Pairwise leS
 low:∀x∈out,∀y∈av++bv,leS x y
 ua:av.Pairwise leS
 ub:bv.Pairwise leS
theorem AE.left {l out av bv:List jG}{a:jG}(h:AE l out (a::av) bv) (hb:∀b,bv.head? =some b→ltS a b):AE l (out++ [a]) av bv:=by
 obtain⟨h1,h2⟩:=List.pairwise_cons.1 h.ua
 have hab:∀y∈bv,leS a y:=by
  intro y hy
  cases bv with
  |nil=> simp at hy
  |cons b bv=>
   have h3:=F4 (hb b rfl)
   rcases List.mem_cons.1 hy with rfl|hy
   ·exact h3
   ·exact Fc h3 ((List.pairwise_cons.1 h.ub).1 y hy)
 refine⟨by simpa using h.perm,List.pairwise_append.2 ⟨h.up,List.pairwise_singleton ..,fun x hx y hy=> ?_⟩,fun x hx y hy=> ?_,h2,h.ub⟩
 ·simp at hy;subst hy;exact h.low x hx y (aj)
 ·rcases List.mem_append.1 hx with hx|hx
  ·exact h.low x hx y (by rcases List.mem_append.1 hy with hy|hy <;> simp[hy])
  ·simp at hx;subst hx
   rcases List.mem_append.1 hy with hy|hy
   ·exact h1 y hy
   ·exact hab y hy
theorem AE.right {l out av bv:List jG}{b:jG}(h:AE l out av (b::bv)) (ha:∀a,av.head? =some a→leS b a):AE l (out++ [b]) av bv:=by
 obtain⟨h1,h2⟩:=List.pairwise_cons.1 h.ub
 have hba:∀y∈av,leS b y:=by
  intro y hy
  cases av with
  |nil=> simp at hy
  |cons a av=>
   have h3:=ha a rfl
   rcases List.mem_cons.1 hy with rfl|hy
   ·exact h3
   ·exact Fc h3 ((List.pairwise_cons.1 h.ua).1 y hy)
 refine⟨?_,List.pairwise_append.2 ⟨h.up,List.pairwise_singleton ..,fun x hx y hy=> ?_⟩,fun x hx y hy=> ?_,h.ua,h2⟩
 ·refine List.Perm.trans ?_ h.perm
  rw[Yf]
  exact List.Perm.append_left _ (by simpa using (List.perm_middle (a:=b) (l₁:=av) (l₂:=bv)).symm)
 ·simp at hy;subst hy;exact h.low x hx y (aj)
 ·rcases List.mem_append.1 hx with hx|hx
  ·exact h.low x hx y (by rcases List.mem_append.1 hy with hy|hy <;> simp[hy])
  ·simp at hx;subst hx
   rcases List.mem_append.1 hy with hy|hy
   ·exact hba y hy
   ·exact h1 y hy
def zd (G:cM) (F0 H:cG) (s:SV) (l:List jG):Prop:=SC G Tryz.prog 135 [s.val] (dH F0::H) (fun v H'=> ∃(s':SV) (out:List jG) (F:cG),v=s'.val∧out.Perm l∧out.Pairwise leS∧Sl [dH F,dH F0] s' eSp out∧H'=dH F::dH F0::H)
theorem wy {l:List jG}(h:l.length<2):l.Pairwise leS:=by
 match l,h with
 | [],_=> exact List.Pairwise.nil
 | [a],_=> exact List.pairwise_singleton ..
theorem rX {G:cM}{F0 H:cG}{s:SV}{l:List jG} [hs:Sl F0 s eSp l] (hb:l.length≤100000000) (ih:∀{H:cG}{s:SV}{l':List jG},Sl F0 s eSp l'→l'.length<l.length→zd G F0 H s l'):SC G Tryz.prog 135 [s.val] (dH F0::H) (fun v H'=> ∃(s':SV) (out:List jG) (F:cG),v=s'.val∧out.Perm l∧out.Pairwise leS∧Sl [dH F,dH F0] s' eSp out∧H'=dH F::dH F0::H):=by
 refine sWk Tryz.func135 Tryz.ntmps135 ?_
 refine gk (k:=wi_ (k:=fun h1=>?_) (m:=fun h1=>?_))
 ·have hsh:l.Pairwise leS:=wy (a8)
  refine gk (k:=rt_ Tryz.results135 (k:=?_))
  exact⟨dH []::dH F0::H,jH cK.refl,s,l, [],rfl, .refl _,hsh,inferInstance,rfl⟩
 refine wk_ (qn_ (ws_ (wr_ (e_ mv (k:=e_ mv (k:=e_ lnn (k:=?_)))))))
 refine e_ (iF rfl rfl l.length 2 rfl rfl (ag) (aw)) (k:=?_)
 refine iP F0 rfl (0) (l.length / 2) rfl ⟨_,_,rfl,(aG)⟩ (a8) (aE) rfl (fun sa ia=>?_)
 have hla:((l.take (l.length / 2)).drop 0).length=l.length / 2:=au
 refine c1_ rfl (ih ia (a8)) (k:=?_)
 rintro _ _ ⟨s15,av,F1,rfl,hpa,hua,hsla,rfl⟩
 refine e_ asn (k:=on_ (qn_ (ws_ (wr_ (e_ mv (k:=e_ mv (k:=e_ lnn (k:=?_))))))))
 refine e_ (iF rfl rfl l.length 2 rfl rfl (ag) (aw)) (k:=?_)
 refine iP F0 rfl (l.length / 2) (l.length) ⟨_,_,rfl,(aG)⟩ rfl (a8) (aE) rfl (fun sb ib=>?_)
 have hlb:((l.take l.length).drop (l.length / 2)).length=l.length - l.length / 2:=aj
 refine c1_ rfl (SC.less (H':=dH F0::dH F1::H) (hsb) (ih ib (a8))) (k:=?_)
 rintro _ _ ⟨s21,bv,F2,rfl,hpb,hub,hslb,rfl⟩
 refine go ?_
 refine s_ (cZ eSp rfl) (k:=?_)
 rintro _ _ ⟨s22,rfl,rfl⟩
 refine gk (k:=dn (SV×SV×SV×(List jG)×(List jG)×(List jG)) (fun y=> Sl [dH F1,dH F0] y.1 eSp y.2.2.2.2.1∧Sl [dH F2,dH F0] y.2.1 eSp y.2.2.2.2.2∧AE l y.2.2.2.1 y.2.2.2.2.1 y.2.2.2.2.2) (fun y=> [(3,y.1.val),(4,y.2.1.val),(5,y.2.2.1.val)]) [] (fun y=> [Row y.2.2.1 eSp y.2.2.2.1]) (dH F2::dH F0::dH F1::H) (fun y=> y.2.2.2.2.1.length+y.2.2.2.2.2.length) ((s15,s21,s22, [],av,bv)) (h0:=?_) (k:=?_))
 ·try dsimp only
  exact⟨hsla,hslb,⟨by
   have h1:=hpa.append hpb
   simp only[List.drop_zero,List.take_length,Ye]at h1⊢
   rwa [List.take_append_drop]at h1,List.Pairwise.nil,fun x hx=> by simp at hx,hua,hub⟩⟩
 rintro⟨xa,yb,u,out,ar,br⟩ ⟨hx,hy,hm⟩
 try dsimp only[Yd,Ye]at*
 have hpl:=hm.perm.length_eq
 simp only[Ya]at hpl
 haveI hxi:Sl (dH F2::dH F0::dH F1::H) xa eSp ar:=fy (ie (ie cK.none)) hx
 haveI hyi:Sl (dH F2::dH F0::dH F1::H) yb eSp br:=fy (ie (ie cK.none)) hy
 refine gk (k:=wi_ (k:=fun h2=>?_) (m:=fun h2=>?_))
 ·refine wk_ (qn_ (wb_ (gG (Bool) (fun y=> (y=true→∃a ar',ar=a::ar'∧∀b,br.head? =some b→ltS a b)∧(y=false→∃b br',br=b::br'∧∀a,ar.head? =some a→leS b a)) (fun y=> [(45, .bool y)]) [29,30,31,32,33,34,35,36,37,38,39,40,41,42,43,44,45] ?_ ?_)))
  ·refine cW cL (as_ 0 (q:=mv) (k:=as_ 1 (q:=lnn) (k:=as_ 2 (q:=ieq) (k:=?_))))
   refine gp 3 rfl rfl (aa) rfl (du (mv)) (fun h3=> ?_) (fun h3=> ?_)
   ·replace h3:=nrm h3
    have hbr:br= []:=List.eq_nil_of_length_eq_zero (a8)
    obtain⟨a,ar',har⟩:∃a ar',ar=a::ar':=List.exists_cons_of_length_pos (a8)
    refine ao_ 4 (k:=ao_ 5 (k:=ao_ 6 (k:=ao_ 7 (k:=ff 8 (k:=ff 9 (k:=ff 10 (k:=ff 11 (k:=ff 12 (k:=ff 13 (k:=ff 14 (k:=ao_ 15 (k:=as_ 16 (q:=pkt) (k:=az_ (k:=?_))))))))))))))
    refine jnE (true) (q:=?_)
    exact⟨fun _=> ⟨a,ar',har,fun b hb=> by rw[hbr]at hb;cases hb⟩,fun hh=> (by cases hh)⟩
   replace h3:=nrm h3
   refine at2 4 (q:=mv) (k:=at2 5 (q:=lnn) (k:=at2 6 (q:=igt) (k:=?_)))
   refine sB 7 rfl rfl rfl rfl (aa) rfl (du (mv)) (fun h4=> ?_) (fun h4=> ?_)
   ·replace h4:=nrm h4
    obtain⟨a,ar',har⟩:∃a ar',ar=a::ar':=List.exists_cons_of_length_pos (a8)
    obtain⟨b,br',hbr⟩:∃b br',br=b::br':=List.exists_cons_of_length_pos (a8)
    have ha0:ar[0]? =some a:=by rw[har];all_goals rfl
    have hb0:br[0]? =some b:=by rw[hbr];all_goals rfl
    refine at2 8 (q:=mv) (k:=at2 9 (q:=ixa (i:=0)) (k:=at2 10 (q:=Mn) (k:=at2 11 (q:=mv) (k:=at2 12 (q:=ixa (i:=0)) (k:=at2 13 (q:=Mn) (k:=?_))))))
    refine jN 14 rfl rfl rfl rfl (aa) rfl (j9 (vs:= [_,_]) rfl M6) (?_)
    refine at2 15 (q:=pkt) (k:=as_ 16 (q:=pkf) (k:=az_ (k:=jnE (decide (ltS a b)) (q:=?_))))
    exact⟨fun hh=> ⟨a,ar',har,fun b' hb'=> by rw[hbr]at hb';cases hb';exact Yt hh⟩,fun hh=> ⟨b,br',hbr,fun a' ha'=> by rw[har]at ha';cases ha';exact of_decide_eq_false hh⟩⟩
   replace h4:=nrm h4
   have har:ar= []:=List.eq_nil_of_length_eq_zero (a8)
   obtain⟨b,br',hbr⟩:∃b br',br=b::br':=List.exists_cons_of_length_pos (a8)
   refine ao_ 8 (k:=ao_ 9 (k:=ao_ 10 (k:=ao_ 11 (k:=ao_ 12 (k:=ao_ 13 (k:=ao_ 14 (k:=at2 15 (q:=pkf) (k:=as_ 16 (q:=pkf) (k:=az_ (k:=jnE (false) (q:=?_)))))))))))
   exact⟨fun hh=> (by cases hh),fun _=> ⟨b,br',hbr,fun a ha=> by rw[har]at ha;cases ha⟩⟩
  rintro c ⟨hct,hcf⟩
  try dsimp only[Yd,Ye]at*
  refine wi_ (k:=fun h5=>?_) (m:=fun h5=>?_)
  ·obtain⟨a,ar',har,hlt⟩:=hct h5
   have ha0:ar[0]? =some a:=by rw[har];all_goals rfl
   have hal:ar.length=ar'.length+1:=by rw[har];all_goals rfl
   refine ws_ (wr_ (e_ mv (k:=e_ mv (k:=e_ (ixa (i:=0)) (k:=gk (k:=dD eSp (k:=fun s50=>?_)))))))
   refine app (k:=fun s51=>?_)
   refine go ?_
   refine iP [dH F1,dH F0] rfl (1) (ar.length) ⟨_,_,rfl,(aG)⟩ rfl (a8) (aE) rfl (fun sx ix=>?_)
   refine go ?_
   refine ln_ ((sx,yb,s51,out++ [a],ar',br)) (k:=?_)
   try dsimp only
   exact⟨by rw[har]at ix;simpa using ix,hy,by rw[har]at hm;exact hm.left hlt⟩
  obtain⟨b,br',hbr,hle⟩:=hcf h5
  have hb0:br[0]? =some b:=by rw[hbr];all_goals rfl
  have hbl:br.length=br'.length+1:=by rw[hbr];all_goals rfl
  refine ws_ (wr_ (e_ mv (k:=e_ mv (k:=e_ (ixa (i:=0)) (k:=gk (k:=dD eSp (k:=fun s58=>?_)))))))
  refine app (k:=fun s59=>?_)
  refine go ?_
  refine iP [dH F2,dH F0] rfl (1) (br.length) ⟨_,_,rfl,(aG)⟩ rfl (a8) (aE) rfl (fun sy iy=>?_)
  refine go ?_
  refine ln_ ((xa,sy,s59,out++ [b],ar,br')) (k:=?_)
  try dsimp only
  exact⟨hx,by rw[hbr]at iy;simpa using iy,by rw[hbr]at hm;exact hm.right hle⟩
 have har:ar= []:=List.eq_nil_of_length_eq_zero (a8)
 have hbr:br= []:=List.eq_nil_of_length_eq_zero (a8)
 have hpm:out.Perm l:=by have h9:=hm.perm;rw[har,hbr]at h9;simpa using h9
 refine gk (k:=rt_ Tryz.results135 (k:=?_))
 exact⟨dH [Row u eSp out]::dH F0::H,cK.star (F:= [Row u eSp out]) (hsb),u,out, [Row u eSp out],rfl,hpm,hm.up,inferInstance,rfl⟩
theorem B8 {G:cM}{F0:cG}:∀(n:Nat) {H:cG}{s:SV}{l:List jG},Sl F0 s eSp l→l.length≤n→l.length≤100000000→zd G F0 H s l
 | 0,H,s,l,hs,hn,hb=> rX (hs:=hs) hb fun _ hl=> absurd hl (a8)
 |n+1,H,s,l,hs,hn,hb=> rX (hs:=hs) hb fun hs' hl=> B8 n hs' (a8) (a8)
end Go.Sx
