import Derived.Test.YtefgpomabdplbaaGreatDoorQ46
set_option linter.unusedVariables false
set_option linter.unusedSimpArgs false
set_option linter.unusedSectionVars false
set_option linter.unnecessarySimpa false
set_option maxHeartbeats 0
namespace Go.Sx
open Go Go.Proofs
set_option maxRecDepth 100000
structure CaseE (p:PrG) (fs:List FV) (ps:List ja):Prop extends I0 p fs ps where
 pe:∀d∈ps,∀ws,rX fs ps=true→Ba d.1.length d.2 ws→∃T,xj p ⟨fs,d.1,ws⟩ T∧T≤1048576
 sz:p.code.length+p.curs.length≤1048576
theorem liveC_q {p:PrG}{q:PtD}{ins:List Ins}:liveC (cS p q ins)=liveQ q:=by
 unfold liveC liveQ cS
 rw[Yh]
theorem liveQ_le {q:PtD}:(liveQ q).length≤q.ds.length:=by
 have:=List.length_filter_le (fun d=> !oG q.dw d) (List.range q.ds.length)
 rw[List.length_range]at this
 exact this
theorem dec_len {p:PrG}{l:List Ins}(hb:∀x∈p.code,x<256) (h:lr p=some l):l.length≤p.code.length:=(x7 _ _ _ hb h).2
theorem vals_few {fs:List FV}{ds:List Doc}(h:jF fs ds):∀d∈ds,d.2.length≤1000000000:=fun d hd=> by
 have:=(nW (h.vals d hd)).1
 omega
theorem lenC_le {p:PrG}(hb:∀x∈p.code,x<256):max (lenC p) 0=(((lenC p).toNat:Nat):Int)∧(lenC p).toNat≤p.code.length:=by
 unfold lenC
 cases h:lr p with
 |none=> exact⟨ag,Yl _⟩
 |some l=>
  have:=dec_len hb h
  dsimp only
  exact⟨aa,aa⟩
theorem ends_num {p:PrG}{q:PtD}{T:Nat}{ins:List Ins}{R:List Hit×MS}(hk:xj p q T) (hT:T≤1048576) (hsz:p.code.length+p.curs.length≤1048576) (hn:nv p q= .ok ins) (hR:dK p q ins=R):
 lenC p=((ins.length:Nat):Int)∧R.2.visits≤(liveQ q).length∧R.1.length≤R.2.visits∧R.2.visits≤R.2.steps∧R.2.steps≤ins.length*R.2.visits∧ins.length*R.2.visits≤5000000000∧R.2.steps≤(lenC p).toNat*(liveQ q).length∧kX R.2≤mostE (iQ p q)∧HitsIn ((liveQ q).map (idQ q)) R.1∧
 R.2.steps+kX R.2≤2*(ins.length+p.curs.length+1)*((liveQ q).length+1+sizeE (iQ p q))∧2*(ins.length+p.curs.length+1)*((liveQ q).length+1+sizeE (iQ p q))≤4700000000000000000:=by
 subst hR
 have hc:=(JD hn).2.2
 have hl:lenC p=((ins.length:Nat):Int):=by rw[lenC,hc]
 obtain⟨h1,h2,h3,h4,h5,h6⟩:=run_end hk hn
 rw[liveC_q]at h1 h6
 have hil:=dec_len hk.sm.cb hc
 have hfew:=hk.seg.few
 have hlq:=liveQ_le (q:=q)
 have hpl:(iQ p q).length=p.curs.length:=Yh ..
 have hsm:∀ps∈iQ p q,ps.length≤1048576∧dg ps≤1048576:=fun ps hps=> by
  have g1:=po_len (okPo_one (FF hk.seg ps hps).1)
  have g2:=hk.tot ps hps
  exact⟨aa,aa⟩
 have hse:=size_lt hsm
 have hmo:=most_le (iQ p q)
 rw[hpl]at hse hmo
 have hv:ins.length*(dK p q ins).2.visits≤1048576*4096:=Nat.mul_le_mul (aa) (aa)
 have hs:(dK p q ins).2.steps≤ins.length*(dK p q ins).2.visits:=by rw[Nat.mul_comm];exact h4
 have hL:ins.length*(dK p q ins).2.visits≤(lenC p).toNat*(liveQ q).length:=Nat.mul_le_mul (by rw[hl];exact Nat.le_refl _) h1
 exact⟨hl,h1,h2,h3,hs,aa,aa,h5,h6,ends_le h4 h1 (Xi h5 hmo),ends_fit (aa) (aa) hse⟩
theorem lawEnds {G:cK}{H:cG}{fv pv:SV}{kp:Int}{a:PrA}{p:PrG}{fs:List FV}{lp:List (SV×SV)}{ps:List ja} [hg:Glb G H] [HY G] [hia:Isa H] [Tab H 27 lg] [Tab H 25 jP] [hf:Sl H fv eF fs] [hd:Sl H pv eP lp] [hp:gE H a p] [hpc:qA H a p] [Spc H] (hT:gU G) (hS:lz) (hSI:jS) (hCI:fg) (hpi:oS H lp ps) (hco:CaseE p fs ps):
 SC G Tryz.prog 3 [.agg [fv.val,pv.val, .int .i64 kp,a.av.val,a.cu.val,a.ne.val, .bool p.all,a.dr.val,a.co.val].toArray] H (fun v H'=> v= .bool true∧H'=H):=by
 haveI hnil:∀H9,Sl H9 SV.nil rb []:=fun H9=> ⟨fun L hL=> ⟨rfl,Nat.le_refl _, .inl ⟨rfl,rfl⟩⟩⟩
 have hcsz:=hco.sz
 refine sWk Tryz.func3 Tryz.ntmps3 ?_
 refine gk (k:=bxx (k:=fun b1=>?_))
 refine go ?_
 refine d0_ rfl (LR hT hS hSI hCI) (k:=gk (k:=wi_ (k:=fun h1=>?_) (m:=fun h1=>?_)))
 ·exact absurd h1 (an)
 refine go ?_
 refine c1_ rfl (IL hT hS (hpi.less (hsb)) hco.pl hco.sm hco.fl hco.fn) (k:=?_)
 rintro _ _ (⟨rfl,rfl⟩|⟨d,dv,xv,pt,ws,F,hfx,hdm,hdo,hpt,rfl,rfl⟩)
 ·refine gk (k:=alc (k:=fun b4=>?_))
  refine gk (k:=wi_ (k:=fun h2=>?_) (m:=fun h2=>?_))
  ·refine gk (k:=rt_ Tryz.results3 (k:=?_))
   exact⟨_,hsb,rfl,rfl⟩
  exact absurd h2 (an)
 obtain⟨T,hk,hT2⟩:=hco.pe d hdm ws hfx hdo
 haveI hpt':∀H9,dq (fB F::H9) pt ⟨fs,d.1,ws⟩:=fun H9=> hpt.less lG
 have hps:=hk.sm
 have hfew:d.1.length≤4096:=hk.seg.few
 obtain⟨q,hq⟩:∃q:PtD,q=⟨fs,d.1,ws⟩:=⟨_,rfl⟩
 rw[←hq]at hk hpt'
 obtain⟨hmx,hcl⟩:=lenC_le hps.cb
 have hlq:(liveQ q).length≤4096:=Xi liveQ_le hk.seg.few
 have hpr:(lenC p).toNat*(liveQ q).length≤1048576*4096:=Nat.mul_le_mul (aa) hlq
 refine gk (k:=alc (k:=fun b4=>?_))
 refine gk (k:=wi_ (k:=fun h3=>?_) (m:=fun h3=>?_))
 ·exact absurd h3 (an)
 refine go ?_
 refine d1_ rfl (tLength (a:=a) (p:=p) hps) (k:=go ?_)
 refine c1_ rfl (tLiveDocs (a:=pt) (q:=q) hk.pt (vals_few hk.seg)) (k:=?_)
 rintro _ _ ⟨sl,zs,rfl,hzs,rfl⟩
 have hzl:zs.length=(liveQ q).length:=by have h9:=congrArg List.length hzs;simpa using h9
 have hzv:(zs.map dgV).length=(liveQ q).length:=by rw[Yh];exact hzl
 have hpr2:(((lenC p).toNat:Nat):Int)*(((zs.map dgV).length:Nat):Int)=(((lenC p).toNat*(liveQ q).length:Nat):Int):=by rw[hzv];push_cast;rfl
 have hzL:∀(j:Nat) (z:DG),zs[j]? =some z→((liveQ q).map (idQ q))[j]? =some z.d:=fun j z hj=> by rw[←hzs,Xd,hj];all_goals rfl
 refine e_ asn (k:=on_ (qn_ (ws_ (wr_ (e_ fla (k:=e_ lds (k:=e_ mv (k:=e_ mv (k:=?_)))))))))
 refine e_ (evq (mO rfl rfl) (congrArg (Value.int .i64) hmx)) (k:=?_)
 refine go ?_
 rw[hpr2]
 refine c3_ rfl (Iw (a:=a) (p:=p) (pt:=pt) (q:=q) (fu:=(((lenC p).toNat*(liveQ q).length:Nat):Int)) hSI hCI hk) (k:=?_)
 rintro _ _ (⟨e,hne,he,rfl,rfl⟩|⟨ins,hnw,(⟨hlt,rfl,rfl⟩|⟨hge,sh,rfl,rfl⟩)⟩)
 ·haveI:iJ e:=⟨by rcases he with rfl|rfl <;> decide⟩
  refine gk (k:=alc (k:=fun b8=>?_))
  refine sto (k:=e_ asn (k:=on_ (qn_ (ws_ (ws_ (wr_ (e_ mv (k:=?_))))))))
  refine e_ (cZ rfl) (k:=?_)
  refine on_ (qn_ (ift (k:=ws_ (wr_ (e_ mv (k:=?_))))))
  refine d1_ rfl (Ar e) (k:=e_ asn (k:=on_ (qn_ (ws_ (wr_ (e_ mv (k:=e_ ieq (k:=e_ mv (k:=dN 3 57 (k:=fun h4=>eg_ mv (k:=eg_ ieq (k:=e_ pkf (k:=on_ (edq))))) (q:=e_ mv (k:=dh 4 62 (k:=fun h5=>eg_ lds (k:=eg_ (bld []) (k:=kK (vs:=[_,_]) (hc:=(By (s:=SV.nil) (s2:=SV.nil) (xs:= []) (ys:= []) (ag))) (k:=e_ pkt (k:=on_ (edq)))))) (q:=e_ asn (k:=on_ (?_))))))))))))))
  refine gk (k:=rt_ Tryz.results3 (k:=?_))
  refine⟨_,hsb,?_,rfl⟩
  rcases he with rfl|rfl <;> simp[gF,Jz]
 ·exact absurd hlt (by have h8:=(ends_num hk hT2 hcsz hnw rfl).2.2.2.2.2.2.1;omega)
 generalize hR:dK p q ins=R
 obtain⟨e0,e1,e2,e3,e4,e5,e6,e7,e8,e9,e10⟩:=ends_num hk hT2 hcsz hnw hR
 rw[e0]
 refine gk (k:=alc (k:=fun b8=>?_))
 refine sto (k:=e_ asn (k:=on_ (qn_ (ws_ (ws_ (wr_ (e_ mv (k:=?_))))))))
 refine e_ (cM rfl) (k:=?_)
 refine gk (k:=eg (k:=go ?_))
 refine gk (k:=dt (Nat×Nat) (fun y=> y.1≤R.1.length∧y.2≤(liveQ q).length∧HitsIn (((liveQ q).map (idQ q)).drop y.2) (R.1.drop y.1)) (fun y=> [(11, .int .i64 ((y.2:Nat):Int)),(66, .int .i64 ((y.1:Nat):Int))]) [(1,_),(3,_),(6,_),(7,_),(8,_),(64,_),(65,_)] (fun y=> []) _ (fun y=> R.1.length - y.1) ((0,0)) (h0:=?_) (k:=?_))
 ·try dsimp only
  exact⟨Yl _,Yl _,by rw[List.drop_zero,List.drop_zero];exact e8⟩
 rintro⟨i,k⟩ ⟨hi,hkl,hin⟩
 try dsimp only[Yd,Ye]at*
 refine gk (k:=wi_ (k:=fun h6=>?_) (m:=fun h6=>?_))
 ·obtain⟨hh,hhe⟩:∃hh,R.1[i]? =some hh:=⟨_,Yi (by have h9:=h6;omega)⟩
  rw[dF hhe]at hin
  obtain⟨j,hj1,hj2,hj3⟩:=hits_next hin
  have hkj:k+j<(liveQ q).length:=by have h9:=(Yk.1 hj1).1;rw[Yh]at h9;exact h9
  refine wk_ (qn_ (ws_ (wb_ (ws_ (wr_ (e_ ixa (k:=e_ (jn (hy:=hhe)) (k:=alc (k:=fun b13=>?_)))))))))
  refine gk (k:=dt (Nat) (fun y=> k≤y∧y≤k+j) (fun y=> [(11, .int .i64 ((y:Nat):Int))]) [(1,_),(3,_),(6,_),(7,_),(8,_),(13,_),(64,_),(65,_),(66,_)] (fun y=> []) _ (fun y=> k+j - y) (k) (h0:=?_) (k:=?_))
  ·try dsimp only
   exact⟨Nat.le_refl _,aa⟩
  rintro m ⟨hm1,hm2⟩
  try dsimp only[Yd,Ye]at*
  obtain⟨z,hz⟩:∃z:DG,zs[m]? =some z:=⟨_,Yi (aa)⟩
  have hzd:(zs.map dgV)[m]? =some (z.d,z.s):=by rw[Xd,hz];all_goals rfl
  have hLz:=hzL m z hz
  refine go ?_
  refine cX cI (as_ 0 (q:=mv) (k:=as_ 1 (q:=mv) (k:=as_ 2 (q:=lnn) (k:=as_ 3 (q:=ilt) (k:=?_)))))
  refine gq 4 rfl rfl (a8) rfl (dz (mv)) (fun h7=> ?_) (fun h7=> ?_)
  ·replace h7:=nrm h7
   refine at2 5 (q:=mv) (k:=at2 6 (q:=mv) (k:=at2 7 (q:=ixa) (k:=at2 8 (q:=fle) (k:=at2 9 (q:=lfl (hy:=hzd)) (k:=at2 10 (q:=fla) (k:=at2 11 (q:=ldv) (k:=at2 12 (q:=ilt) (k:=as_ 13 (q:=pkt) (k:=az_ (k:=gk (k:=wi_ (k:=fun h8=>?_) (m:=fun h8=>?_))))))))))))
   ·have hmlt:m<k+j:=by
     rcases Nat.lt_or_eq_of_le hm2 with g8|g8
     ·exact g8
     ·rw[←g8,hLz]at hj1;have g7:=Option.some.inj hj1;have g9:=h8;omega
    refine go ?_
    refine ln_ (m+1) (k:=?_)
    try dsimp only
    exact⟨aa,aa⟩
   obtain rfl:m=k+j:=by
    rcases Nat.lt_or_eq_of_le hm2 with g8|g8
    ·have g7:=hj2 m z.d hm1 g8 hLz;have g9:=h8;omega
    ·exact g8
   have hzh:z.d=hh.1:=by rw[hLz]at hj1;exact Option.some.inj hj1
   refine go ?_
   refine cX cI (as_ 0 (q:=mv) (k:=as_ 1 (q:=mv) (k:=as_ 2 (q:=lnn) (k:=as_ 3 (q:=ige) (k:=?_)))))
   refine gq 4 rfl rfl (a8) rfl (dz (mv)) (fun h9=> ?_) (fun h9=> ?_)
   ·replace h9:=nrm h9
    exact absurd h9 (aa)
   replace h9:=nrm h9
   refine at2 5 (q:=mv) (k:=at2 6 (q:=mv) (k:=at2 7 (q:=ixa) (k:=at2 8 (q:=fle) (k:=at2 9 (q:=lfl (hy:=hzd)) (k:=at2 10 (q:=fla) (k:=at2 11 (q:=ldv) (k:=at2 12 (q:=ine) (k:=as_ 13 (q:=pkf) (k:=az_ (k:=gk (k:=wi_ (k:=fun h10=>?_) (m:=fun h10=>?_))))))))))))
   ·exact absurd h10 (aa)
   refine go ?_
   refine ln_ ((i+1,k+j+1)) (k:=?_)
   try dsimp only
   exact⟨aa,aa,hj3⟩
  replace h7:=nrm h7
  exact absurd h7 (aa)
 refine we_ (qe_ (le_ (bh_ (qn_ (ws_ (wr_ (?_)))))))
 have hpl:(iQ p q).length=p.curs.length:=Yh ..
 have hsm:∀ps∈iQ p q,ps.length≤1048576∧dg ps≤1048576:=fun ps hps=> by
  have g1:=po_len (okPo_one (FF hk.seg ps hps).1)
  have g2:=hk.tot ps hps
  exact⟨aa,aa⟩
 obtain⟨⟨tb,_,hgp⟩,hfa,_⟩:=JD hnw
 obtain⟨t1,t2,t3,t4,t5⟩:=qG hgp.tab
 refine e_ asn (k:=on_ (qn_ (ws_ (wr_ (e_ mv (k:=e_ lnn (k:=?_)))))))
 rw[hzv]
 refine go ?_
 refine gk (k:=dt (Nat×Nat×Nat) (fun y=> y.1≤p.curs.length∧y.2.1=mostE ((iQ p q).take y.1)∧y.2.2=(liveQ q).length+1+sizeE ((iQ p q).take y.1)) (fun y=> [(14, .int .i64 ((y.2.1:Nat):Int)),(15, .int .i64 ((y.2.2:Nat):Int)),(110, .int .i64 ((y.1:Nat):Int))]) [(1,_),(3,_),(6,_),(7,_),(8,_),(108,_),(109,_)] (fun y=> []) _ (fun y=> p.curs.length - y.1) ((0,0,(liveQ q).length+1)) (h0:=?_) (k:=?_))
 ·try dsimp only
  exact⟨Yl _,rfl,rfl⟩
 rintro⟨i,mo,sz⟩ ⟨hi,hmo,hszz⟩
 try dsimp only[Yd,Ye]at*
 refine gk (k:=wi_ (k:=fun h11=>?_) (m:=fun h11=>?_))
 ·obtain⟨⟨fd0,ky⟩,hfk⟩:∃z,p.curs[i]? =some z:=⟨_,Yi (aa)⟩
  obtain⟨hf1,hf2,hf3⟩:=t3 _ (Yj hfk)
  simp only at hf1 hf2 hf3
  obtain⟨fd,rfl⟩:∃n:Nat,fd0=((n:Nat):Int):=⟨fd0.toNat,aa⟩
  have hpk:(iQ p q)[i]? =some (qn q.fs q.ds fd ky):=by rw[iQ,Xd,hfk];all_goals rfl
  obtain⟨hb1,hb2⟩:=hsm _ (Yj hpk)
  have hse:=size_lt (l:=(iQ p q).take i) fun x hx=> hsm x (Yq hx)
  have hme:=most_le ((iQ p q).take i)
  rw[Yg,hpl,Nat.min_eq_left hi]at hse hme
  have hts:=cP hpk
  have hm2:=most_snoc ((iQ p q).take i) (qn q.fs q.ds fd ky)
  have hs2:=size_snoc ((iQ p q).take i) (qn q.fs q.ds fd ky)
  rw[←hts]at hm2 hs2
  refine wk_ (qn_ (ws_ (wb_ (ws_ (wr_ (e_ ixa (k:=e_ (jn (hy:=hfk)) (k:=alc (k:=fun b17=>?_)))))))))
  refine go ?_
  refine df cI (fun i=> [8].contains i) (fun k H=> (k=3→cQ H pt.p [.pointer (some ⟨pt.g,0,none⟩), .pointer (some ⟨pt.d,0,none⟩)])∧(k=5→cQ H b17 [.int .i64 ((fd:Nat):Int), .string ky])∧(k=7→cQ H b17 [.int .i64 ((fd:Nat):Int), .string ky])) (af_ 0 (q:=cD fun H hH=>mv) (k:=af_ 1 (q:=cD fun H hH=>nck) (k:=af_ 2 (q:=cD fun H hH=>fla) (k:=?_))))
  refine cE 3 rfl rfl (a8) rfl (cD fun H hH=>ak) (?_)
  refine af_ 4 (q:=cD fun H hH=>fla) (k:=?_)
  refine cE 5 rfl rfl (a8) rfl (cD fun H hH=>ar) (?_)
  refine af_ 6 (q:=cD fun H hH=>fla) (k:=?_)
  refine cE 7 rfl rfl (a8) rfl (cD fun H hH=>aZ) (?_)
  refine cN 8 rfl (a8) rfl (fun k hk=> ⟨fun hi=> ab,fun hi=> ab,fun hi=> ab⟩) (cW (vs:= [_,_,_]) rfl (II (a:=pt) hk.seg (aa) (aa))) ?_
  rintro _ _ ⟨b122,rfl,rfl⟩
  refine af_ 9 (q:=cD fun H hH=>asn) (k:=db (a8) (fun k hk=> ⟨fun hi=> absurd hk (ad),fun hi=> absurd hk (ad),fun hi=> absurd hk (ad)⟩) (qn_ (ws_ (ws_ (wr_ (e_ mv (k:=?_)))))))
  refine e_ (dU rfl) (k:=?_)
  refine gk (k:=wi_ (k:=fun h12=>?_) (m:=fun h12=>?_))
  ·exact absurd h12 (an)
  refine go ?_
  refine d1_ rfl (tDocsK (ps:=qn q.fs q.ds fd ky)) (k:=go ?_)
  refine d1_ rfl (tTotalK (ps:=qn q.fs q.ds fd ky)) (k:=go ?_)
  refine d1_ rfl (tDocsK (ps:=qn q.fs q.ds fd ky)) (k:=go ?_)
  refine d1_ rfl (tTotalK (ps:=qn q.fs q.ds fd ky)) (k:=go ?_)
  refine ln_ ((i+1,mo+(2*(qn q.fs q.ds fd ky).length+dg (qn q.fs q.ds fd ky)+1),sz+((qn q.fs q.ds fd ky).length+dg (qn q.fs q.ds fd ky)))) (k:=?_)
  try dsimp only
  exact⟨aa,aa,aa⟩
 obtain rfl:i=p.curs.length:=by have h9:=h11;omega
 rw[List.take_of_length_le (by rw[hpl];exact Nat.le_refl _)]at hmo hszz
 rw[←hszz]at e9 e10
 have e4':((R.2.steps:Nat):Int)≤((ins.length:Nat):Int)*((R.2.visits:Nat):Int):=by exact_mod_cast e4
 have e5':((ins.length:Nat):Int)*((R.2.visits:Nat):Int)≤5000000000:=by rw[←Int.natCast_mul];omega
 have e9':((R.2.steps:Nat):Int)+((kX R.2:Nat):Int)≤2*(((ins.length:Nat):Int)+((p.curs.length:Nat):Int)+1)*((sz:Nat):Int):=by exact_mod_cast e9
 have e10':2*(((ins.length:Nat):Int)+((p.curs.length:Nat):Int)+1)*((sz:Nat):Int)≤4700000000000000000:=by rw[show 2*(((ins.length:Nat):Int)+((p.curs.length:Nat):Int)+1)*((sz:Nat):Int)=((2*(ins.length+p.curs.length+1)*sz:Nat):Int)from by push_cast;rfl];omega
 have hil:=dec_len hps.cb (JD hnw).2.2
 refine go ?_
 refine dN 7 154 (k:=fun h13=>gk (k:=edq)) (q:=gk (k:=dN 8 163 (k:=fun h14=>gk (k:=edq)) (q:=gk (k:=dN 6 170 (k:=fun h15=>gk (k:=edq)) (q:=gk (k:=dN 5 176 (k:=fun h16=>gk (k:=edq)) (q:=gk (k:=dN 4 181 (k:=fun h17=>gk (k:=edq)) (q:=gk (k:=wi_ (k:=fun h18=>?_) (m:=fun h18=>?_)))))))))))
 ·exact absurd h18 (aa)
 refine go ?_
 refine gk (k:=rt_ Tryz.results3 (k:=?_))
 refine⟨_,hsb,?_,rfl⟩
 rw[Ys e9']
 all_goals rfl
end Go.Sx
