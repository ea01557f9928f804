import Derived.Test.YtcbidldebfibkaaGreatDoorQ19
set_option linter.unusedVariables false
set_option linter.unusedSimpArgs false
set_option linter.unusedSectionVars false
set_option linter.unnecessarySimpa false
set_option maxHeartbeats 0
namespace Go.Sx
open Go Go.Proofs
set_option maxRecDepth 100000
theorem ra {q r:ByteArray}{l:List Nat}{k:Nat}(h:cF r=l) (hl:l.length≤(cF q).length+k):r.size≤q.size+k:=by
 rw[←cJ r,←cJ q,h];exact hl
theorem MW:ki (iq gY) gY:=mo (an)
theorem MV:ki (iq jx) jx:=mo (an)
theorem rp2:ki (iq ir) ir:=mo (an)
theorem rp3:ki (iq iZ) iZ:=mo (an)
theorem rp4:ki (iq eQ) eQ:=mo (an)
theorem F7 {q r e t:ByteArray}{f:Bool}(h:lZ gY q r e t f):gI (cF q)=bif f then cF r++cF t else cF q:=by
 rw[lZ]at h
 rw[gI]
 cases hl:dR gY (cF q)with
 |none=> rw[hl]at h;obtain⟨rfl,_⟩:=h;rfl
 |some R=> rw[hl]at h;obtain⟨rfl,_,g2,_,g3,_⟩:=h;simp only;rw[←g3,←g2];all_goals rfl
theorem F6 {q r e t:ByteArray}{f:Bool}(h:lZ jx q r e t f):gq (cF q)=bif f && decide (cF e= [101,101,100])then(bif decide (0<gm (cF r))then cF r++cF t else cF q)else bif f && pA (cF r)then kN (cF r)else cF q:=by
 rw[lZ]at h
 rw[gq]
 cases hl:dR jx (cF q)with
 |none=> rw[hl]at h;obtain⟨rfl,_⟩:=h;rfl
 |some R=> rw[hl]at h;obtain⟨rfl,g1,g2,_,g3,_⟩:=h;simp only;rw[←g3,←g2,←g1,Bool.true_and,Bool.true_and]
theorem Kj {G:cM}{H:cG}{q:ByteArray}(hq:q.size≤10000000):SC G Tryz.prog 224 [.string q] H (fun v H'=> ∃r,v= .string r∧cF r=jc (gq (gI (cF q)))∧H'=H):=by
 refine sWk Tryz.func224 Tryz.ntmps224 ?_
 refine ws_ (wr_ (e_ asn (k:=on_ (qn_ (ws_ (wr_ (e_ mv (k:=e_ (bld [(0,_),(1,_)]) (k:=e_ (bld [(0,_),(1,_)]) (k:=e_ (bld [(0,_),(1,_)]) (k:=e_ (bld [(0,_),(1,_)]) (k:=?_))))))))))))
 refine s_ (dp eR (iq gY) (aI) rfl (an)) (k:=?_)
 rintro _ _ ⟨s12,rfl,rfl⟩
 refine c2_ rfl (q8 MW (a8) (ag) (ag)) (k:=?_)
 rintro _ _ ⟨r1,e1,t1,f1,rfl,hL1,rfl⟩
 have hS1:=F7 hL1
 have z1:=qf hL1
 have y1:=wJ (k:=10) hL1 (ag)
 refine e_ mv (k:=e_ exr (k:=e_ exr (k:=e_ exr (k:=alc (k:=fun b4=>?_)))))
 refine e_ asn (k:=sto (k:=e_ asn (k:=on_ (qn_ (gG (ByteArray) (fun y=> cF y=gI (cF q)) (fun y=> [(0, .string y)]) [0,17,18,19,20,21] ?_ ?_)))))
 ·refine ws_ (wr_ (e_ mv (k:=on_ (qn_ (wi_ (k:=fun h1=>?_) (m:=fun h1=>?_))))))
  ·rw[h1]at hS1
   refine wr_ (e_ mv (k:=e_ fla (k:=e_ ldv (k:=e_ Cg (k:=e_ asn (k:=on_ (jnE (_) (q:=?_))))))))
   rw[hS1,ej];all_goals rfl
  rw[h1]at hS1
  refine wk_ (jnE (_) (q:=?_))
  exact hS1.symm
 rintro u hJ2
 try dsimp only[Yd,Ye]at*
 have z2:=ra hJ2 (mS _)
 refine ws_ (wr_ (e_ mv (k:=e_ (bld [(0,_),(1,_)]) (k:=e_ (bld [(0,_),(1,_)]) (k:=e_ (bld [(0,_),(1,_)]) (k:=?_))))))
 refine s_ (dp eR (iq jx) (aI) rfl (an)) (k:=?_)
 rintro _ _ ⟨s27,rfl,rfl⟩
 refine c2_ rfl (q8 MV (a8) (ag) (ag)) (k:=?_)
 rintro _ _ ⟨r2,e2,t2,f2,rfl,hL2,rfl⟩
 have hS2:=F6 hL2
 have z3:=qf hL2
 have y2:=wJ (k:=10) hL2 (ag)
 refine e_ mv (k:=e_ exr (k:=e_ exr (k:=e_ exr (k:=e_ asn (k:=sto (k:=e_ asn (k:=on_ (qn_ (gG (ByteArray) (fun y=> cF y=gq (cF u)) (fun y=> [(0, .string y)]) [0,32,33,34,35,36,37,38,39,40,41,42,43,44,45,46,47,48,49,50,51] ?_ ?_)))))))))
 ·refine ws_ (wr_ (e_ mv (k:=e_ mv (k:=cY 4 37 (k:=fun h2=>eg_ fla (k:=eg_ ldv (k:=eg_ sC (k:=e_ pkt (k:=on_ (edq)))))) (q:=on_ (qn_ (wi_ (k:=fun h3=>?_) (m:=fun h3=>?_))))))))
  ·obtain⟨c1,c2⟩:=h3
   rw[c1,Bool.true_and,Ys (show cF e2= [101,101,100]from c2)]at hS2
   refine ws_ (wr_ (e_ mv (k:=?_)))
   refine d1_ rfl (y8 (a8)) (k:=e_ igt (k:=on_ (qn_ (wi_ (k:=fun h4=>?_) (m:=fun h4=>?_)))))
   ·rw[Ys (show 0<gm (cF r2)from a8)]at hS2
    refine wr_ (e_ mv (k:=e_ fla (k:=e_ ldv (k:=e_ Cg (k:=e_ asn (k:=on_ (jnE (_) (q:=?_))))))))
    rw[hS2,ej];all_goals rfl
   rw[Yr (show ¬0<gm (cF r2)from a8)]at hS2
   refine wk_ (jnE (_) (q:=?_))
   exact hS2.symm
  have hc:(f2 && decide (cF e2= [101,101,100]))=false:=by
   rcases h3 with c|c
   ·rw[c];all_goals rfl
   ·rw[Yr (show ¬cF e2= [101,101,100]from c)];simp
  rw[hc,cond_false]at hS2
  refine ws_ (wr_ (e_ mv (k:=e_ mv (k:=cY 3 49 (k:=fun h5=>eg_ mv (k:=gU (vs:=[_]) (hc:=(Jk (a8))) (k:=e_ pkt (k:=on_ (edq))))) (q:=on_ (qn_ (wi_ (k:=fun h6=>?_) (m:=fun h6=>?_))))))))
  ·obtain⟨c1,c2⟩:=h6
   rw[c1,c2]at hS2
   refine wr_ (e_ mv (k:=?_))
   refine c1_ rfl (HH (a8)) (k:=?_)
   rintro _ _ ⟨r3,rfl,hr3,rfl⟩
   refine e_ asn (k:=on_ (jnE (_) (q:=?_)))
   rw[hr3,hS2];all_goals rfl
  have hc2:(f2 && pA (cF r2))=false:=by
   rcases h6 with c|c
   ·rw[c];all_goals rfl
   ·rw[c];simp
  rw[hc2]at hS2
  refine wk_ (jnE (_) (q:=?_))
  exact hS2.symm
 rintro u2 hJ5
 try dsimp only[Yd,Ye]at*
 have z4:=ra hJ5 (mR _)
 have hul:=cJ u2
 have hxz:=Ao u2 (u2.size - 1)
 refine ws_ (ws_ (wr_ (e_ mv (k:=?_))))
 refine d2_ rfl (iO (a8) (ag)) (k:=e_ mv (k:=cY 7 61 (k:=fun h7=>eg_ mv (k:=eg_ mv (k:=eg_ jA (k:=eg_ (isb (h:=by omega)) (k:=eg_ (pT (hj:=Cv (by have:=lD ‹cX (cF u2) (cF ⟨#[121]⟩)=true›;have h2:(cF ⟨#[121]⟩).length=1:=rfl;omega))) (k:=gU (vs:=[_]) (hc:=(Jk (a8))) (k:=e_ pkt (k:=on_ (edq))))))))) (q:=on_ (qn_ (wi_ (k:=fun h8=>?_) (m:=fun h8=>?_))))))
 ·obtain⟨c1,c2⟩:=h8
  have k3:=lD c1
  have k4:(cF ⟨#[121]⟩).length=1:=rfl
  rw[iI]at c2
  refine wr_ (e_ mv (k:=e_ mv (k:=e_ jA (k:=e_ isb (k:=e_ pT (k:=?_))))))
  refine e_ (gz rfl rfl (by show(u2.extract 0 (u2.size - 1)).size+1≤_;omega)) (k:=?_)
  refine e_ asn (k:=on_ (qn_ (ws_ (wr_ (e_ mv (k:=e_ asn (k:=on_ (qn_ (wt_ (rt_ Tryz.results224 (k:=?_)))))))))))
  exact⟨_,hsb,u2.extract 0 (u2.size - 1)++⟨#[105]⟩,rfl,by rw[←hJ2,←hJ5,jc,show cX (cF u2) [121]=true from c1,c2,ej,iI];all_goals rfl,rfl⟩
 have hc:(cX (cF u2) [121] && pA (dt (cF u2)))=false:=by
  rcases h8 with c|c
  ·rw[show cX (cF u2) [121]=false from c];all_goals rfl
  ·rw[iI]at c;rw[c];simp
 refine wk_ (qn_ (ws_ (wr_ (e_ mv (k:=e_ asn (k:=on_ (qn_ (wt_ (rt_ Tryz.results224 (k:=?_))))))))))
 exact⟨_,hsb,u2,rfl,by rw[←hJ2,←hJ5,jc,hc];all_goals rfl,rfl⟩
theorem M7 {G:cM}{H:cG}{q:ByteArray}(hq:q.size≤10000000):SC G Tryz.prog 226 [.string q] H (fun v H'=> ∃r,v= .string r∧cF r=nL (cF q)∧H'=H):=by
 have hxz:=Ao q (q.size - 1)
 refine sWk Tryz.func226 Tryz.ntmps226 ?_
 refine ws_ (wr_ (e_ asn (k:=on_ (qn_ (gG (ByteArray) (fun y=> cF y=gX (cF q)∧y.size≤q.size) (fun y=> [(0, .string y)]) [0,3,4,5,6,7,8,9,10,11,12,13,14,15,16,17,18,19,20,21,22,23,24,25] ?_ ?_)))))
 ·refine go ?_
  refine d2_ rfl (iO (a8) (ag)) (k:=gk (k:=wi_ (k:=fun h1=>?_) (m:=fun h1=>?_)))
  ·have hE:cX (cF q) [101]=true:=h1
   have k3:=lD h1
   have k4:(cF ⟨#[101]⟩).length=1:=rfl
   have k5:=cJ q
   refine ws_ (wr_ (e_ mv (k:=e_ mv (k:=e_ jA (k:=e_ isb (k:=e_ pT (k:=go ?_)))))))
   refine d1_ rfl (y8 (a8)) (k:=?_)
   rw[iI]
   refine gk (k:=dQ 8 24 (k:=fun h2=>gk (k:=cY 4 23 (k:=fun h3=>gk (k:=gU (vs:=[_]) (hc:=(Ef (a8))) (k:=gk (k:=edq)))) (q:=gk (k:=edq)))) (q:=gk (k:=wi_ (k:=fun h4=>?_) (m:=fun h4=>?_))))
   ·rw[iI]at h4
    have hc:(decide (1<gm (dt (cF q))) ||decide (gm (dt (cF q))=1) && !gr (dt (cF q)))=true:=by
     rcases h4 with c|⟨c,c'⟩
     ·rw[Ys (a8)];all_goals rfl
     ·rw[Ys (show gm (dt (cF q))=1 from a8),c'];simp
    refine gk (k:=jnE (_) (q:=?_))
    exact⟨by rw[gX,hE,hc,iI];all_goals rfl,hxz⟩
   rw[iI]at h4
   have hc:(decide (1<gm (dt (cF q))) ||decide (gm (dt (cF q))=1) && !gr (dt (cF q)))=false:=by
    obtain⟨c,c'⟩:=h4
    rw[Yr (a8)]
    rcases c' with c'|c'
    ·rw[Yr (a8)];all_goals rfl
    ·rw[c'];simp
   refine gk (k:=jnE (_) (q:=?_))
   exact⟨by rw[gX,hE,hc];all_goals rfl,Nat.le_refl _⟩
  have hE:cX (cF q) [101]=false:=h1
  refine gk (k:=jnE (_) (q:=?_))
  exact⟨by rw[gX,hE];all_goals rfl,Nat.le_refl _⟩
 rintro u ⟨hJ,hJz⟩
 try dsimp only[Yd,Ye]at*
 have hul:=cJ u
 refine go ?_
 refine d2_ rfl (iO (a8) (ag)) (k:=gk (k:=cY 4 32 (k:=fun h5=>gk (k:=gU (vs:=[_]) (hc:=(y8 (a8))) (k:=gk (k:=edq)))) (q:=gk (k:=wi_ (k:=fun h6=>?_) (m:=fun h6=>?_)))))
 ·obtain⟨c1,c2⟩:=h6
  have k3:=lD c1
  have k4:(cF ⟨#[108,108]⟩).length=2:=rfl
  refine wr_ (e_ mv (k:=e_ mv (k:=e_ jA (k:=e_ isb (k:=e_ pT (k:=go ?_))))))
  refine gk (k:=rt_ Tryz.results226 (k:=?_))
  exact⟨_,hsb,u.extract 0 (u.size - 1),rfl,by rw[iI,nL,←hJ,show cX (cF u) [108,108]=true from c1,Ys (a8)];all_goals rfl,rfl⟩
 have hN:(cX (gX (cF q)) [108,108] && decide (1<gm (gX (cF q))))=false:=by
  rw[←hJ]
  rcases h6 with k|k
  ·rw[show cX (cF u) [108,108]=false from k];all_goals rfl
  ·rw[Yr (a8)];simp
 refine gk (k:=rt_ Tryz.results226 (k:=?_))
 exact⟨_,hsb,u,rfl,by rw[nL,hN,hJ];all_goals rfl,rfl⟩
theorem FG {n:Nat}(h:n<19):∃a,(eQ.map fun r=> dO r.1)[n]? =some a∧(iq eQ).take (n+1)=(iq eQ).take n++ [(a,⟨#[]⟩)]∧a.size≤10:=by
 have hn:n<eQ.length:=h
 have h2:∀r∈eQ,r.2= []∧r.1.length≤10:=ag
 obtain⟨h3,h4⟩:=h2 _ (List.getElem_mem hn)
 refine⟨dO (eQ[n]).1,by rw[Xd,Yi hn];all_goals rfl,?_,by rw[fg];exact h4⟩
 rw[List.take_add_one,iq,Xd,Yi hn]
 simp only[Option.map_some,Option.toList_some,h3]
 rfl
theorem Ie {q r e t:ByteArray}{f:Bool}(h:lZ eQ q r e t f):l8 (cF q)=bif f && decide (cF e= [105,111,110]) && !cX (cF r) [115] && !cX (cF r) [116]then cF q else fA eQ 1 (cF q):=by
 rw[lZ]at h
 rw[l8]
 cases hl:dR eQ (cF q)with
 |none=> rw[hl]at h;obtain⟨rfl,_⟩:=h;simp only[Bool.false_and,cond_false];rw[fA,hl]
 |some R=> rw[hl]at h;obtain⟨rfl,g1,g2,_,g3,_⟩:=h;simp only;rw[←g3,←g1,Bool.true_and]
theorem HF {G:cM}{H:cG}{q:ByteArray}(hq:q.size≤10000000):SC G Tryz.prog 225 [.string q] H (fun v H'=> ∃r,v= .string r∧cF r=l8 (fA iZ 0 (fA ir 0 (cF q)))∧H'=H):=by
 refine sWk Tryz.func225 Tryz.ntmps225 ?_
 refine ws_ (wr_ (e_ asn (k:=on_ (qn_ (ws_ (wr_ (e_ mv (k:=e_ (bld [(0,_),(1,_)]) (k:=e_ (bld [(0,_),(1,_)]) (k:=e_ (bld [(0,_),(1,_)]) (k:=e_ (bld [(0,_),(1,_)]) (k:=e_ (bld [(0,_),(1,_)]) (k:=e_ (bld [(0,_),(1,_)]) (k:=?_))))))))))))))
 refine e_ (bld [(0,_),(1,_)]) (k:=e_ (bld [(0,_),(1,_)]) (k:=e_ (bld [(0,_),(1,_)]) (k:=e_ (bld [(0,_),(1,_)]) (k:=e_ (bld [(0,_),(1,_)]) (k:=e_ (bld [(0,_),(1,_)]) (k:=e_ (bld [(0,_),(1,_)]) (k:=e_ (bld [(0,_),(1,_)]) (k:=e_ (bld [(0,_),(1,_)]) (k:=e_ (bld [(0,_),(1,_)]) (k:=e_ (bld [(0,_),(1,_)]) (k:=e_ (bld [(0,_),(1,_)]) (k:=e_ (bld [(0,_),(1,_)]) (k:=e_ (bld [(0,_),(1,_)]) (k:=?_))))))))))))))
 refine s_ (dp eR (iq ir) (aI) rfl (an)) (k:=?_)
 rintro _ _ ⟨s30,rfl,rfl⟩
 refine c3_ rfl (ri (most:=0) rp2 (a8) (ag) (ag)) (k:=?_)
 rintro _ _ ⟨r1,rfl,hr1,rfl⟩
 have z1:=ra hr1 (iN (k:=10) (ag) _)
 refine e_ asn (k:=on_ (qn_ (ws_ (wr_ (e_ mv (k:=e_ (bld [(0,_),(1,_)]) (k:=e_ (bld [(0,_),(1,_)]) (k:=e_ (bld [(0,_),(1,_)]) (k:=e_ (bld [(0,_),(1,_)]) (k:=e_ (bld [(0,_),(1,_)]) (k:=e_ (bld [(0,_),(1,_)]) (k:=e_ (bld [(0,_),(1,_)]) (k:=?_)))))))))))))
 refine s_ (dp eR (iq iZ) (aI) rfl (an)) (k:=?_)
 rintro _ _ ⟨s40,rfl,rfl⟩
 refine c3_ rfl (ri (most:=0) rp3 (a8) (ag) (ag)) (k:=?_)
 rintro _ _ ⟨r2,rfl,hr2,rfl⟩
 have z2:=ra hr2 (iN (k:=10) (ag) _)
 refine go ?_
 refine s_ (cZ eR rfl) (k:=?_)
 rintro _ _ ⟨s42,rfl,rfl⟩
 refine go ?_
 refine s_ (dp eS (eQ.map fun r=> dO r.1) (aI) rfl (an)) (k:=?_)
 rintro _ _ ⟨s43,rfl,rfl⟩
 refine gk (k:=dn (SV×Nat) (fun y=> y.2≤19) (fun y=> [(3,y.1.val),(45, .int .i64 ((y.2:Nat):Int))]) [(0,_),(43,_),(44,_)] (fun y=> [Row y.1 eR ((iq eQ).take y.2)]) _ (fun y=> 19 - y.2) ((s42,0)) (h0:=?_) (k:=?_))
 ·try dsimp only
  exact Yl _
 rintro⟨s,n⟩ hn
 try dsimp only[Yd,Ye]at*
 refine gk (k:=wi_ (k:=fun h1=>?_) (m:=fun h1=>?_))
 ·have hlt:n<19:=by have h:=h1;rw[show(eQ.map fun r=> dO r.1).length=19 from rfl]at h;omega
  obtain⟨a,ha,hk,haz⟩:=FG hlt
  have hl4:((iq eQ).take n).length≤19:=by rw[Yg];exact Xi (Nat.min_le_left _ _) hn
  refine wk_ (qn_ (ws_ (wb_ (ws_ (wr_ (e_ ixa (k:=e_ lel (k:=e_ asn (k:=on_ (qn_ (wr_ (e_ mv (k:=e_ mv (k:=?_))))))))))))))
  refine e_ (bld [(0,_),(1,_)]) (k:=dD eR (k:=fun s52=>?_))
  refine app (k:=fun s53=>?_)
  rw[←hk]
  refine go ?_
  refine ln_ ((s53,n+1)) (k:=?_)
  try dsimp only
  omega
 obtain rfl:n=19:=by have h:=h1;rw[show(eQ.map fun r=> dO r.1).length=19 from rfl]at h;omega
 have h4:(iq eQ).take 19=iq eQ:=rfl
 rw[h4]
 refine go ?_
 refine c2_ rfl (q8 rp4 (a8) (ag) (ag)) (k:=?_)
 rintro _ _ ⟨r3,e3,t3,f3,rfl,hL,rfl⟩
 have hS:=Ie hL
 have z3:=qf hL
 refine gk (k:=alc (k:=fun b7=>?_))
 refine gk (k:=cY 4 67 (k:=fun h2=>gk (k:=eg_ sC (k:=gk (k:=edq)))) (q:=gk (k:=cY 4 72 (k:=fun h3=>gk (k:=gU (vs:=[_,_]) (hc:=(iO (a8) (ag))) (k:=gk (k:=edq)))) (q:=go ?_))))
 refine cY 4 77 (k:=fun h4=>gk (k:=gU (vs:=[_,_]) (hc:=(iO (a8) (ag))) (k:=gk (k:=edq)))) (q:=gk (k:=wi_ (k:=fun h5=>?_) (m:=fun h5=>?_)))
 ·obtain⟨⟨⟨c1,c2⟩,c3⟩,c4⟩:=h5
  rw[c1,Ys (show cF e3= [105,111,110]from c2),show cX (cF r3) [115]=false from c3,show cX (cF r3) [116]=false from c4]at hS
  refine gk (k:=rt_ Tryz.results225 (k:=?_))
  exact⟨_,hsb,r2,rfl,by rw[←hr1,←hr2,hS];all_goals rfl,rfl⟩
 have hc:(f3 && decide (cF e3= [105,111,110]) && !cX (cF r3) [115] && !cX (cF r3) [116])=false:=by
  rcases h5 with((c|c)|c)|c
  ·rw[c];all_goals rfl
  ·rw[Yr (show ¬cF e3= [105,111,110]from c)];simp
  ·rw[show cX (cF r3) [115]=true from c];simp
  ·rw[show cX (cF r3) [116]=true from c];simp
 rw[hc]at hS
 refine go ?_
 refine c3_ rfl (ri (most:=1) rp4 (a8) (ag) (ag)) (k:=?_)
 rintro _ _ ⟨r4,rfl,hr4,rfl⟩
 refine gk (k:=rt_ Tryz.results225 (k:=?_))
 exact⟨_,hsb,r4,rfl,by rw[hr4,←hr1,←hr2,hS];all_goals rfl,rfl⟩
theorem Ji {G:cM}{H:cG}{q:ByteArray}(hq:q.size≤5000000):SC G Tryz.prog 206 [.string q] H (fun v H'=> ∃r,v= .string r∧cF r=iD (cF q)∧H'=H):=by
 have hl:=cJ q
 have hxz:=Ao q (q.size - 2)
 refine sWk Tryz.func206 Tryz.ntmps206 ?_
 refine ws_ (wr_ (e_ asn (k:=on_ (qn_ (gG (ByteArray) (fun y=> cF y=kp (cF q)∧y.size≤q.size) (fun y=> [(0, .string y)]) [0,4,5,6,7,8,9,10,11,12,13,14,15] ?_ ?_)))))
 ·refine gk (k:=cY 3 10 (k:=fun h1=>gk (k:=gU (vs:=[_,_]) (hc:=(iO (a8) (ag))) (k:=gk (k:=edq)))) (q:=gk (k:=wi_ (k:=fun h2=>?_) (m:=fun h2=>?_))))
  ·obtain⟨c1,c2⟩:=h2
   refine wr_ (e_ mv (k:=e_ mv (k:=e_ jA (k:=e_ isb (k:=e_ pT (k:=gk (k:=jnE (_) (q:=?_))))))))
   exact⟨by rw[fP,kp,Ys (a8),show cX (cF q) [39,115]=true from c2,hl];all_goals rfl,hxz⟩
  have hc:(decide (2<(cF q).length) && cX (cF q) [39,115])=false:=by
   rcases h2 with c|c
   ·rw[Yr (a8)];all_goals rfl
   ·rw[show cX (cF q) [39,115]=false from c];simp
  refine gk (k:=jnE (_) (q:=?_))
  exact⟨by rw[kp,hc];all_goals rfl,Nat.le_refl _⟩
 rintro u ⟨hub,hJz⟩
 try dsimp only[Yd,Ye]at*
 have hul:=cJ u
 refine gk (k:=wi_ (k:=fun h3=>?_) (m:=fun h3=>?_))
 ·have hS:iD (cF q)=cF u:=by rw[iD,←hub,rQ,Ys (a8)];all_goals rfl
  refine gk (k:=rt_ Tryz.results206 (k:=?_))
  exact⟨_,hsb,u,rfl,hS.symm,rfl⟩
 refine gk (k:=dn (Nat) (fun y=> y≤u.size∧∀j,j<y→nT (at0 (cF u) j)=true) (fun y=> [(3, .int .i64 ((y:Nat):Int))]) [(0,_)] (fun y=> []) _ (fun y=> u.size - y) (0) (h0:=?_) (k:=?_))
 ·try dsimp only
  exact⟨Yl _,fun j hj=> absurd hj (Nat.not_lt_zero _)⟩
 rintro i ⟨hi,hall⟩
 try dsimp only[Yd,Ye]at*
 refine gk (k:=wi_ (k:=fun h4=>?_) (m:=fun h4=>?_))
 ·refine gk (k:=dQ 5 35 (k:=fun h5=>gk (k:=edq)) (q:=go ?_))
  refine wi_ (k:=fun h6=>?_) (m:=fun h6=>?_)
  ·have hn:nT (at0 (cF u) i)=false:=by simp only[nT,Bool.and_eq_false_iff,decide_eq_false_iff_not];omega
   have hS:iD (cF q)=cF u:=by rw[iD,←hub,rQ,BK (a8) hn];simp
   refine gk (k:=rt_ Tryz.results206 (k:=?_))
   exact⟨_,hsb,u,rfl,hS.symm,rfl⟩
  have hy:nT (at0 (cF u) i)=true:=by simp only[nT,Bool.and_eq_true,decide_eq_true_eq];omega
  refine go ?_
  refine ln_ (i+1) (k:=?_)
  try dsimp only
  refine⟨a8,fun j hj=> ?_⟩
  by_cases e:j=i
  ·subst e;exact hy
  ·exact hall j (a8)
 have hA:=all_take hall (a8)
 have hS:iD (cF q)=nL (l8 (fA iZ 0 (fA ir 0 (jc (gq (gI (cF u))))))):=bX
 refine go ?_
 refine c1_ rfl (Kj (a8)) (k:=?_)
 rintro _ _ ⟨r1,rfl,hr1,rfl⟩
 have z1:=ra (q:=u) (k:=40) hr1 (by have a1:=mS (cF u);have a2:=mR (gI (cF u));have a3:=pg (gq (gI (cF u)));omega)
 refine go ?_
 refine c1_ rfl (HF (a8)) (k:=?_)
 rintro _ _ ⟨r2,rfl,hr2,rfl⟩
 have z2:=ra (q:=r1) (k:=30) hr2 (by have a4:=iN (rs:=ir) (most:=0) (k:=10) (ag) (cF r1);have a5:=iN (rs:=iZ) (most:=0) (k:=10) (ag) (fA ir 0 (cF r1));have a6:=qW (fA iZ 0 (fA ir 0 (cF r1)));omega)
 refine go ?_
 refine c1_ rfl (M7 (a8)) (k:=?_)
 rintro _ _ ⟨r3,rfl,hr3,rfl⟩
 have hE:cF r3=iD (cF q):=by
  rw[hr2,hr1]at hr3
  exact hr3.trans hS.symm
 refine gk (k:=rt_ Tryz.results206 (k:=?_))
 exact⟨_,hsb,r3,rfl,hE,rfl⟩
theorem LI {G:cM}{H:cG}{q:ByteArray}(hq:q.size≤1000000000):SC G Tryz.prog 270 [.string q] H (fun v H'=> v= .string (dO (j6 (cF q)))∧H'=H):=by
 have hl:=cJ q
 refine sWk Tryz.func270 Tryz.ntmps270 ?_
 refine go ?_
 refine s_ (LN rfl) (k:=?_)
 rintro _ _ ⟨s7,rfl,rfl⟩
 have hz:cK (Row s7 eB (cF q)::H) (Row s7 eB (jL (cF q) 0)::H):=by rw[Al];exact cK.refl
 refine gk (k:=dn (Nat) (fun y=> y≤q.size) (fun y=> [(10, .int .i64 ((y:Nat):Int))]) [(0,_),(3,_),(8,_),(9,_)] (fun y=> [Row s7 eB (jL (cF q) y)]) H (fun y=> q.size - y) (0) (hh:=?_) (h0:=?_) (k:=?_))
 ·try dsimp only
  exact hz
 ·try dsimp only
  exact Yl _
 rintro i hi
 try dsimp only[Yd,Ye]at*
 have hp:=qp (w:=cF q) (i:=i) (a8)
 refine gk (k:=wi_ (k:=fun h1=>?_) (m:=fun h1=>?_))
 ·have hg:=vO (w:=cF q) (i:=i) (a8)
  refine wk_ (qn_ (ws_ (wb_ (ws_ (wr_ (e_ mv (k:=?_)))))))
  refine e_ (cO rfl rfl i rfl (a8)) (k:=?_)
  refine e_ (dq rfl (aI) (aI) _ hg) (k:=?_)
  refine gk (k:=cY 3 20 (k:=fun h2=>gk (k:=edq)) (q:=gk (k:=dQ 22 43 (k:=fun h3=>gk (k:=cY 6 30 (k:=fun h4=>gk (k:=edq)) (q:=gk (k:=cY 3 34 (k:=fun h5=>gk (k:=edq)) (q:=gk (k:=cY 3 38 (k:=fun h6=>gk (k:=edq)) (q:=gk (k:=cY 3 42 (k:=fun h7=>gk (k:=edq)) (q:=gk (k:=edq)))))))))) (q:=go ?_))))
  refine ir_ (k:=fun h8=>?_) (m:=fun h8=>?_)
  ·have hc:jM (cF q) i=true:=by rw[←h8];exact bq (by simp[jM] <;> omega)
   have hx:at0 (cF q) i≤158:=by simp only[jM,Bool.or_eq_true,Bool.and_eq_true,decide_eq_true_eq]at hc;omega
   refine wr_ (e_ mv (k:=e_ mv (k:=e_ mv (k:=?_))))
   refine e_ (kl 256 rfl rfl rfl rfl _ 32 rfl rfl (a8)) (k:=?_)
   refine e_ (cO rfl rfl i rfl (a8)) (k:=?_)
   refine s_ (fo rfl rfl rfl (a8)) (k:=?_)
   rintro _ _ ⟨rfl,rfl⟩
   rw[CL (a8) hc]
   refine go ?_
   refine ln_ (i+1) (k:=?_)
   try dsimp only
   omega
  have hc:jM (cF q) i=false:=by rw[←h8];exact bq (by simp[jM] <;> omega)
  rw[FJ (a8) hc]
  refine go ?_
  refine ln_ (i+1) (k:=?_)
  try dsimp only
  omega
 obtain rfl:i=q.size:=a8
 refine we_ (qe_ (le_ (bh_ (qn_ (ws_ (wr_ (e_ mv (k:=?_))))))))
 refine e_ (cV rfl) (k:=?_)
 refine gk (k:=rt_ Tryz.results270 (k:=?_))
 refine⟨_,hsb,?_,rfl⟩
 rw[←hl,CM];all_goals rfl
theorem Ma {G:cM}{H:cG}{q:ByteArray}(hq:q.size≤1000000000):SC G Tryz.prog 204 [.string q] H (fun v H'=> v= .string (dO (j6 (cF q)))∧H'=H):=by
 have hl:=cJ q
 refine sWk Tryz.func204 Tryz.ntmps204 ?_
 refine go ?_
 refine s_ (cZ eB rfl) (k:=?_)
 rintro _ _ ⟨s6,rfl,rfl⟩
 refine gk (k:=dn (SV×Nat) (fun y=> y.2≤q.size) (fun y=> [(3,y.1.val),(4, .int .i64 ((y.2:Nat):Int))]) [(0,_)] (fun y=> [Row y.1 eB ((j6 (cF q)).take y.2)]) _ (fun y=> q.size - y.2) ((s6,0)) (h0:=?_) (k:=?_))
 ·try dsimp only
  exact Yl _
 rintro⟨s,i⟩ hi
 try dsimp only[Yd,Ye]at*
 refine gk (k:=wi_ (k:=fun h1=>?_) (m:=fun h1=>?_))
 ·have ht:=uz (w:=cF q) (i:=i) (a8)
  have hll:=fJ (cF q)
  have hyes:jM (cF q) i=true→kH (cF q) i=at0 (cF q) i+32:=fun hc=> by rw[kH,hc];all_goals rfl
  have hno:jM (cF q) i=false→kH (cF q) i=at0 (cF q) i:=fun hc=> by rw[kH,hc];all_goals rfl
  refine go ?_
  refine gk (k:=cY 3 21 (k:=fun h2=>gk (k:=edq)) (q:=gk (k:=wi_ (k:=fun h3=>?_) (m:=fun h3=>?_))))
  ·rw[hyes (by simp[jM];omega)]at ht
   refine wr_ (e_ mv (k:=?_))
   refine e_ (kl 256 rfl rfl rfl rfl _ 32 rfl rfl (a8)) (k:=?_)
   refine gk (k:=cY 6 32 (k:=fun h4=>gk (k:=edq)) (q:=gk (k:=cY 3 36 (k:=fun h5=>gk (k:=edq)) (q:=gk (k:=cY 3 40 (k:=fun h6=>gk (k:=edq)) (q:=?_))))))
   refine gk (k:=cY 3 44 (k:=fun h7=>gk (k:=edq)) (q:=gk (k:=wi_ (k:=fun h8=>?_) (m:=fun h8=>?_))))
   ·exfalso;omega
   try rw[hno (by cases hc:jM (cF q) i with
    |false=> rfl
    |true=> exfalso;simp[jM]at*;omega)]at ht
   refine gk (k:=dD eB (k:=fun s49=>?_))
   refine app (k:=fun s50=>?_)
   rw[←ht]
   refine go ?_
   refine ln_ ((s50,i+1)) (k:=?_)
   try dsimp only
   omega
  refine gk (k:=cY 6 32 (k:=fun h9=>gk (k:=edq)) (q:=gk (k:=cY 3 36 (k:=fun h10=>gk (k:=edq)) (q:=gk (k:=cY 3 40 (k:=fun h11=>gk (k:=edq)) (q:=go ?_))))))
  refine cY 3 44 (k:=fun h12=>gk (k:=edq)) (q:=gk (k:=wi_ (k:=fun h13=>?_) (m:=fun h13=>?_)))
  ·rw[hyes (by simp[jM]at*;omega)]at ht
   refine wr_ (e_ mv (k:=?_))
   refine e_ (kl 256 rfl rfl rfl rfl _ 32 rfl rfl (a8)) (k:=?_)
   refine gk (k:=dD eB (k:=fun s49=>?_))
   refine app (k:=fun s50=>?_)
   rw[←ht]
   refine go ?_
   refine ln_ ((s50,i+1)) (k:=?_)
   try dsimp only
   omega
  try rw[hno (by cases hc:jM (cF q) i with
   |false=> rfl
   |true=> exfalso;simp[jM]at*;omega)]at ht
  refine gk (k:=dD eB (k:=fun s49=>?_))
  refine app (k:=fun s50=>?_)
  rw[←ht]
  refine go ?_
  refine ln_ ((s50,i+1)) (k:=?_)
  try dsimp only
  omega
 obtain rfl:i=q.size:=a8
 refine we_ (qe_ (le_ (bh_ (qn_ (ws_ (wr_ (e_ mv (k:=?_))))))))
 refine e_ (cV rfl) (k:=?_)
 refine gk (k:=rt_ Tryz.results204 (k:=?_))
 refine⟨_,hsb,?_,rfl⟩
 rw[←hl,List.take_of_length_le (by rw[fJ];exact Nat.le_refl _)];all_goals rfl
theorem K0 {G:cM}{H:cG}{q:ByteArray}{s:SV}{l:List ByteArray} [hs:Sl H s eS l] (hn:l.length≤1000000):SC G Tryz.prog 273 [s.val, .string q] H (fun v H'=> ∃k:Int,v= .int .i64 k∧(0≤k↔cF q∈l.map cF)∧H'=H):=by
 refine sWk Tryz.func273 Tryz.ntmps273 ?_
 refine go ?_
 refine dn (Nat) (fun y=> y≤l.length∧∀j e,j<y→l[j]? =some e→¬cF q=cF e) (fun y=> [(8, .int .i64 ((y:Nat):Int))]) [(0,_),(1,_),(7,_)] (fun y=> []) _ (fun y=> l.length - y) (0) (h0:=?_) (k:=?_)
 ·try dsimp only
  exact⟨Yl _,fun j e hj=> absurd hj (Nat.not_lt_zero _)⟩
 rintro i ⟨hi,hall⟩
 try dsimp only[Yd,Ye]at*
 refine gk (k:=wi_ (k:=fun h1=>?_) (m:=fun h1=>?_))
 ·obtain⟨e,he⟩:∃e,l[i]? =some e:=⟨_,Yi (a8)⟩
  refine wk_ (qn_ (ws_ (wb_ (ws_ (wr_ (e_ mv (k:=e_ asn (k:=on_ (qn_ (ws_ (wr_ (e_ mv (k:=e_ mv (k:=?_))))))))))))))
  refine e_ mv (k:=e_ ixa (k:=e_ lel (k:=e_ sC (k:=on_ (qn_ (wi_ (k:=fun h2=>?_) (m:=fun h2=>?_)))))))
  ·have hm:cF q∈l.map cF:=by rw[h2];exact List.mem_map_of_mem (Yj he)
   refine gk (k:=rt_ Tryz.results273 (k:=?_))
   exact⟨_,hsb,_,rfl,⟨fun _=> hm,fun _=> a8⟩,rfl⟩
  have hno:=h2
  refine go ?_
  refine ln_ (i+1) (k:=?_)
  try dsimp only
  refine⟨a8,fun j e' hj hje=> ?_⟩
  by_cases e0:j=i
  ·subst e0;rw[he]at hje;cases hje;exact hno
  ·exact hall j e' (a8) hje
 refine gk (k:=rt_ Tryz.results273 (k:=?_))
 refine⟨_,hsb,_,rfl,⟨fun h=> by(exfalso;revert h;decide),fun h=> ?_⟩,rfl⟩
 obtain⟨e,he,hb⟩:=List.mem_map.1 h
 obtain⟨j,hj⟩:=List.mem_iff_getElem?.1 he
 have hjl:=(Yk.1 hj).1
 exact absurd hb.symm (hall j e (a8) hj)
theorem Ch {G:cM}{H:cG}{q:ByteArray}{s:SV}{l:List ByteArray} [hs:Sl H s eS l] (hn:l.length≤1000000):SC G Tryz.prog 272 [s.val, .string q] H (fun v H'=> v= .bool (decide (cF q∈l.map cF))∧H'=H):=by
 refine sWk Tryz.func272 Tryz.ntmps272 ?_
 refine go ?_
 refine c2_ rfl (K0 hn) (k:=?_)
 rintro _ _ ⟨k,rfl,hk,rfl⟩
 refine gk (k:=rt_ Tryz.results272 (k:=?_))
 exact⟨_,hsb,vb (by simp only[decide_eq_true_eq];exact hk),rfl⟩
def gW:List ByteArray:=im.map dO
theorem lL:gW.map cF=im:=an
theorem Ke {G:cM}{H:cG}:SC G Tryz.prog 222 [] H (fun v H'=> ∃s:SV,v=s.val∧H'=Row s eS gW::H):=by
 refine sWk Tryz.func222 Tryz.ntmps222 ?_
 refine go ?_
 refine s_ (dp eS gW (aI) rfl (an)) (k:=?_)
 rintro _ _ ⟨s1,rfl,rfl⟩
 refine gk (k:=rt_ Tryz.results222 (k:=?_))
 exact⟨_,hsb,s1,rfl,rfl⟩
theorem HI {G:cM}{H:cG}{q:ByteArray}:SC G Tryz.prog 205 [.string q] H (fun v H'=> v= .bool (decide (cF q∈im))∧H'=H):=by
 have hz:gW.length=42:=rfl
 refine sWk Tryz.func205 Tryz.ntmps205 ?_
 refine go ?_
 refine c0_ rfl (Ke) (k:=?_)
 rintro _ _ ⟨s5,rfl,rfl⟩
 refine gk (k:=dn (Nat) (fun y=> y≤gW.length∧∀j e,j<y→gW[j]? =some e→¬cF e=cF q) (fun y=> [(7, .int .i64 ((y:Nat):Int))]) [(0,_),(5,_),(6,_)] (fun y=> []) _ (fun y=> gW.length - y) (0) (h0:=?_) (k:=?_))
 ·try dsimp only
  exact⟨Yl _,fun j e hj=> absurd hj (Nat.not_lt_zero _)⟩
 rintro i ⟨hi,hall⟩
 try dsimp only[Yd,Ye]at*
 refine gk (k:=wi_ (k:=fun h1=>?_) (m:=fun h1=>?_))
 ·obtain⟨e,he⟩:∃e,gW[i]? =some e:=⟨_,Yi (a8)⟩
  refine wk_ (qn_ (ws_ (wb_ (ws_ (wr_ (e_ ixa (k:=e_ lel (k:=e_ asn (k:=on_ (qn_ (ws_ (wr_ (e_ mv (k:=?_))))))))))))))
  refine e_ mv (k:=e_ sC (k:=on_ (qn_ (wi_ (k:=fun h2=>?_) (m:=fun h2=>?_)))))
  ·have hm:cF q∈im:=by rw[←h2,←lL];exact List.mem_map_of_mem (Yj he)
   refine gk (k:=rt_ Tryz.results205 (k:=?_))
   exact⟨_,hsb,by rw[Ys hm];all_goals rfl,rfl⟩
  have hno:=h2
  refine go ?_
  refine ln_ (i+1) (k:=?_)
  try dsimp only
  refine⟨a8,fun j e' hj hje=> ?_⟩
  by_cases e0:j=i
  ·subst e0;rw[he]at hje;cases hje;exact hno
  ·exact hall j e' (a8) hje
 have hm:¬cF q∈im:=fun h=> by
  rw[←lL]at h
  obtain⟨e,he,hb⟩:=List.mem_map.1 h
  obtain⟨j,hj⟩:=List.mem_iff_getElem?.1 he
  have hjl:=(Yk.1 hj).1
  exact hall j e (a8) hj hb
 refine gk (k:=rt_ Tryz.results205 (k:=?_))
 exact⟨_,hsb,by rw[Yr hm];all_goals rfl,rfl⟩
instance:Str Tryz.prog 315 [] []:=eN Tryz.underlying315 KF (fun _=> aa) rfl
instance:Str Tryz.prog 319 [] []:=eN Tryz.underlying319 KD (fun _=> aa) rfl
inductive Stp where
 |fold
 |stop (s:SV)
 |stem
def JT:Stp→Value
 | .fold=> .iface 315 (.agg #[])
 | .stop s=> .iface 318 (.agg #[s.val])
 | .stem=> .iface 319 (.agg #[])
def pB:Enc Stp:=⟨fun p=> [JT p],1,false,fun _=> rfl,fun p v h=> by simp at h;subst h;cases p <;> rfl,ag,fun _=> rfl,ag⟩
instance {x:Stp}:kK pB x (JT x):=⟨rfl⟩
instance:fH pB (.iface 315 (.agg [].toArray)) .fold:=⟨rfl⟩
instance:fH pB (.iface 319 (.agg [].toArray)) .stem:=⟨rfl⟩
instance {s:SV}:fH pB (.iface 318 (.agg [s.val].toArray)) (.stop s):=⟨rfl⟩
def kF:Stp→List Nat→Option (List Nat)
 | .fold,w=> some (j6 w)
 | .stop _,w=> bif decide (w∈im)then none else some w
 | .stem,w=> some (iD w)
def nH:List Stp→List Nat→Option (List Nat)
 | [],w=> some w
 |x::l,w=> match kF x w with
  |some u=> nH l u
  |none=> none
def rK (o:Option (List Nat)) (r:ByteArray) (b:Bool):Prop:=match o with
 |some u=> cF r=u∧b=true
 |none=> b=false
theorem vP (q:ByteArray):∀x∈j6 (cF q),x<256:=by
 intro x hx
 rw[j6]at hx
 obtain⟨i,_,rfl⟩:=List.mem_map.1 hx
 exact CO (ko q) i
theorem LS {G:cM}{H:cG}{q:ByteArray}(hq:q.size≤5000000):SC G Tryz.prog 269 [.agg [].toArray, .string q] H (fun v H'=> ∃r b,v= .tuple #[.string r, .bool b]∧rK (some (j6 (cF q))) r b∧H'=H):=by
 refine sWk Tryz.func269 Tryz.ntmps269 ?_
 refine gk (k:=bxx (k:=fun b2=>?_))
 refine go ?_
 refine d1_ rfl (LI (a8)) (k:=gk (k:=rt_ Tryz.results269 (k:=?_)))
 exact⟨_,hsb,_,_,rfl,⟨dK (vP _),rfl⟩,rfl⟩
theorem LR {G:cM}{H:cG}{q:ByteArray}(hq:q.size≤5000000):SC G Tryz.prog 274 [.agg [].toArray, .string q] H (fun v H'=> ∃r b,v= .tuple #[.string r, .bool b]∧rK (some (iD (cF q))) r b∧H'=H):=by
 refine sWk Tryz.func274 Tryz.ntmps274 ?_
 refine gk (k:=bxx (k:=fun b2=>?_))
 refine go ?_
 refine c1_ rfl (LG (a8)) (k:=?_)
 rintro _ _ ⟨r1,rfl,hr1,rfl⟩
 refine gk (k:=rt_ Tryz.results274 (k:=?_))
 exact⟨_,hsb,_,_,rfl,⟨hr1,rfl⟩,rfl⟩
theorem LQ {G:cM}{H:cG}{s:SV}{q:ByteArray} [hs:Sl H s eS gW]:SC G Tryz.prog 271 [.agg [s.val].toArray, .string q] H (fun v H'=> ∃r b,v= .tuple #[.string r, .bool b]∧rK (bif decide (cF q∈im)then none else some (cF q)) r b∧H'=H):=by
 refine sWk Tryz.func271 Tryz.ntmps271 ?_
 refine gk (k:=bxx (k:=fun b2=>?_))
 refine go ?_
 refine d2_ rfl (Ch (ag)) (k:=gk (k:=rt_ Tryz.results271 (k:=?_)))
 refine⟨_,hsb,_,_,rfl,?_,rfl⟩
 rw[lL]
 cases h:decide (cF q∈im) <;> simp[rK]
section
variable {G:cM}{N:Nat}{Q:fY}{t:Tm}{H:cG}{ops:Array Oper}{dst:Option Tmp}{ty:TypeId}{pos:String}{after:Array Edge}{g:Option (Nat×Bool)}{l:List Oper}
theorem JU {recv y:Operand}{ats:Array TypeId}{x:Stp}{q:ByteArray}(hr:evo t recv=some (JT x)) (hx:evo t y=some (.string q)) (hq:q.size≤5000000) (hs:∀s,x= .stop s→Sl H s eS gW):
 St G Tryz.prog ⟨dst, .call ⟨.invoke recv "concord/tokens.do", #[y],ats⟩,ty,pos,after,g⟩ t H (fun v H'=> ∃r b,v= .tuple #[.string r, .bool b]∧rK (kF x (cF q)) r b∧H'=H):=by
 have hxs:uB t [y]=some [.string q]:=by simp[uB,hx]
 cases x with
 |fold=> exact qX (xs:= [y]) (ws:= [.agg [].toArray, .string q]) (f:=269) hr hxs (fun w=> aa) (LS hq)
 |stop s=>
  haveI:=hs s rfl
  exact qX (xs:= [y]) (ws:= [.agg [s.val].toArray, .string q]) (f:=271) hr hxs (fun w=> aa) LQ
 |stem=> exact qX (xs:= [y]) (ws:= [.agg [].toArray, .string q]) (f:=274) hr hxs (fun w=> aa) (LR hq)
end
def oM (o:Option (List Nat)) (r:ByteArray) (b:Bool):Prop:=match o with
 |some u=> cF r=u∧b=decide (u.length≤64)
 |none=> b=false
theorem ku {o:Option (List Nat)}{w:List Nat}{r:ByteArray}(h:o=some w) (hb:cF r=w):oM o r (decide ((r.size:Int)≤64)):=by
 rw[h]
 refine⟨hb,?_⟩
 rw[←hb,cJ]
 apply decide_eq_decide.2
 omega
theorem BU {xs:List Stp}{i:Nat}{x:Stp}(h:xs[i]? =some x) (w:List Nat):nH (xs.drop i) w=match kF x w with
 |some u=> nH (xs.drop (i+1)) u
 |none=> none:=by
 have hi:=(Yk.1 h).1
 have e:xs[i]=x:=(Yk.1 h).2
 rw[List.drop_eq_getElem_cons hi,nH,e]
 all_goals (cases kF x w <;> rfl)
theorem DC {x:Stp}{w u:List Nat}(h:kF x w=some u):u.length≤w.length+100:=by
 cases x with
 |fold=> simp only[kF,Option.some.injEq]at h;rw[←h,fJ];omega
 |stop s=>
  simp only[kF]at h
  cases hd:decide (w∈im) <;> rw[hd]at h
  ·simp only[cond_false,Option.some.injEq]at h;rw[h];omega
  ·cases h
 |stem=> simp only[kF,Option.some.injEq]at h;rw[←h];exact DD w
theorem Dv {G:cM}{H:cG}{s:SV}{xs:List Stp}{q:ByteArray} [hx:Sl H s pB xs] (hn:xs.length≤3) (hq:q.size≤4000000) (hs:∀s,Stp.stop s∈xs→Sl H s eS gW):SC G Tryz.prog 193 [s.val, .string q] H (fun v H'=> ∃r b,v= .tuple #[.string r, .bool b]∧oM (nH xs (cF q)) r b∧H'=H):=by
 refine sWk Tryz.func193 Tryz.ntmps193 ?_
 refine go ?_
 refine gk (k:=dn (Nat×ByteArray) (fun y=> y.1≤xs.length∧nH xs (cF q)=nH (xs.drop y.1) (cF y.2)∧y.2.size≤q.size+100*y.1) (fun y=> [(1, .string y.2),(11, .int .i64 ((y.1:Nat):Int))]) [(9,_),(10,_)] (fun y=> []) _ (fun y=> xs.length - y.1) ((0,q)) (h0:=?_) (k:=?_))
 ·try dsimp only
  exact⟨Yl _,rfl,Nat.le_refl _⟩
 rintro⟨i,u⟩ ⟨hi,hth,hz⟩
 try dsimp only[Yd,Ye]at*
 refine gk (k:=wi_ (k:=fun h1=>?_) (m:=fun h1=>?_))
 ·obtain⟨x,hxi⟩:∃x,xs[i]? =some x:=⟨_,Yi (a8)⟩
  have hd:=BU hxi (cF u)
  have hss:∀s,x= .stop s→Sl H s eS gW:=fun s e=> hs s (by rw[←e];exact Yj hxi)
  refine go ?_
  refine go ?_
  refine s_ (JU (x:=x) rfl rfl (a8) hss) (k:=?_)
  rintro _ _ ⟨r,b,rfl,hw,rfl⟩
  have hul:=cJ u
  refine gk (k:=wi_ (k:=fun h2=>?_) (m:=fun h2=>?_))
  ·obtain rfl:b=false:=by simpa using h2
   have hN:nH xs (cF q)=none:=by
    rw[hth,hd]
    cases hso:kF x (cF u)with
    |none=> rfl
    |some w=> rw[hso]at hw;exact absurd hw.2 (ag)
   refine gk (k:=rt_ Tryz.results193 (k:=?_))
   refine⟨_,hsb,_,_,rfl,?_,rfl⟩
   rw[hN];exact rfl
  obtain rfl:b=true:=by simpa using h2
  obtain⟨w,hso,hrw⟩:∃w,kF x (cF u)=some w∧cF r=w:=by
   cases hso:kF x (cF u)with
   |none=> rw[hso]at hw;exact absurd hw (by simp[rK])
   |some w=> rw[hso]at hw;exact⟨w,rfl,hw.1⟩
  have hz2:=DC hso
  have hrl:=cJ r
  refine go ?_
  refine ln_ ((i+1,r)) (k:=?_)
  try dsimp only
  refine⟨a8,?_,by rw[hrw]at hrl;omega⟩
  rw[hth,hd,hso,hrw]
 obtain rfl:i=xs.length:=a8
 rw[List.drop_length,nH]at hth
 have hul:=cJ u
 refine go ?_
 refine gk (k:=rt_ Tryz.results193 (k:=?_))
 refine⟨_,hsb,_,_,rfl,?_,rfl⟩
 rw[hth];exact⟨rfl,by rw[hul];congr 1;apply propext;omega⟩
def nK (p:FV) (s:SV):List Stp:=(bif p.fold then [Stp.fold]else [])++(bif p.stop then [Stp.stop s]else [])++(bif p.stem then [Stp.stem]else [])
def jD (p:FV) (w:List Nat):Option (List Nat):=
 bif p.stop && decide ((bif p.fold then j6 w else w)∈im)then none else some (bif p.stem then iD (bif p.fold then j6 w else w)else(bif p.fold then j6 w else w))
theorem zp (p:FV) (s:SV) (w:List Nat):nH (nK p s) w=jD p w:=by
 obtain⟨n,k,a,b,c⟩:=p
 unfold nK jD
 cases a <;> cases b <;> cases c <;> simp only[cond_true,cond_false,Ye,Ym,Yd,nH,kF,Bool.true_and,Bool.false_and]
 all_goals first
  |rfl
  |(cases decide (w∈im) <;> rfl)
  |(cases decide (j6 w∈im) <;> rfl)
class Spc (H:cG):Prop where
 out:∀L,Sep H L→∃E fz,(27,Obj.cells ((List.range 256).map fun i=> Value.int .u8 (if i=9∨i=10∨i=11∨i=12∨i=13∨i=32 then 1 else 0)).toArray E fz)∈L
instance Spc.tail {A:Hp}{H:cG} [h:Spc H]:Spc (A::H):=
 ⟨fun L hL=> aQ⟩
def gE (G:cM):Prop:=∀H,Spc H→SC G Tryz.prog 211 [] H (fun v H'=> ∃s:SV,v=s.val∧H'=Row s eS gW::H)
section
variable {G:cM}{t:Tm}{H:cG}{dst:Option Tmp}{ty:TypeId}{pos:String}{after:Array Edge}{g:Option (Nat×Bool)}
theorem Mi (v:Value) (W:World):(Instr.makeInterface 315 v).run Tryz.prog W= .ok (.iface 315 v) W:=aa
theorem Jo (v:Value) (W:World):(Instr.makeInterface 318 v).run Tryz.prog W= .ok (.iface 318 v) W:=aa
theorem Bm (v:Value) (W:World):(Instr.makeInterface 319 v).run Tryz.prog W= .ok (.iface 319 v) W:=aa
theorem nf {x:Operand}{v:Value}{T:TypeId}(h:∀v W,(Instr.makeInterface T v).run Tryz.prog W= .ok (.iface T v) W) (hx:evo t x=some v):Ev G Tryz.prog ⟨dst, .makeInterface T x,ty,pos,after,g⟩ t H (.iface T v):=
 fun ρ hρ w _=> by
  simp only[execOp,hρ _ _ hx,Sem.run_bind,h,Result.andThen_ok,Sem.run_pure]
end
theorem Hb {G:cM}{H:cG}(p:FV) [Spc H] (hS:gE G):SC G Tryz.prog 192 [.agg [.string p.name, .int .i64 p.kind, .bool p.fold, .bool p.stop, .bool p.stem].toArray] (Row SV.nil pB []::H) (fun v H'=> ∃c s:SV,v=c.val∧H'=Row c pB (nK p s)::Row s eS (bif p.stop then gW else [])::H):=by
 obtain⟨n,k,a,b,c⟩:=p
 dsimp only
 refine sWk Tryz.func192 Tryz.ntmps192 ?_
 refine gk (k:=bxx (k:=fun b1=>?_))
 refine e_ asn (k:=on_ (qn_ (ws_ (wr_ (?_)))))
 refine e_ (asv (v:=SV.nil.val) rfl rfl) (k:=?_)
 refine gk (k:=wi_ (k:=fun h1=>?_) (m:=fun h1=>?_))
 ·subst h1
  refine wr_ (e_ mv (k:=e_ (bld []) (k:=?_)))
  refine e_ (nf Mi rfl) (k:=?_)
  refine dD pB (k:=fun s9=>?_)
  refine app (k:=fun s10=>?_)
  refine gk (k:=wi_ (k:=fun h2=>?_) (m:=fun h2=>?_))
  ·subst h2
   refine go ?_
   refine c0_ rfl (hS _ inferInstance) (k:=?_)
   rintro _ _ ⟨s5,rfl,rfl⟩
   refine e_ (bld [(0,_)]) (k:=?_)
   refine e_ (nf Jo rfl) (k:=?_)
   refine dD pB (k:=fun s17=>?_)
   refine app (k:=fun s18=>?_)
   refine gk (k:=wi_ (k:=fun h3=>?_) (m:=fun h3=>?_))
   ·subst h3
    refine wr_ (e_ mv (k:=e_ (bld []) (k:=?_)))
    refine e_ (nf Bm rfl) (k:=?_)
    refine dD pB (k:=fun s24=>?_)
    refine app (k:=fun s25=>?_)
    refine gk (k:=rt_ Tryz.results192 (k:=?_))
    first|exact⟨_,hsb,_,s5,rfl,rfl⟩|exact⟨_,hsb,_,SV.nil,rfl,rfl⟩
   subst h3
   refine gk (k:=rt_ Tryz.results192 (k:=?_))
   first|exact⟨_,hsb,_,s5,rfl,rfl⟩|exact⟨_,hsb,_,SV.nil,rfl,rfl⟩
  subst h2
  refine gk (k:=wi_ (k:=fun h4=>?_) (m:=fun h4=>?_))
  ·subst h4
   refine wr_ (e_ mv (k:=e_ (bld []) (k:=?_)))
   refine e_ (nf Bm rfl) (k:=?_)
   refine dD pB (k:=fun s24=>?_)
   refine app (k:=fun s25=>?_)
   refine gk (k:=rt_ Tryz.results192 (k:=?_))
   first|exact⟨_,hsb,_,s5,rfl,rfl⟩|exact⟨_,hsb,_,SV.nil,rfl,rfl⟩
  subst h4
  refine gk (k:=rt_ Tryz.results192 (k:=?_))
  first|exact⟨_,hsb,_,s5,rfl,rfl⟩|exact⟨_,hsb,_,SV.nil,rfl,rfl⟩
 subst h1
 refine gk (k:=wi_ (k:=fun h5=>?_) (m:=fun h5=>?_))
 ·subst h5
  refine go ?_
  refine c0_ rfl (hS _ inferInstance) (k:=?_)
  rintro _ _ ⟨s5,rfl,rfl⟩
  refine e_ (bld [(0,_)]) (k:=?_)
  refine e_ (nf Jo rfl) (k:=?_)
  refine dD pB (k:=fun s17=>?_)
  refine app (k:=fun s18=>?_)
  refine gk (k:=wi_ (k:=fun h6=>?_) (m:=fun h6=>?_))
  ·subst h6
   refine wr_ (e_ mv (k:=e_ (bld []) (k:=?_)))
   refine e_ (nf Bm rfl) (k:=?_)
   refine dD pB (k:=fun s24=>?_)
   refine app (k:=fun s25=>?_)
   refine gk (k:=rt_ Tryz.results192 (k:=?_))
   first|exact⟨_,hsb,_,s5,rfl,rfl⟩|exact⟨_,hsb,_,SV.nil,rfl,rfl⟩
  subst h6
  refine gk (k:=rt_ Tryz.results192 (k:=?_))
  first|exact⟨_,hsb,_,s5,rfl,rfl⟩|exact⟨_,hsb,_,SV.nil,rfl,rfl⟩
 subst h5
 refine gk (k:=wi_ (k:=fun h7=>?_) (m:=fun h7=>?_))
 ·subst h7
  refine wr_ (e_ mv (k:=e_ (bld []) (k:=?_)))
  refine e_ (nf Bm rfl) (k:=?_)
  refine dD pB (k:=fun s24=>?_)
  refine app (k:=fun s25=>?_)
  refine gk (k:=rt_ Tryz.results192 (k:=?_))
  first|exact⟨_,hsb,_,s5,rfl,rfl⟩|exact⟨_,hsb,_,SV.nil,rfl,rfl⟩
 subst h7
 refine gk (k:=rt_ Tryz.results192 (k:=?_))
 first|exact⟨_,hsb,_,s5,rfl,rfl⟩|exact⟨_,hsb,_,SV.nil,rfl,rfl⟩
theorem JR {G:cM}{H:cG}(p:FV) [Spc H] (hS:gE G):SC G Tryz.prog 192 [.agg [.string p.name, .int .i64 p.kind, .bool p.fold, .bool p.stop, .bool p.stem].toArray] H (fun v H'=> ∃c s:SV,v=c.val∧H'=Row c pB (nK p s)::Row s eS (bif p.stop then gW else [])::H):=
 SC.less (cK.nilRow cK.refl) (Hb p hS)
theorem Ek {G:cM}{H:cG}{q:ByteArray}(p:FV) (hq:q.size≤4000000):SC G Tryz.prog 184 [.agg [.string p.name, .int .i64 p.kind, .bool p.fold, .bool p.stop, .bool p.stem].toArray, .string q] H (fun v H'=> ∃r b,v= .tuple #[.string r, .bool b]∧oM (jD p (cF q)) r b∧H'=H):=by
 obtain⟨n,k,a,b,c⟩:=p
 have hl:=cJ q
 dsimp only
 refine sWk Tryz.func184 Tryz.ntmps184 ?_
 refine gk (k:=bxx (k:=fun b2=>?_))
 refine e_ asn (k:=e_ asn (k:=on_ (qn_ (gG (ByteArray) (fun y=> cF y=(bif a then j6 (cF q)else cF q)∧y.size=q.size) (fun y=> [(1, .string y)]) [1,7,8,9,10] ?_ ?_))))
 ·refine gk (k:=wi_ (k:=fun h1=>?_) (m:=fun h1=>?_))
  ·subst h1
   refine go ?_
   refine d1_ rfl (Ma (a8)) (k:=gk (k:=jnE (_) (q:=?_)))
   exact⟨dK (vP _),by rw[fg,fJ,hl]⟩
  subst h1
  refine gk (k:=jnE (_) (q:=?_))
  exact⟨rfl,rfl⟩
 rintro u ⟨hub,hJz⟩
 try dsimp only[Yd,Ye]at*
 have hul:=cJ u
 refine gk (k:=wi_ (k:=fun h2=>?_) (m:=fun h2=>?_))
 ·subst h2
  refine go ?_
  refine d1_ rfl (HI) (k:=gk (k:=wi_ (k:=fun h3=>?_) (m:=fun h3=>?_)))
  ·have hN:jD ⟨n,k,a,true,c⟩ (cF q)=none:=by rw[jD,←hub];simp only[Bool.true_and];rw[Ys (show cF u∈im from h3)];all_goals rfl
   refine gk (k:=rt_ Tryz.results184 (k:=?_))
   exact⟨_,hsb,_,_,rfl,by rw[hN];exact rfl,rfl⟩
  have hS:jD ⟨n,k,a,true,c⟩ (cF q)=some (bif c then iD (cF u)else cF u):=by rw[jD,←hub];simp only[Bool.true_and];rw[Yr (show ¬cF u∈im from h3)];all_goals rfl
  refine gk (k:=wi_ (k:=fun h4=>?_) (m:=fun h4=>?_))
  ·subst h4
   refine go ?_
   refine c1_ rfl (Ji (a8)) (k:=?_)
   rintro _ _ ⟨r1,rfl,hr1,rfl⟩
   have hrl:=cJ r1
   refine go ?_
   refine rt_ Tryz.results184 (k:=?_)
   refine⟨_,hsb,_,_,rfl,?_,rfl⟩
   first|exact ku hS hr1|exact ku hS rfl
  subst h4
  refine gk (k:=rt_ Tryz.results184 (k:=?_))
  refine⟨_,hsb,_,_,rfl,?_,rfl⟩
  first|exact ku hS hr1|exact ku hS rfl
 subst h2
 have hS:jD ⟨n,k,a,false,c⟩ (cF q)=some (bif c then iD (cF u)else cF u):=by rw[jD,hub];all_goals rfl
 refine gk (k:=wi_ (k:=fun h5=>?_) (m:=fun h5=>?_))
 ·subst h5
  refine go ?_
  refine c1_ rfl (Ji (a8)) (k:=?_)
  rintro _ _ ⟨r1,rfl,hr1,rfl⟩
  have hrl:=cJ r1
  refine go ?_
  refine rt_ Tryz.results184 (k:=?_)
  refine⟨_,hsb,_,_,rfl,?_,rfl⟩
  first|exact ku hS hr1|exact ku hS rfl
 subst h5
 refine gk (k:=rt_ Tryz.results184 (k:=?_))
 refine⟨_,hsb,_,_,rfl,?_,rfl⟩
 first|exact ku hS hr1|exact ku hS rfl
end Go.Sx
