import Derived.Test.YtcbidldebfibkaaGreatDoorQ18
set_option linter.unusedVariables false
set_option linter.unusedSimpArgs false
set_option linter.unusedSectionVars false
set_option linter.unnecessarySimpa false
set_option maxHeartbeats 0
namespace Go.Sx
open Go Go.Proofs
set_option maxRecDepth 100000
theorem pC {q e:ByteArray}(h:cX (cF q) (cF e)=true):cF (jg q e)=(cF q).take (q.size - e.size)∧(jg q e).size≤q.size:=by
 rw[jg,h]
 refine⟨fP q _,?_⟩
 have:=cJ (q.extract 0 (q.size - e.size))
 rw[fP,Yg,cJ]at this
 simp only[cond_true];omega
theorem vZ (q e:ByteArray):(jg q e).size≤q.size:=by
 cases h:cX (cF q) (cF e)with
 |true=> exact(pC h).2
 |false=> rw[jg,h];exact Nat.le_refl _
theorem GV {G:cM}{H:cG}{q:ByteArray}(hq:q.size≤10000000):SC G Tryz.prog 281 [.string q] H (fun v H'=> ∃r,v= .string r∧cF r=jc (cF q)∧H'=H):=by
 have hle:=vZ q ⟨#[121]⟩
 have hcs:cX (cF q) [121]=true→cF (jg q ⟨#[121]⟩)=dt (cF q):=fun h=> by
  rw[(pC (e:=⟨#[121]⟩) h).1,dt,cJ];all_goals rfl
 refine sWk Tryz.func281 Tryz.ntmps281 ?_
 refine go ?_
 refine d2_ rfl (vY (a8) (ag)) (k:=gk (k:=cY 3 14 (k:=fun h1=>gk (k:=gU (vs:=[_]) (hc:=(Jd (a8))) (k:=gk (k:=edq)))) (q:=go ?_)))
 refine gk (k:=wi_ (k:=fun h2=>?_) (m:=fun h2=>?_))
 ·obtain⟨g1,g2⟩:=h2
  have g3:=hcs g1
  rw[g3]at g2
  refine ws_ (wr_ (e_ mv (k:=?_)))
  refine e_ (gz rfl rfl (by show(jg q ⟨#[121]⟩).size+1≤_;omega)) (k:=?_)
  refine gk (k:=rt_ Tryz.results281 (k:=?_))
  refine⟨_,hsb,jg q ⟨#[121]⟩++⟨#[105]⟩,rfl,?_,rfl⟩
  rw[ej,g3,jc,show cX (cF q) [121]=true from g1,g2];all_goals rfl
 have h1:=h2
 refine gk (k:=rt_ Tryz.results281 (k:=?_))
 refine⟨_,hsb,q,rfl,?_,rfl⟩
 rw[jc]
 have:(cX (cF q) [121] && pA (dt (cF q)))=false:=by
  cases g1:cX (cF q) [121]with
  |false=> rfl
  |true=>
   rcases h1 with g2|g2
   ·rw[show cX (cF q) (cF ⟨#[121]⟩)=true from g1]at g2;cases g2
   ·rw[hcs g1]at g2;rw[g2];all_goals rfl
 rw[this];all_goals rfl
theorem JE {G:cM}{H:cG}{q:ByteArray}(hq:q.size≤10000000):SC G Tryz.prog 277 [.string q] H (fun v H'=> ∃r,v= .string r∧cF r=nL (cF q)∧H'=H):=by
 have hle:=vZ q ⟨#[101]⟩
 have hcs:cX (cF q) [101]=true→cF (jg q ⟨#[101]⟩)=dt (cF q):=fun h=> by
  rw[(pC (e:=⟨#[101]⟩) h).1,dt,cJ];all_goals rfl
 obtain⟨u,hu⟩:∃u:ByteArray,u=bif cX (cF q) [101] && (decide (1<gm (dt (cF q))) ||decide (gm (dt (cF q))=1) && !gr (dt (cF q)))then jg q ⟨#[101]⟩else q:=⟨_,rfl⟩
 have hub:cF u=gX (cF q):=by
  rw[hu,gX]
  cases h:(cX (cF q) [101] && (decide (1<gm (dt (cF q))) ||decide (gm (dt (cF q))=1) && !gr (dt (cF q))))with
  |false=> rfl
  |true=> rw[Bool.and_eq_true]at h;exact hcs h.1
 have hul:u.size≤q.size:=by
  rw[hu]
  cases(cX (cF q) [101] && (decide (1<gm (dt (cF q))) ||decide (gm (dt (cF q))=1) && !gr (dt (cF q))))with
  |false=> exact Nat.le_refl _
  |true=> exact hle
 refine sWk Tryz.func277 Tryz.ntmps277 ?_
 refine ws_ (wr_ (e_ asn (k:=on_ (qn_ (mP [(0, .string u)] [0,3,4,5,6,7,8,9,10,11,12,13,14,15,16,17,18,19,20,21,22,23,24,25] ?_ ?_)))))
 ·refine go ?_
  refine d2_ rfl (vY (a8) (ag)) (k:=gk (k:=wi_ (k:=fun h1=>?_) (m:=fun h1=>?_)))
  ·have g3:=hcs h1
   have g1:cX (cF q) [101]=true:=h1
   rw[g1,Bool.true_and]at hu
   refine go ?_
   refine d1_ rfl (xy (a8)) (k:=?_)
   rw[g3]
   refine gk (k:=dQ 8 24 (k:=fun h2=>gk (k:=cY 4 23 (k:=fun h3=>gk (k:=gU (vs:=[_]) (hc:=(Dw (a8))) (k:=gk (k:=edq)))) (q:=gk (k:=edq)))) (q:=gk (k:=wi_ (k:=fun h4=>?_) (m:=fun h4=>?_))))
   ·rw[g3]at h4
    rw[show(decide (1<gm (dt (cF q))) ||decide (gm (dt (cF q))=1) && !gr (dt (cF q)))=true by
     rcases h4 with h|⟨h,h'⟩
     ·rw[Ys (a8)];all_goals rfl
     ·rw[Ys (show gm (dt (cF q))=1 from a8),h'];simp]at hu
    obtain rfl:u=jg q ⟨#[101]⟩:=hu
    refine gk (k:=jne)
   rw[g3]at h4
   rw[show(decide (1<gm (dt (cF q))) ||decide (gm (dt (cF q))=1) && !gr (dt (cF q)))=false by
    obtain⟨h,h'⟩:=h4
    rw[Yr (a8)]
    rcases h' with h'|h'
    ·rw[Yr (a8)];all_goals rfl
    ·rw[h'];simp]at hu
   obtain rfl:u=q:=hu
   refine gk (k:=jne)
  have g1:cX (cF q) [101]=false:=h1
  rw[g1,Bool.false_and]at hu
  obtain rfl:u=q:=hu
  refine gk (k:=jne)
 refine go ?_
 refine d2_ rfl (l0 (a8) (ag)) (k:=gk (k:=cY 4 32 (k:=fun h5=>gk (k:=gU (vs:=[_]) (hc:=(xy (a8))) (k:=gk (k:=edq)))) (q:=gk (k:=wi_ (k:=fun h6=>?_) (m:=fun h6=>?_)))))
 ·obtain⟨k1,k2⟩:=h6
  have k3:=lD k1
  simp only[cJ]at k3
  have k4:(⟨#[108,108]⟩:ByteArray).size=2:=rfl
  refine wr_ (e_ mv (k:=e_ mv (k:=e_ jA (k:=e_ isb (k:=e_ pT (k:=go ?_))))))
  refine gk (k:=rt_ Tryz.results277 (k:=?_))
  refine⟨_,hsb,u.extract 0 (u.size - 1),rfl,?_,rfl⟩
  rw[iI,nL,←hub,show cX (cF u) [108,108]=true from k1,Ys (a8)];all_goals rfl
 have hN:(cX (gX (cF q)) [108,108] && decide (1<gm (gX (cF q))))=false:=by
  rw[←hub]
  rcases h6 with k|k
  ·rw[show cX (cF u) [108,108]=false from k];all_goals rfl
  ·rw[Yr (a8)];simp
 refine gk (k:=rt_ Tryz.results277 (k:=?_))
 exact⟨_,hsb,u,rfl,by rw[nL,hN,hub];all_goals rfl,rfl⟩
theorem GW {G:cM}{H:cG}{q:ByteArray}(hq:q.size≤10000000):SC G Tryz.prog 282 [.string q] H (fun v H'=> ∃r,v= .string r∧cF r=gq (cF q)∧H'=H):=by
 refine sWk Tryz.func282 Tryz.ntmps282 ?_
 refine ws_ (wr_ (e_ asn (k:=on_ (qn_ (ws_ (wr_ (e_ mv (k:=?_))))))))
 refine s_ (dp eS ((iz jx).map dO) (aI) rfl (an)) (k:=?_)
 rintro _ _ ⟨s9,rfl,rfl⟩
 refine c2_ rfl (pP LV (a8) (ag) (ag)) (k:=?_)
 rintro _ _ ⟨r,a,rfl,hL,rfl⟩
 refine e_ mv (k:=e_ exr (k:=e_ exr (k:=e_ asn (k:=e_ asn (k:=on_ (qn_ (ws_ (wb_ (ws_ (wr_ (e_ mv (k:=e_ ilt (k:=e_ asn (k:=?_))))))))))))))
 refine on_ (qn_ (wi_ (k:=fun h1=>?_) (m:=fun h1=>?_)))
 ·obtain⟨rfl,hN⟩:=mY hL h1
  refine ws_ (wr_ (e_ mv (k:=e_ asn (k:=on_ (qn_ (wt_ (br_ (qr_ (rt_ Tryz.results282 (k:=?_))))))))))
  exact⟨_,hsb,r,rfl,by rw[gq,hN],rfl⟩
 obtain⟨R,k,g1,rfl,g3,g4,g5,g6⟩:=mX hL h1
 have hk:k<3:=(Yk.1 g1).1
 have hS:gq (cF q)=bif decide (R.1= [101,101,100])then(bif decide (0<gm (cF r))then cF r++R.2 else cF q)else bif pA (cF r)then kN (cF r)else cF q:=by rw[gq,g6,g4]
 refine ws_ (wr_ (e_ mv (k:=e_ ieq (k:=e_ asn (k:=on_ (qn_ (wi_ (k:=fun h2=>?_) (m:=fun h2=>?_))))))))
 ·obtain rfl:k=0:=by omega
  cases g1
  have hS':gq (cF q)=bif decide (0<gm (cF r))then cF r++ [101,101]else cF q:=hS
  have hrq:r.size≤q.size:=a8
  refine ws_ (ws_ (wr_ (e_ mv (k:=?_))))
  refine d1_ rfl (xy (a8)) (k:=e_ igt (k:=on_ (qn_ (wi_ (k:=fun h3=>?_) (m:=fun h3=>?_)))))
  ·have hm:=h3
   refine ws_ (wr_ (e_ mv (k:=?_)))
   refine e_ (gz rfl rfl (by show r.size+2≤_;omega)) (k:=?_)
   refine e_ asn (k:=on_ (qn_ (wt_ (qr_ (br_ (qr_ (rt_ Tryz.results282 (k:=?_))))))))
   exact⟨_,hsb,r++⟨#[101,101]⟩,rfl,by rw[hS',ej,Ys (a8)];all_goals rfl,rfl⟩
  have hm:=h3
  refine wk_ (qn_ (ws_ (wr_ (e_ mv (k:=e_ asn (k:=on_ (qn_ (wt_ (br_ (qr_ (rt_ Tryz.results282 (k:=?_))))))))))))
  exact⟨_,hsb,q,rfl,by rw[hS',Yr (show ¬0<gm (cF r)from a8)];all_goals rfl,rfl⟩
 have hne:¬R.1= [101,101,100]:=by
  rcases(show k=1∨k=2 from a8)with rfl|rfl <;> cases g1 <;> decide
 rw[Yr hne]at hS
 refine ws_ (wr_ (e_ mv (k:=?_)))
 refine d1_ rfl (Jd (a8)) (k:=e_ oQ (k:=e_ asn (k:=on_ (qn_ (wi_ (k:=fun h4=>?_) (m:=fun h4=>?_))))))
 ·have hv:=h4
  refine ws_ (wr_ (e_ mv (k:=e_ asn (k:=on_ (qn_ (wt_ (br_ (qr_ (rt_ Tryz.results282 (k:=?_))))))))))
  exact⟨_,hsb,q,rfl,by rw[hS,hv];all_goals rfl,rfl⟩
 have hM:gq (cF q)=kN (cF r):=by rw[hS,h4];all_goals rfl
 refine wk_ (bn_ (qn_ (ws_ (ws_ (wr_ (?_))))))
 refine s_ (dp eS [⟨#[97,116]⟩,⟨#[98,108]⟩,⟨#[105,122]⟩] (aI) rfl (an)) (k:=?_)
 rintro _ _ ⟨s31,rfl,rfl⟩
 refine e_ lnn (k:=e_ mv (k:=on_ (qn_ (wb_ (dn (Nat) (fun y=> y≤3∧∀j e,j<y→([⟨#[97,116]⟩,⟨#[98,108]⟩,⟨#[105,122]⟩]:List ByteArray)[j]? =some e→cX (cF r) (cF e)=false) (fun y=> [(33, .int .i64 ((y:Nat):Int))]) [(3,_),(31,_),(32,_)] (fun y=> []) _ (fun y=> 3 - y) (0) (h0:=?_) (k:=?_))))))
 ·try dsimp only
  exact⟨Yl _,fun j e hj=> absurd hj (Nat.not_lt_zero _)⟩
 rintro i ⟨hi,hall⟩
 try dsimp only[Yd,Ye]at*
 refine ws_ (wr_ (e_ ilt (k:=on_ (qn_ (ws_ (wi_ (k:=fun h5=>?_) (m:=fun h5=>?_)))))))
 ·have hi3:i<3:=by have:=h5;simp at this;omega
  obtain⟨e,he,hes⟩:∃e,([⟨#[97,116]⟩,⟨#[98,108]⟩,⟨#[105,122]⟩]:List ByteArray)[i]? =some e∧e.size=2:=by
   rcases(show i=0∨i=1∨i=2 from a8)with rfl|rfl|rfl <;> exact⟨_,rfl,rfl⟩
  refine wk_ (qn_ (ws_ (wb_ (ws_ (wr_ (e_ ixa (k:=e_ lel (k:=e_ asn (k:=on_ (qn_ (ws_ (wr_ (e_ mv (k:=?_))))))))))))))
  refine e_ mv (k:=?_)
  refine d2_ rfl (l0 (a8) (a8)) (k:=on_ (qn_ (wi_ (k:=fun h6=>?_) (m:=fun h6=>?_))))
  ·have hE:kN (cF r)=cF r++ [101]:=by
    have:(cX (cF r) [97,116] ||cX (cF r) [98,108] ||cX (cF r) [105,122])=true:=by
     have hi3:i<3:=(Yk.1 he).1
     rcases(show i=0∨i=1∨i=2 from a8)with rfl|rfl|rfl <;> cases he
     ·rw[show cX (cF r) [97,116]=true from h6];all_goals rfl
     ·rw[show cX (cF r) [98,108]=true from h6];simp
     ·rw[show cX (cF r) [105,122]=true from h6];simp
    rw[kN,this];all_goals rfl
   refine ws_ (wr_ (e_ mv (k:=?_)))
   refine e_ (gz rfl rfl (by show r.size+1≤_;omega)) (k:=?_)
   refine e_ asn (k:=on_ (qn_ (wt_ (br_ (qr_ (lr_ (br_ (qr_ (rt_ Tryz.results282 (k:=?_))))))))))
   exact⟨_,hsb,r++⟨#[101]⟩,rfl,by rw[hM,hE,ej];all_goals rfl,rfl⟩
  have hno:=h6
  refine wk_ (bn_ (qn_ (wr_ (e_ iad (k:=e_ mv (k:=on_ (?_)))))))
  refine ln_ (i+1) (k:=?_)
  try dsimp only
  refine⟨by have:=(Yk.1 he).1;simp at this;omega,fun j e' hj hje=> ?_⟩
  by_cases e:j=i
  ·subst e;rw[he]at hje;cases hje;exact hno
  ·exact hall j e' (a8) hje
 obtain rfl:i=3:=by simp at h5;omega
 have hx:(cX (cF r) [97,116] ||cX (cF r) [98,108] ||cX (cF r) [105,122])=false:=by
  rw[show cX (cF r) [97,116]=false from hall 0 _ (a8) rfl,show cX (cF r) [98,108]=false from hall 1 _ (a8) rfl,show cX (cF r) [105,122]=false from hall 2 _ (a8) rfl];all_goals rfl
 have hrl:=cJ r
 refine we_ (qe_ (le_ (bh_ (qn_ (ws_ (ws_ (wr_ (e_ mv (k:=?_)))))))))
 refine d1_ rfl (Ha (a8)) (k:=e_ mv (k:=cY 8 53 (k:=fun h7=>eg_ mv (k:=eg_ mv (k:=eg_ jA (k:=eg_ isb (k:=eg_ (ixs (hj:=Cv (by have:=qC ‹ma (cF r)=true›;omega)) (hlt:=by have:=qC ‹ma (cF r)=true›;omega)) (k:=gU (vs:=[_,_]) (hc:=(indexByte _)) (k:=eg_ ilt (k:=e_ pkt (k:=on_ (edq)))))))))) (q:=on_ (qn_ (wi_ (k:=fun h8=>?_) (m:=fun h8=>?_))))))
 ·obtain⟨d1,d2⟩:=h8
  have d3:=qC d1
  refine ws_ (wr_ (e_ mv (k:=e_ mv (k:=e_ jA (k:=e_ isb (k:=e_ pT (k:=e_ asn (k:=on_ (qn_ (wt_ (qr_ (rt_ Tryz.results282 (k:=?_)))))))))))))
  refine⟨_,hsb,r.extract 0 (r.size - 1),rfl,?_,rfl⟩
  have hn:¬at0 (cF r) (r.size - 1)∈cF ⟨#[108,115,122]⟩:=fun h=> by have:=(n8 (pG _)).2 h;omega
  rw[show cF ⟨#[108,115,122]⟩= [108,115,122]from rfl]at hn
  rw[hM,kN,hx,d1,hrl,iI]
  simp at hn
  simp[hn]
 have hY:(ma (cF r) && !(decide (at0 (cF r) ((cF r).length - 1)=108) ||decide (at0 (cF r) ((cF r).length - 1)=115) ||decide (at0 (cF r) ((cF r).length - 1)=122)))=false:=by
  rcases h8 with d|d
  ·rw[d];all_goals rfl
  ·have hm:=(n8 (q:=⟨#[108,115,122]⟩) (pG (q:=r) (r.size - 1))).1 (a8)
   rw[show cF ⟨#[108,115,122]⟩= [108,115,122]from rfl]at hm
   rw[hrl]
   simp at hm
   rcases hm with h|h|h <;> simp[h]
 refine wk_ (qn_ (ws_ (ws_ (wr_ (e_ mv (k:=?_))))))
 refine d1_ rfl (xy (a8)) (k:=e_ ieq (k:=e_ mv (k:=cY 3 65 (k:=fun h9=>eg_ mv (k:=gU (vs:=[_]) (hc:=(Dw (a8))) (k:=e_ pkt (k:=on_ (edq))))) (q:=on_ (qn_ (wi_ (k:=fun h10=>?_) (m:=fun h10=>?_)))))))
 ·obtain⟨m1,m2⟩:=h10
  refine ws_ (wr_ (e_ mv (k:=?_)))
  refine e_ (gz rfl rfl (by show r.size+1≤_;omega)) (k:=?_)
  refine e_ asn (k:=on_ (qn_ (wt_ (qr_ (rt_ Tryz.results282 (k:=?_))))))
  exact⟨_,hsb,r++⟨#[101]⟩,rfl,by rw[hM,kN,hx,hY,Ys (show gm (cF r)=1 from a8),m2,ej];all_goals rfl,rfl⟩
 have hm:(decide (gm (cF r)=1) && gr (cF r))=false:=by
  rcases h10 with d|d
  ·rw[Yr (a8)];all_goals rfl
  ·rw[d];simp
 refine wk_ (qn_ (ws_ (wr_ (e_ mv (k:=e_ asn (k:=on_ (qn_ (wt_ (rt_ Tryz.results282 (k:=?_))))))))))
 exact⟨_,hsb,r,rfl,by rw[hM,kN,hx,hY,hm];all_goals rfl,rfl⟩
theorem LG {G:cM}{H:cG}{q:ByteArray}(hq:q.size≤5000000):SC G Tryz.prog 275 [.string q] H (fun v H'=> ∃r,v= .string r∧cF r=iD (cF q)∧H'=H):=by
 have hl:=cJ q
 obtain⟨u,hu⟩:∃u:ByteArray,u=bif decide (2<q.size) && cX (cF q) [39,115]then q.extract 0 (q.size - 2)else q:=⟨_,rfl⟩
 have hub:cF u=kp (cF q):=by
  rw[hu,kp,hl]
  cases(decide (2<q.size) && cX (cF q) [39,115])with
  |false=> rfl
  |true=> exact fP q _
 have hul:=cJ u
 have huq:u.size≤q.size:=by
  rw[hu]
  cases(decide (2<q.size) && cX (cF q) [39,115])with
  |false=> exact Nat.le_refl _
  |true=>
   have:=cJ (q.extract 0 (q.size - 2))
   rw[fP,Yg,hl]at this
   simp only[cond_true];omega
 refine sWk Tryz.func275 Tryz.ntmps275 ?_
 refine ws_ (wr_ (e_ asn (k:=on_ (qn_ (ws_ (wr_ (e_ mv (k:=e_ asn (k:=on_ (qn_ (mP [(3, .string u)] [3,6,7,8,9,10,11,12,13,14,15,16,17] ?_ ?_)))))))))))
 ·refine gk (k:=cY 3 12 (k:=fun h1=>gk (k:=gU (vs:=[_,_]) (hc:=(l0 (a8) (ag))) (k:=gk (k:=edq)))) (q:=gk (k:=wi_ (k:=fun h2=>?_) (m:=fun h2=>?_))))
  ·obtain⟨c1,c2⟩:=h2
   rw[Ys (show 2<q.size from a8),show cX (cF q) [39,115]=true from c2]at hu
   obtain rfl:u=q.extract 0 (q.size - 2):=hu
   refine wr_ (e_ mv (k:=e_ mv (k:=e_ jA (k:=e_ isb (k:=e_ pT (k:=gk (k:=jne)))))))
  have hc:(decide (2<q.size) && cX (cF q) [39,115])=false:=by
   rcases h2 with c|c
   ·rw[Yr (a8)];all_goals rfl
   ·rw[show cX (cF q) [39,115]=false from c];simp
  rw[hc]at hu
  obtain rfl:u=q:=hu
  refine gk (k:=jne)
 refine gk (k:=wi_ (k:=fun h3=>?_) (m:=fun h3=>?_))
 ·have hS:iD (cF q)=cF u:=by rw[iD,←hub,rQ,Ys (a8)];all_goals rfl
  refine gk (k:=rt_ Tryz.results275 (k:=?_))
  exact⟨_,hsb,u,rfl,hS.symm,rfl⟩
 refine gk (k:=dn (Nat) (fun y=> y≤u.size∧∀j,j<y→nT (at0 (cF u) j)=true) (fun y=> [(4, .int .i64 ((y:Nat):Int))]) [(3,_)] (fun y=> []) _ (fun y=> u.size - y) (0) (h0:=?_) (k:=?_))
 ·try dsimp only
  exact⟨Yl _,fun j hj=> absurd hj (Nat.not_lt_zero _)⟩
 rintro i ⟨hi,hall⟩
 try dsimp only[Yd,Ye]at*
 refine gk (k:=wi_ (k:=fun h4=>?_) (m:=fun h4=>?_))
 ·refine gk (k:=dQ 5 37 (k:=fun h5=>gk (k:=edq)) (q:=go ?_))
  refine wi_ (k:=fun h6=>?_) (m:=fun h6=>?_)
  ·have hn:nT (at0 (cF u) i)=false:=by simp only[nT,Bool.and_eq_false_iff,decide_eq_false_iff_not];omega
   have hS:iD (cF q)=cF u:=by rw[iD,←hub,rQ,BK (a8) hn];simp
   refine gk (k:=rt_ Tryz.results275 (k:=?_))
   exact⟨_,hsb,u,rfl,hS.symm,rfl⟩
  have hy:nT (at0 (cF u) i)=true:=by simp only[nT,Bool.and_eq_true,decide_eq_true_eq];omega
  refine go ?_
  refine ln_ (i+1) (k:=?_)
  try dsimp only
  refine⟨a8,fun j hj=> ?_⟩
  by_cases e:j=i
  ·subst e;exact hy
  ·exact hall j (a8)
 have hA:=all_take hall (a8)
 have hS:iD (cF q)=nL (l8 (fA iZ 0 (fA ir 0 (jc (gq (gI (cF u))))))):=bX
 refine go ?_
 refine c1_ rfl (GX (a8)) (k:=?_)
 rintro _ _ ⟨r1,rfl,hr1,rfl⟩
 have z1:=r9 hr1 (mS _)
 refine c1_ rfl (GW (a8)) (k:=?_)
 rintro _ _ ⟨r2,rfl,hr2,rfl⟩
 have z2:=r9 hr2 (mR _)
 refine c1_ rfl (GV (a8)) (k:=?_)
 rintro _ _ ⟨r3,rfl,hr3,rfl⟩
 have z3:=r9 hr3 (pg _)
 refine c1_ rfl (JH (a8)) (k:=?_)
 rintro _ _ ⟨r4,rfl,hr4,rfl⟩
 have z4:=r9 hr4 (iN (k:=10) (ag) _)
 refine c1_ rfl (JG (a8)) (k:=?_)
 rintro _ _ ⟨r5,rfl,hr5,rfl⟩
 have z5:=r9 hr5 (iN (k:=10) (ag) _)
 refine c1_ rfl (JF (a8)) (k:=?_)
 rintro _ _ ⟨r6,rfl,hr6,rfl⟩
 have z6:=r9 hr6 (qW _)
 refine c1_ rfl (JE (a8)) (k:=?_)
 rintro _ _ ⟨r7,rfl,hr7,rfl⟩
 have hE:cF r7=iD (cF q):=by
  rw[hr6,hr5,hr4,hr3,hr2,hr1]at hr7
  exact hr7.trans hS.symm
 refine gk (k:=rt_ Tryz.results275 (k:=?_))
 exact⟨_,hsb,r7,rfl,hE,rfl⟩
theorem Bb {G:cM}{H:cG}{q:ByteArray}(hq:q.size≤1000000000):SC G Tryz.prog 244 [.string q] H (fun v H'=> v= .string (mC q)∧H'=H):=by
 have hl:=cJ q
 have hfl:=kS (cF q)
 refine sWk Tryz.func244 Tryz.ntmps244 ?_
 refine go ?_
 refine s_ (cZ eB rfl) (k:=?_)
 rintro _ _ ⟨s6,rfl,rfl⟩
 refine gk (k:=dn (SV×Nat) (fun y=> y.2≤q.size) (fun y=> [(3,y.1.val),(4, .int .i64 ((y.2:Nat):Int))]) [(0,_)] (fun y=> [Row y.1 eB ((mD (cF q)).take y.2)]) _ (fun y=> q.size - y.2) ((s6,0)) (h0:=?_) (k:=?_))
 ·try dsimp only
  exact Yl _
 rintro⟨s,i⟩ hi
 try dsimp only[Yd,Ye]at*
 refine gk (k:=wi_ (k:=fun h1=>?_) (m:=fun h1=>?_))
 ·have hlt:i<(cF q).length:=by omega
  have htk:((mD (cF q)).take i).length=i:=ax
  refine wk_ (qn_ (ws_ (wb_ (ws_ (wr_ (e_ asn (k:=on_ (qn_ (ws_ (ws_ (wr_ (e_ mv (k:=e_ mv (k:=?_))))))))))))))
  refine e_ ixs (k:=on_ (qn_ (wb_ (mP [(16, .bool (isV (at0 (cF q) i)))] [16,17,18,19,20,21] ?_ ?_))))
  ·refine gk (k:=wi_ (k:=fun h2=>?_) (m:=fun h2=>?_))
   ·refine gk (k:=jne (hs:=.cons (by first|exact rfl|exact jb (by refine bq ?_;simp[isV];omega)) (.nil)))
   refine gk (k:=wi_ (k:=fun h3=>?_) (m:=fun h3=>?_))
   ·refine gk (k:=jne (hs:=.cons (by first|exact rfl|exact jb (by refine bq ?_;simp[isV];omega)) (.nil)))
   refine gk (k:=wi_ (k:=fun h4=>?_) (m:=fun h4=>?_))
   ·refine gk (k:=jne (hs:=.cons (by first|exact rfl|exact jb (by refine bq ?_;simp[isV];omega)) (.nil)))
   refine gk (k:=wi_ (k:=fun h5=>?_) (m:=fun h5=>?_))
   ·refine gk (k:=jne (hs:=.cons (by first|exact rfl|exact jb (by refine bq ?_;simp[isV];omega)) (.nil)))
   refine gk (k:=jne (hs:=.cons (by first|exact rfl|exact jb (by refine bq ?_;simp[isV];omega)) (.nil)))
  refine wi_ (k:=fun h6=>?_) (m:=fun h6=>?_)
  ·have hk:=n9 hlt (b:=true) (by rw[vAt,h6];all_goals rfl)
   refine gk (k:=dD eB (k:=fun s36=>?_))
   refine app (k:=fun s37=>?_)
   first
   |rw[show(118:Nat)=vc true from rfl,←hk]
   |rw[show(99:Nat)=vc false from rfl,←hk]
   refine go ?_
   refine ln_ ((s37,i+1)) (k:=?_)
   try dsimp only
   omega
  have hV:=h6
  refine ws_ (wr_ (e_ ieq (k:=e_ asn (k:=on_ (qn_ (wi_ (k:=fun h7=>?_) (m:=fun h7=>?_)))))))
  ·refine ws_ (wr_ (e_ mv (k:=e_ igt (k:=e_ mv (k:=cY 7 33 (k:=fun h8=>eg_ mv (k:=eg_ mv (k:=eg_ isb (k:=eg_ ixa (k:=eg_ (lel (hy:=Ak (a8) (a8))) (k:=eg_ ieq (k:=e_ pkt (k:=on_ (edq))))))))) (q:=on_ (qn_ (wi_ (k:=fun h9=>?_) (m:=fun h9=>?_)))))))))
   ·obtain⟨c1,c2⟩:=h9
    have hk:=n9 hlt (b:=true) (by rw[vAt,hV,Ys (show at0 (cF q) i=121 from a8),Ys (show 0<i from a8),JB.1 (by omega:vc ((vow (cF q)).getD (i - 1) false)=99)];all_goals rfl)
    refine gk (k:=dD eB (k:=fun s36=>?_))
    refine app (k:=fun s37=>?_)
    first
    |rw[show(118:Nat)=vc true from rfl,←hk]
    |rw[show(99:Nat)=vc false from rfl,←hk]
    refine go ?_
    refine ln_ ((s37,i+1)) (k:=?_)
    try dsimp only
    omega
   have hk:=n9 hlt (b:=false) (by
    rw[vAt,hV]
    rcases h9 with c|c
    ·rw[Yr (show ¬0<i from a8)];simp
    ·have:(vow (cF q)).getD (i - 1) false=true:=by
      cases hb:(vow (cF q)).getD (i - 1) false with
      |true=> rfl
      |false=> exact absurd (by rw[JB.2 hb];all_goals rfl) c
     rw[this];simp)
   refine gk (k:=dD eB (k:=fun s36=>?_))
   refine app (k:=fun s37=>?_)
   first
   |rw[show(118:Nat)=vc true from rfl,←hk]
   |rw[show(99:Nat)=vc false from rfl,←hk]
   refine go ?_
   refine ln_ ((s37,i+1)) (k:=?_)
   try dsimp only
   omega
  have hk:=n9 hlt (b:=false) (by rw[vAt,hV,Yr (show ¬at0 (cF q) i=121 from a8)];all_goals rfl)
  refine gk (k:=dD eB (k:=fun s36=>?_))
  refine app (k:=fun s37=>?_)
  first
  |rw[show(118:Nat)=vc true from rfl,←hk]
  |rw[show(99:Nat)=vc false from rfl,←hk]
  refine go ?_
  refine ln_ ((s37,i+1)) (k:=?_)
  try dsimp only
  omega
 obtain rfl:i=q.size:=a8
 refine we_ (qe_ (le_ (bh_ (qn_ (ws_ (wr_ (e_ mv (k:=?_))))))))
 refine e_ (cV rfl) (k:=?_)
 refine gk (k:=rt_ Tryz.results244 (k:=?_))
 refine⟨_,hsb,?_,rfl⟩
 rw[←hl,List.take_of_length_le (a8)];all_goals rfl
theorem y8 {G:cM}{H:cG}{q:ByteArray}(hq:q.size≤1000000000):SC G Tryz.prog 236 [.string q] H (fun v H'=> v= .int .i64 (gm (cF q):Nat)∧H'=H):=by
 have hl:=cJ q
 have hfl:=cJ (mC q)
 have hfs:=lA q
 refine sWk Tryz.func236 Tryz.ntmps236 ?_
 refine go ?_
 refine d1_ rfl (Bb hq) (k:=go ?_)
 refine gk (k:=dn (Nat×Nat) (fun y=> 1≤y.1∧(y.1≤q.size∨y.1=1)∧y.2=lR (vow (cF q)) y.1) (fun y=> [(4, .int .i64 ((y.2:Nat):Int)),(5, .int .i64 ((y.1:Nat):Int))]) [(3,_)] (fun y=> []) _ (fun y=> q.size - y.1) ((1,0)) (h0:=?_) (k:=?_))
 ·try dsimp only
  exact⟨Nat.le_refl _, .inr rfl,(ou _).symm⟩
 rintro⟨i,m⟩ ⟨h1i,hi,hmm⟩
 try dsimp only[Yd,Ye]at*
 have hm:=uc (vow (cF q)) i
 refine gk (k:=wi_ (k:=fun h1=>?_) (m:=fun h1=>?_))
 ·have hlt:i<q.size:=by omega
  have hm1:lR (vow (cF q)) (i+1)=lR (vow (cF q)) i+(bif (vow (cF q)).getD (i - 1) false && !((vow (cF q)).getD i false)then 1 else 0):=by rw[lR,Ys (show 0<i from a8),Bool.true_and]
  have a1:=qo (q:=q) (i:=i - 1) (a8)
  have a2:=qo (q:=q) (i:=i) (a8)
  refine gk (k:=cY 5 24 (k:=fun h2=>gk (k:=edq)) (q:=go ?_))
  refine gk (k:=wi_ (k:=fun h3=>?_) (m:=fun h3=>?_))
  ·obtain⟨c1,c2⟩:=h3
   rw[LB.1 (by omega:vc ((vow (cF q)).getD (i - 1) false)=118),JB.1 (by omega:vc ((vow (cF q)).getD i false)=99)]at hm1
   refine go ?_
   refine ln_ ((i+1,m+1)) (k:=?_)
   try dsimp only
   refine⟨a8,a8,?_⟩
   rw[hm1,hmm];all_goals rfl
  have hz:((vow (cF q)).getD (i - 1) false && !((vow (cF q)).getD i false))=false:=by
   rcases h3 with c|c
   ·cases hb:(vow (cF q)).getD (i - 1) false with
    |false=> rfl
    |true=> rw[hb]at a1;exact absurd (by rw[a1];all_goals rfl) c
   ·cases hb:(vow (cF q)).getD i false with
    |true=> simp
    |false=> rw[hb]at a2;exact absurd (by rw[a2];all_goals rfl) c
  rw[hz]at hm1
  refine go ?_
  refine ln_ ((i+1,m)) (k:=?_)
  try dsimp only
  refine⟨a8,a8,?_⟩
  rw[hm1,hmm];all_goals rfl
 refine gk (k:=rt_ Tryz.results236 (k:=?_))
 refine⟨_,hsb,?_,rfl⟩
 rw[gm,hmm]
 rcases Nat.eq_zero_or_pos q.size with h0|h0
 ·obtain rfl:i=1:=by omega
  rw[hl,h0,ou];all_goals rfl
 ·obtain rfl:i=q.size:=by omega
  rw[hl];all_goals rfl
theorem Jk {G:cM}{H:cG}{q:ByteArray}(hq:q.size≤1000000000):SC G Tryz.prog 237 [.string q] H (fun v H'=> v= .bool (pA (cF q))∧H'=H):=by
 have hv:=ew (cF q)
 have hl:=cJ q
 have hfl:=cJ (mC q)
 have hfs:=lA q
 refine sWk Tryz.func237 Tryz.ntmps237 ?_
 refine go ?_
 refine d1_ rfl (Bb hq) (k:=gk (k:=dn (Nat) (fun y=> y≤q.size∧∀j,j<y→(vow (cF q))[j]? =some false) (fun y=> [(4, .int .i64 ((y:Nat):Int))]) [(3,_)] (fun y=> []) _ (fun y=> q.size - y) (0) (h0:=?_) (k:=?_)))
 ·try dsimp only
  exact⟨Yl _,fun j hj=> absurd hj (Nat.not_lt_zero _)⟩
 rintro i ⟨hi,hall⟩
 try dsimp only[Yd,Ye]at*
 refine gk (k:=wi_ (k:=fun h1=>?_) (m:=fun h1=>?_))
 ·have a2:=qo (q:=q) (i:=i) (a8)
  have hg:=iC (w:=cF q) (i:=i) (a8)
  refine gk (k:=wi_ (k:=fun h2=>?_) (m:=fun h2=>?_))
  ·rw[LB.1 (by omega:vc ((vow (cF q)).getD i false)=118)]at hg
   refine gk (k:=rt_ Tryz.results237 (k:=?_))
   exact⟨_,hsb,by rw[pA,z7 hg];all_goals rfl,rfl⟩
  have hf:(vow (cF q)).getD i false=false:=by
   cases hb:(vow (cF q)).getD i false with
   |false=> rfl
   |true=> rw[hb]at a2;exact absurd (by rw[a2];all_goals rfl) h2
  rw[hf]at hg
  refine go ?_
  refine ln_ (i+1) (k:=?_)
  try dsimp only
  refine⟨a8,fun j hj=> ?_⟩
  by_cases e:j=i
  ·subst e;exact hg
  ·exact hall j (a8)
 refine gk (k:=rt_ Tryz.results237 (k:=?_))
 exact⟨_,hsb,by rw[pA,w5 (fun j hj=> hall j (a8))];all_goals rfl,rfl⟩
theorem HL {G:cM}{H:cG}{q:ByteArray}(hq:q.size≤1000000000):SC G Tryz.prog 245 [.string q] H (fun v H'=> v= .bool (ma (cF q))∧H'=H):=by
 have hv:=ew (cF q)
 have hl:=cJ q
 have hfl:=cJ (mC q)
 have hfs:=lA q
 refine sWk Tryz.func245 Tryz.ntmps245 ?_
 refine go ?_
 refine cW cL (as_ 0 (q:=mv) (k:=as_ 1 (q:=igt) (k:=?_)))
 refine gp 2 rfl rfl (aa) rfl (du (mv)) (fun h1=> ?_) (fun h1=> ?_)
 ·replace h1:=nrm h1
  have e1:decide (2≤(cF q).length)=true:=Ys (a8)
  refine at2 3 (q:=mv) (k:=at2 4 (q:=mv) (k:=at2 5 (q:=isb) (k:=at2 6 (q:=ixs) (k:=at2 7 (q:=mv) (k:=at2 8 (q:=mv) (k:=at2 9 (q:=isb) (k:=at2 10 (q:=ixs) (k:=at2 11 (q:=ieq) (k:=as_ 12 (q:=pkt) (k:=?_))))))))))
  refine gp 13 rfl rfl (aa) rfl (du (mv)) (fun h2=> ?_) (fun h2=> ?_)
  ·replace h2:=nrm h2
   have e2:decide (at0 (cF q) ((cF q).length - 1)=at0 (cF q) ((cF q).length - 2))=true:=Ys (cc)
   have a2:=qo (q:=q) (i:=q.size - 1) (a8)
   refine at2 14 (q:=mv) (k:=?_)
   refine jN 15 rfl rfl rfl rfl (aa) rfl (j9 (vs:= [_]) rfl (Bb hq)) (?_)
   refine at2 16 (q:=mv) (k:=at2 17 (q:=isb) (k:=at2 18 (q:=ixs) (k:=at2 19 (q:=ieq) (k:=as_ 20 (q:=pkt) (k:=as_ 21 (q:=asn) (k:=az_ (k:=gk (k:=rt_ Tryz.results245 (k:=?_)))))))))
   refine⟨_,hsb,?_,rfl⟩
   rw[ma,e1,e2,hl,a2]
   cases(vow (cF q)).getD (q.size - 1) false <;> rfl
  replace h2:=nrm h2
  have hD:ma (cF q)=false:=by rw[ma,Yr (show ¬at0 (cF q) ((cF q).length - 1)=at0 (cF q) ((cF q).length - 2)from cc)];simp
  refine ao_ 14 (k:=ao_ 15 (k:=ao_ 16 (k:=ao_ 17 (k:=ao_ 18 (k:=ao_ 19 (k:=as_ 20 (q:=pkf) (k:=as_ 21 (q:=asn) (k:=az_ (k:=gk (k:=rt_ Tryz.results245 (k:=?_)))))))))))
  exact⟨_,hsb,by rw[hD];all_goals rfl,rfl⟩
 replace h1:=nrm h1
 have hD:ma (cF q)=false:=by rw[ma,Yr (a8)];all_goals rfl
 refine ao_ 3 (k:=ao_ 4 (k:=ao_ 5 (k:=ao_ 6 (k:=ao_ 7 (k:=ao_ 8 (k:=ao_ 9 (k:=ao_ 10 (k:=ao_ 11 (k:=as_ 12 (q:=pkf) (k:=as_ 13 (q:=mv) (k:=ao_ 14 (k:=ao_ 15 (k:=ao_ 16 (k:=?_))))))))))))))
 refine ao_ 17 (k:=ao_ 18 (k:=ao_ 19 (k:=as_ 20 (q:=pkf) (k:=as_ 21 (q:=asn) (k:=az_ (k:=gk (k:=rt_ Tryz.results245 (k:=?_))))))))
 exact⟨_,hsb,by rw[hD];all_goals rfl,rfl⟩
theorem Ef {G:cM}{H:cG}{q:ByteArray}(hq:q.size≤1000000000):SC G Tryz.prog 240 [.string q] H (fun v H'=> v= .bool (gr (cF q))∧H'=H):=by
 have hl:=cJ q
 have hfl:=cJ (mC q)
 have hfs:=lA q
 refine sWk Tryz.func240 Tryz.ntmps240 ?_
 refine go ?_
 refine gk (k:=dQ 6 14 (k:=fun h1=>gk (k:=edq)) (q:=gk (k:=dQ 6 21 (k:=fun h2=>gk (k:=edq)) (q:=gk (k:=dQ 6 28 (k:=fun h3=>gk (k:=edq)) (q:=gk (k:=wi_ (k:=fun h4=>?_) (m:=fun h4=>?_))))))))
 ·have hS:gr (cF q)=false:=by
   rw[gr]
   rcases h4 with((c|c)|c)|c
   ·rw[Yr (show ¬3≤(cF q).length from a8)];all_goals rfl
   ·rw[Ys (show at0 (cF q) ((cF q).length - 1)=119 from cc)];simp
   ·rw[Ys (show at0 (cF q) ((cF q).length - 1)=120 from cc)];simp
   ·rw[Ys (show at0 (cF q) ((cF q).length - 1)=121 from cc)];simp
  refine gk (k:=rt_ Tryz.results240 (k:=?_))
  exact⟨_,hsb,by rw[hS];all_goals rfl,rfl⟩
 have e1:decide (3≤(cF q).length)=true:=Ys (a8)
 have hn:(decide (at0 (cF q) ((cF q).length - 1)=119) ||decide (at0 (cF q) ((cF q).length - 1)=120) ||decide (at0 (cF q) ((cF q).length - 1)=121))=false:=by
  rw[hl];simp;omega
 refine go ?_
 refine d1_ rfl (Bb hq) (k:=e_ mv (k:=e_ isb (k:=e_ zB (k:=e_ sC (k:=gk (k:=rt_ Tryz.results240 (k:=?_)))))))
 refine⟨_,hsb,?_,rfl⟩
 rw[gr,e1,hn,hl,←CK (a8)];all_goals rfl
def eR:Enc (ByteArray×ByteArray):=⟨fun p=> [.string p.1, .string p.2],2,true,fun _=> rfl,fun p v h=> by simp at h;rcases h with rfl|rfl <;> rfl,ag,fun h=> aR,ag⟩
instance {a b:ByteArray}:fH eR (.agg [.string a, .string b].toArray) (a,b):=⟨rfl⟩
instance {a b:ByteArray}:kK eR (a,b) (.agg [.string a, .string b].toArray):=⟨rfl⟩
def ki (ps:List (ByteArray×ByteArray)) (rs:List fQ):Prop:=ps.map (fun p=> (cF p.1,cF p.2))=rs
theorem ki.length {ps:List (ByteArray×ByteArray)}{rs:List fQ}(h:ki ps rs):ps.length=rs.length:=by
 rw[←show ps.map (fun p=> (cF p.1,cF p.2))=rs from h,Yh]
theorem ki.get {ps:List (ByteArray×ByteArray)}{rs:List fQ}(h:ki ps rs) {k:Nat}(hk:k<rs.length):∃a b,ps[k]? =some (a,b)∧rs[k]? =some (cF a,cF b):=by
 subst h
 rw[Yh]at hk
 exact⟨(ps[k]).1,(ps[k]).2,Yi hk,by rw[Xd,Yi hk];all_goals rfl⟩
def iq (rs:List fQ):List (ByteArray×ByteArray):=rs.map fun r=> (dO r.1,dO r.2)
theorem mo {rs:List fQ}(h:(rs.all fun r=> (r.1.all fun x=> decide (x<256)) && (r.2.all fun x=> decide (x<256)))=true):ki (iq rs) rs:=by
 rw[ki,iq,List.map_map]
 conv=> rhs;rw[←List.map_id rs]
 apply List.map_congr_left
 intro r hr
 have h1:=List.all_eq_true.1 h r hr
 rw[Bool.and_eq_true]at h1
 simp only[Function.comp,id]
 rw[dK fun x hx=> Yt (List.all_eq_true.1 h1.1 x hx),dK fun x hx=> Yt (List.all_eq_true.1 h1.2 x hx)]
def lZ (rs:List fQ) (q r e t:ByteArray) (f:Bool):Prop:=match dR rs (cF q)with
 |none=> f=false∧r=q∧e.size=0∧t.size=0
 |some R=> f=true∧cF e=R.1∧cF t=R.2∧cX (cF q) R.1=true∧cF r=kV (cF q) R.1∧r.size+e.size=q.size
theorem q8 {G:cM}{H:cG}{q:ByteArray}{s:SV}{ps:List (ByteArray×ByteArray)}{rs:List fQ} [hs:Sl H s eR ps] (hr:ki ps rs) (hq:q.size≤1000000000) (hn:rs.length≤1000) (hsz:∀r∈rs,r.1.length≤1000∧r.2.length≤1000):SC G Tryz.prog 235 [.string q,s.val] H (fun v H'=> ∃r e t f,v= .tuple #[.string r, .agg [.string e, .string t].toArray, .bool f]∧lZ rs q r e t f∧H'=H):=by
 have hl:=cJ q
 have hsl:=hr.length
 refine sWk Tryz.func235 Tryz.ntmps235 ?_
 refine gk (k:=alc (k:=fun b5=>?_))
 refine e_ asn (k:=on_ (qn_ (ws_ (wr_ (e_ (bld []) (k:=alc (k:=fun b7=>?_)))))))
 refine go ?_
 refine gk (k:=dn (Nat×ByteArray×ByteArray×Bool) (fun y=> y.1≤rs.length∧(rs.take y.1).foldl (mz (cF q)) none=(bif y.2.2.2 then some (cF y.2.1,cF y.2.2.1)else none)∧(y.2.2.2=false→y.2.1.size=0∧y.2.2.1.size=0)∧(y.2.2.2=true→cX (cF q) (cF y.2.1)=true)∧y.2.1.size≤1000) (fun y=> [(8, .bool y.2.2.2),(14, .int .i64 ((y.1:Nat):Int))]) [(0,_),(5,_),(7,_),(12,_),(13,_)] (fun y=> [Vr b7 [.string y.2.1, .string y.2.2.1]]) _ (fun y=> rs.length - y.1) ((0,ByteArray.empty,ByteArray.empty,false)) (h0:=?_) (k:=?_))
 ·try dsimp only
  refine⟨Yl _,rfl,?_,?_,ag⟩ <;> simp
 rintro⟨n,e,t,f⟩ ⟨hnl,hf,hf0,hf1,hez⟩
 try dsimp only[Yd,Ye]at*
 refine gk (k:=wi_ (k:=fun h1=>?_) (m:=fun h1=>?_))
 ·obtain⟨a,b,hab,hR⟩:=hr.get (k:=n) (a8)
  obtain⟨hR1,hR2⟩:=hsz _ (Yj hR)
  have hal:=cJ a
  have hel:=cJ e
  have hls:=qe (w:=cF q) hR
  rw[hf]at hls
  simp only at hR1 hR2
  refine gk (k:=alc (k:=fun b10=>?_))
  refine go ?_
  refine d2_ rfl (iO (a8) (a8)) (k:=gk (k:=cY 12 34 (k:=fun h2=>gk (k:=dQ 8 33 (k:=fun h3=>gk (k:=edq)) (q:=gk (k:=edq)))) (q:=gk (k:=wi_ (k:=fun h4=>?_) (m:=fun h4=>?_)))))
  ·obtain⟨c1,c2⟩:=h4
   have hc:lsC (cF q) (bif f then some (cF e,cF t)else none) (cF a,cF b)=true:=by
    cases f with
    |false=> simp only[lsC,cond_false,c1,Bool.true_and]
    |true=>
     rcases c2 with c|c
     ·cases c
     ·simp only[lsC,cond_true,c1,Bool.true_and];exact Ys (a8)
   rw[mz,hc]at hls
   refine go ?_
   refine go ?_
   refine ln_ ((n+1,a,b,true)) (k:=?_)
   try dsimp only
   exact⟨a8,hls,fun h=> by(cases h),fun _=> c1,a8⟩
  have hc:lsC (cF q) (bif f then some (cF e,cF t)else none) (cF a,cF b)=false:=by
   rcases h4 with c|⟨c,c2⟩
   ·simp only[lsC,c,Bool.false_and]
   ·have:f=true:=by simpa using c
    subst this
    simp only[lsC,cond_true]
    rw[Yr (a8)];simp
  rw[mz,hc]at hls
  refine go ?_
  refine ln_ ((n+1,e,t,f)) (k:=?_)
  try dsimp only
  exact⟨a8,hls,hf0,hf1,hez⟩
 obtain rfl:n=rs.length:=a8
 rw[List.take_of_length_le (Nat.le_refl _)]at hf
 have hel:=cJ e
 have hle:e.size≤q.size:=by
  cases f with
  |false=> have:=(hf0 rfl).1;omega
  |true=> have:=lD (hf1 rfl);omega
 refine go ?_
 refine di cL (fun i=> [11].contains i) (fun k H=> (k=4→dh H b7 [.string e, .string t])∧(k=8→dh H b7 [.string e, .string t])) (af_ 0 (q:=cE fun H hH=>mv) (k:=af_ 1 (q:=cE fun H hH=>mv) (k:=af_ 2 (q:=cE fun H hH=>jA) (k:=af_ 3 (q:=cE fun H hH=>fla) (k:=?_)))))
 refine cH 4 rfl rfl (aa) rfl (cE fun H hH=>aD) (?_)
 refine af_ 5 (q:=cE fun H hH=>jA) (k:=af_ 6 (q:=cE fun H hH=>isb) (k:=af_ 7 (q:=cE fun H hH=>pT) (k:=?_)))
 refine cH 8 rfl rfl (aa) rfl (cE fun H hH=>cj) (?_)
 refine af_ 9 (q:=cE fun H hH=>mv) (k:=af_ 10 (q:=cE fun H hH=>asn) (k:=?_))
 refine cQ 11 rfl (aa) rfl (fun k hk=> ⟨fun hi=> ab,fun hi=> ab⟩) (dk rfl rfl rfl) ?_
 rintro _ _ ⟨rfl,rfl⟩
 refine af_ 12 (q:=cE fun H hH=>asn) (k:=db (aa) (fun k hk=> ⟨fun hi=> absurd hk (ad),fun hi=> absurd hk (ad)⟩) (gk (k:=rt_ Tryz.results235 (k:=?_))))
 refine⟨_,hsb,q.extract 0 (q.size - e.size),e,t,f,rfl,?_,rfl⟩
 have hrl:=cJ (q.extract 0 (q.size - e.size))
 rw[fP,Yg]at hrl
 rw[lZ,dR,hf]
 cases f with
 |false=>
  obtain⟨z1,z2⟩:=hf0 rfl
  refine⟨rfl,?_,z1,z2⟩
  rw[←iH,fP,z1,Nat.sub_zero,List.take_of_length_le (a8)]
 |true=> exact⟨rfl,rfl,rfl,hf1 rfl,by rw[fP,kV,hl,hel],a8⟩
theorem qf {rs:List fQ}{q r e t:ByteArray}{f:Bool}(h:lZ rs q r e t f):r.size≤q.size:=by
 rw[lZ]at h
 cases hl:dR rs (cF q)with
 |none=> rw[hl]at h;rw[h.2.1];exact Nat.le_refl _
 |some R=> rw[hl]at h;have:=h.2.2.2.2.2;omega
theorem wJ {rs:List fQ}{q r e t:ByteArray}{f:Bool}{k:Nat}(h:lZ rs q r e t f) (hk:∀r∈rs,r.2.length≤k):t.size≤k:=by
 have ht:=cJ t
 rw[lZ]at h
 cases hl:dR rs (cF q)with
 |none=> rw[hl]at h;have:=h.2.2.2;omega
 |some R=> rw[hl]at h;have:=hk R (lS hl).1;rw[h.2.2.1]at ht;omega
theorem ri {G:cM}{H:cG}{q:ByteArray}{s:SV}{ps:List (ByteArray×ByteArray)}{rs:List fQ}{most:Nat} [hs:Sl H s eR ps] (hr:ki ps rs) (hq:q.size≤100000000) (hn:rs.length≤1000) (hsz:∀r∈rs,r.1.length≤1000∧r.2.length≤1000):SC G Tryz.prog 239 [.string q,s.val, .int .i64 (most:Int)] H (fun v H'=> ∃r,v= .string r∧cF r=fA rs most (cF q)∧H'=H):=by
 have hl:=cJ q
 refine sWk Tryz.func239 Tryz.ntmps239 ?_
 refine go ?_
 refine c2_ rfl (q8 hr (a8) hn hsz) (k:=?_)
 rintro _ _ ⟨r,e,t,f,rfl,hL,rfl⟩
 have hrq:=qf hL
 have htk:=wJ hL (fun r h=> (hsz r h).2)
 refine gk (k:=alc (k:=fun b8=>?_))
 refine gk (k:=cY 5 23 (k:=fun h1=>gk (k:=gU (vs:=[_]) (hc:=(y8 (a8))) (k:=gk (k:=edq)))) (q:=gk (k:=wi_ (k:=fun h2=>?_) (m:=fun h2=>?_))))
 ·obtain⟨rfl,c⟩:=h2
  have hR:fA rs most (cF q)=cF r++cF t:=by
   rw[lZ]at hL
   rw[fA]
   cases hl:dR rs (cF q)with
   |none=> rw[hl]at hL;cases hL.1
   |some R=>
    rw[hl]at hL
    obtain⟨_,g1,g2,_,g3,_⟩:=hL
    simp only
    rw[←g3,←g2,Ys (a8)];all_goals rfl
  refine ws_ (wr_ (e_ mv (k:=e_ fla (k:=e_ ldv (k:=e_ Cg (k:=gk (k:=rt_ Tryz.results239 (k:=?_))))))))
  exact⟨_,hsb,r++t,rfl,by rw[hR,ej],rfl⟩
 have hR:fA rs most (cF q)=cF q:=by
  rw[lZ]at hL
  rw[fA]
  cases hl:dR rs (cF q)with
  |none=> rfl
  |some R=>
   rw[hl]at hL
   obtain⟨g0,g1,g2,_,g3,_⟩:=hL
   subst g0
   rcases h2 with c|c
   ·cases c
   ·simp only
    rw[←g3,Yr (a8)];all_goals rfl
 refine gk (k:=rt_ Tryz.results239 (k:=?_))
 exact⟨_,hsb,q,rfl,hR.symm,rfl⟩
theorem HH {G:cM}{H:cG}{q:ByteArray}(hq:q.size≤100000000):SC G Tryz.prog 238 [.string q] H (fun v H'=> ∃r,v= .string r∧cF r=kN (cF q)∧H'=H):=by
 have hl:=cJ q
 refine sWk Tryz.func238 Tryz.ntmps238 ?_
 refine ws_ (wr_ (e_ asn (k:=on_ (qn_ (ws_ (wb_ (mP [(3, .bool (cX (cF q) (cF ⟨#[97,116]⟩) ||cX (cF q) (cF ⟨#[98,108]⟩) ||cX (cF q) (cF ⟨#[105,122]⟩)))] [3,4,5,6,7,8,9] ?_ ?_)))))))
 ·refine go ?_
  refine d2_ rfl (iO (a8) (ag)) (k:=gk (k:=wi_ (k:=fun h1=>?_) (m:=fun h1=>?_)))
  ·refine gk (k:=jne (hs:=.cons (cn) (.nil)))
  refine go ?_
  refine d2_ rfl (iO (a8) (ag)) (k:=gk (k:=wi_ (k:=fun h2=>?_) (m:=fun h2=>?_)))
  ·refine gk (k:=jne (hs:=.cons (cn) (.nil)))
  refine go ?_
  refine d2_ rfl (iO (a8) (ag)) (k:=gk (k:=jne (hs:=.cons (cn) (.nil))))
 refine wi_ (k:=fun h3=>?_) (m:=fun h3=>?_)
 ·have hE:(cX (cF q) [97,116] ||cX (cF q) [98,108] ||cX (cF q) [105,122])=true:=by simp only[Bool.or_eq_true];exact h3
  refine ws_ (wr_ (e_ mv (k:=?_)))
  refine e_ (gz rfl rfl (by show q.size+1≤_;omega)) (k:=?_)
  refine gk (k:=rt_ Tryz.results238 (k:=?_))
  exact⟨_,hsb,q++⟨#[101]⟩,rfl,by rw[kN,hE,ej];all_goals rfl,rfl⟩
 have hE:(cX (cF q) [97,116] ||cX (cF q) [98,108] ||cX (cF q) [105,122])=false:=by simp only[Bool.or_eq_false_iff];exact h3
 refine go ?_
 refine d1_ rfl (HL (a8)) (k:=gk (k:=cY 4 19 (k:=fun h4=>gk (k:=gU (vs:=[_,_]) (hc:=(iO (a8) (ag))) (k:=gk (k:=edq)))) (q:=gk (k:=cY 4 24 (k:=fun h5=>gk (k:=gU (vs:=[_,_]) (hc:=(iO (a8) (ag))) (k:=gk (k:=edq)))) (q:=gk (k:=cY 4 29 (k:=fun h6=>gk (k:=gU (vs:=[_,_]) (hc:=(iO (a8) (ag))) (k:=gk (k:=edq)))) (q:=gk (k:=wi_ (k:=fun h7=>?_) (m:=fun h7=>?_)))))))))
 ·obtain⟨⟨⟨d1,d2⟩,d3⟩,d4⟩:=h7
  have d0:=qC d1
  have hN:=(ov (w:=cF q) (a8) 108).symm.trans d2
  have hN2:=(ov (w:=cF q) (a8) 115).symm.trans d3
  have hN3:=(ov (w:=cF q) (a8) 122).symm.trans d4
  refine ws_ (wr_ (e_ mv (k:=e_ mv (k:=e_ jA (k:=e_ isb (k:=e_ pT (k:=gk (k:=rt_ Tryz.results238 (k:=?_)))))))))
  exact⟨_,hsb,q.extract 0 (q.size - 1),rfl,by rw[iI,kN,hE,d1,hN,hN2,hN3];all_goals rfl,rfl⟩
 have hD:(ma (cF q) && !(decide (at0 (cF q) ((cF q).length - 1)=108) ||decide (at0 (cF q) ((cF q).length - 1)=115) ||decide (at0 (cF q) ((cF q).length - 1)=122)))=false:=by
  cases hd:ma (cF q)with
  |false=> rfl
  |true=>
   have d0:=qC hd
   rcases h7 with((c|c)|c)|c
   ·rw[hd]at c;cases c
   ·rw[(ov (w:=cF q) (a8) 108).symm.trans c];all_goals rfl
   ·rw[(ov (w:=cF q) (a8) 115).symm.trans c];simp
   ·rw[(ov (w:=cF q) (a8) 122).symm.trans c];simp
 refine go ?_
 refine d1_ rfl (y8 (a8)) (k:=gk (k:=cY 3 42 (k:=fun h8=>gk (k:=gU (vs:=[_]) (hc:=(Ef (a8))) (k:=gk (k:=edq)))) (q:=gk (k:=wi_ (k:=fun h9=>?_) (m:=fun h9=>?_)))))
 ·obtain⟨m1,m2⟩:=h9
  refine ws_ (wr_ (e_ mv (k:=?_)))
  refine e_ (gz rfl rfl (by show q.size+1≤_;omega)) (k:=?_)
  refine gk (k:=rt_ Tryz.results238 (k:=?_))
  exact⟨_,hsb,q++⟨#[101]⟩,rfl,by rw[kN,hE,hD,Ys (show gm (cF q)=1 from a8),m2,ej];all_goals rfl,rfl⟩
 have hM:(decide (gm (cF q)=1) && gr (cF q))=false:=by
  rcases h9 with d|d
  ·rw[Yr (a8)];all_goals rfl
  ·rw[d];simp
 refine gk (k:=rt_ Tryz.results238 (k:=?_))
 exact⟨_,hsb,q,rfl,by rw[kN,hE,hD,hM];all_goals rfl,rfl⟩
end Go.Sx
