import Derived.Test.YtefgpomabdplbaaGreatDoorQ13
set_option linter.unusedVariables false
set_option linter.unusedSimpArgs false
set_option linter.unusedSectionVars false
set_option linter.unnecessarySimpa false
set_option maxHeartbeats 0
namespace Go.Sx
open Go Go.Proofs
set_option maxRecDepth 100000
theorem po {q e:ByteArray}(h:dp (cF q) (cF e)=true):cF (iI q e)=(cF q).take (q.size - e.size)∧(iI q e).size≤q.size:=by
 rw[iI,h]
 refine⟨iT q _,?_⟩
 have:=cL (q.extract 0 (q.size - e.size))
 rw[iT,Yg,cL]at this
 simp only[cond_true];omega
theorem vV (q e:ByteArray):(iI q e).size≤q.size:=by
 cases h:dp (cF q) (cF e)with
 |true=> exact(po h).2
 |false=> rw[iI,h];exact Nat.le_refl _
theorem It {G:cK}{H:cG}{q:ByteArray}(hq:q.size≤10000000):SC G Tryz.prog 283 [.string q] H (fun v H'=> ∃r,v= .string r∧cF r=ki (cF q)∧H'=H):=by
 have hle:=vV q ⟨#[121]⟩
 have hcs:dp (cF q) [121]=true→cF (iI q ⟨#[121]⟩)=dA (cF q):=fun h=> by
  rw[(po (e:=⟨#[121]⟩) h).1,dA,cL];all_goals rfl
 refine sWk Tryz.func283 Tryz.ntmps283 ?_
 refine go ?_
 refine d2_ rfl (vU (aa) (ag)) (k:=gk (k:=dh 3 14 (k:=fun h1=>gk (k:=kK (vs:=[_]) (hc:=(KU (aa))) (k:=gk (k:=edq)))) (q:=go ?_)))
 refine gk (k:=wi_ (k:=fun h2=>?_) (m:=fun h2=>?_))
 ·obtain⟨g1,g2⟩:=h2
  have g3:=hcs g1
  rw[g3]at g2
  refine ws_ (wr_ (e_ mv (k:=?_)))
  refine e_ (js rfl rfl (by show(iI q ⟨#[121]⟩).size+1≤_;omega)) (k:=?_)
  refine gk (k:=rt_ Tryz.results283 (k:=?_))
  refine⟨_,hsb,iI q ⟨#[121]⟩++⟨#[105]⟩,rfl,?_,rfl⟩
  rw[fQ,g3,ki,show dp (cF q) [121]=true from g1,g2];all_goals rfl
 have h1:=h2
 refine gk (k:=rt_ Tryz.results283 (k:=?_))
 refine⟨_,hsb,q,rfl,?_,rfl⟩
 rw[ki]
 have:(dp (cF q) [121] && wJ (dA (cF q)))=false:=by
  cases g1:dp (cF q) [121]with
  |false=> rfl
  |true=>
   rcases h1 with g2|g2
   ·rw[show dp (cF q) (cF ⟨#[121]⟩)=true from g1]at g2;cases g2
   ·rw[hcs g1]at g2;rw[g2];all_goals rfl
 rw[this];all_goals rfl
theorem LB {G:cK}{H:cG}{q:ByteArray}(hq:q.size≤10000000):SC G Tryz.prog 279 [.string q] H (fun v H'=> ∃r,v= .string r∧cF r=sY (cF q)∧H'=H):=by
 have hle:=vV q ⟨#[101]⟩
 have hcs:dp (cF q) [101]=true→cF (iI q ⟨#[101]⟩)=dA (cF q):=fun h=> by
  rw[(po (e:=⟨#[101]⟩) h).1,dA,cL];all_goals rfl
 obtain⟨u,hu⟩:∃u:ByteArray,u=bif dp (cF q) [101] && (decide (1<iB (dA (cF q))) ||decide (iB (dA (cF q))=1) && !j4 (dA (cF q)))then iI q ⟨#[101]⟩else q:=⟨_,rfl⟩
 have hub:cF u=ji (cF q):=by
  rw[hu,ji]
  cases h:(dp (cF q) [101] && (decide (1<iB (dA (cF q))) ||decide (iB (dA (cF q))=1) && !j4 (dA (cF q))))with
  |false=> rfl
  |true=> rw[Bool.and_eq_true]at h;exact hcs h.1
 have hul:u.size≤q.size:=by
  rw[hu]
  cases(dp (cF q) [101] && (decide (1<iB (dA (cF q))) ||decide (iB (dA (cF q))=1) && !j4 (dA (cF q))))with
  |false=> exact Nat.le_refl _
  |true=> exact hle
 refine sWk Tryz.func279 Tryz.ntmps279 ?_
 refine ws_ (wr_ (e_ asn (k:=on_ (qn_ (mf [(0, .string u)] [0,3,4,5,6,7,8,9,10,11,12,13,14,15,16,17,18,19,20,21,22,23,24,25] ?_ ?_)))))
 ·refine go ?_
  refine d2_ rfl (vU (aa) (ag)) (k:=gk (k:=wi_ (k:=fun h1=>?_) (m:=fun h1=>?_)))
  ·have g3:=hcs h1
   have g1:dp (cF q) [101]=true:=h1
   rw[g1,Bool.true_and]at hu
   refine go ?_
   refine d1_ rfl (xI (aa)) (k:=?_)
   rw[g3]
   refine gk (k:=dN 8 24 (k:=fun h2=>gk (k:=dh 4 23 (k:=fun h3=>gk (k:=kK (vs:=[_]) (hc:=(ER (aa))) (k:=gk (k:=edq)))) (q:=gk (k:=edq)))) (q:=gk (k:=wi_ (k:=fun h4=>?_) (m:=fun h4=>?_))))
   ·rw[g3]at h4
    rw[show(decide (1<iB (dA (cF q))) ||decide (iB (dA (cF q))=1) && !j4 (dA (cF q)))=true by
     rcases h4 with h|⟨h,h'⟩
     ·rw[Ys (aa)];all_goals rfl
     ·rw[Ys (show iB (dA (cF q))=1 from aa),h'];simp]at hu
    obtain rfl:u=iI q ⟨#[101]⟩:=hu
    refine gk (k:=jne)
   rw[g3]at h4
   rw[show(decide (1<iB (dA (cF q))) ||decide (iB (dA (cF q))=1) && !j4 (dA (cF q)))=false by
    obtain⟨h,h'⟩:=h4
    rw[Yr (aa)]
    rcases h' with h'|h'
    ·rw[Yr (aa)];all_goals rfl
    ·rw[h'];simp]at hu
   obtain rfl:u=q:=hu
   refine gk (k:=jne)
  have g1:dp (cF q) [101]=false:=h1
  rw[g1,Bool.false_and]at hu
  obtain rfl:u=q:=hu
  refine gk (k:=jne)
 refine go ?_
 refine d2_ rfl (kc (aa) (ag)) (k:=gk (k:=dh 4 32 (k:=fun h5=>gk (k:=kK (vs:=[_]) (hc:=(xI (aa))) (k:=gk (k:=edq)))) (q:=gk (k:=wi_ (k:=fun h6=>?_) (m:=fun h6=>?_)))))
 ·obtain⟨k1,k2⟩:=h6
  have k3:=yZ k1
  simp only[cL]at k3
  have k4:(⟨#[108,108]⟩:ByteArray).size=2:=rfl
  refine wr_ (e_ mv (k:=e_ mv (k:=e_ nT (k:=e_ isb (k:=e_ Ab (k:=go ?_))))))
  refine gk (k:=rt_ Tryz.results279 (k:=?_))
  refine⟨_,hsb,u.extract 0 (u.size - 1),rfl,?_,rfl⟩
  rw[zt,sY,←hub,show dp (cF u) [108,108]=true from k1,Ys (aa)];all_goals rfl
 have hN:(dp (ji (cF q)) [108,108] && decide (1<iB (ji (cF q))))=false:=by
  rw[←hub]
  rcases h6 with k|k
  ·rw[show dp (cF u) [108,108]=false from k];all_goals rfl
  ·rw[Yr (aa)];simp
 refine gk (k:=rt_ Tryz.results279 (k:=?_))
 exact⟨_,hsb,u,rfl,by rw[sY,hN,hub];all_goals rfl,rfl⟩
theorem Iu {G:cK}{H:cG}{q:ByteArray}(hq:q.size≤10000000):SC G Tryz.prog 284 [.string q] H (fun v H'=> ∃r,v= .string r∧cF r=iy (cF q)∧H'=H):=by
 refine sWk Tryz.func284 Tryz.ntmps284 ?_
 refine ws_ (wr_ (e_ asn (k:=on_ (qn_ (ws_ (wr_ (e_ mv (k:=?_))))))))
 refine s_ (dC eS ((gH oa).map dL) (bQ) rfl (ay)) (k:=?_)
 rintro _ _ ⟨s9,rfl,rfl⟩
 refine c2_ rfl (pH Oo (aa) (ag) (ag)) (k:=?_)
 rintro _ _ ⟨r,a,rfl,hL,rfl⟩
 refine e_ mv (k:=e_ exr (k:=e_ exr (k:=e_ asn (k:=e_ asn (k:=on_ (qn_ (ws_ (wb_ (ws_ (wr_ (e_ mv (k:=e_ ilt (k:=e_ asn (k:=?_))))))))))))))
 refine on_ (qn_ (wi_ (k:=fun h1=>?_) (m:=fun h1=>?_)))
 ·obtain⟨rfl,hN⟩:=mE hL h1
  refine ws_ (wr_ (e_ mv (k:=e_ asn (k:=on_ (qn_ (wt_ (br_ (qr_ (rt_ Tryz.results284 (k:=?_))))))))))
  exact⟨_,hsb,r,rfl,by rw[iy,hN],rfl⟩
 obtain⟨R,k,g1,rfl,g3,g4,g5,g6⟩:=mD hL h1
 have hk:k<3:=(Yk.1 g1).1
 have hS:iy (cF q)=bif decide (R.1= [101,101,100])then(bif decide (0<iB (cF r))then cF r++R.2 else cF q)else bif wJ (cF r)then oM (cF r)else cF q:=by rw[iy,g6,g4]
 refine ws_ (wr_ (e_ mv (k:=e_ ieq (k:=e_ asn (k:=on_ (qn_ (wi_ (k:=fun h2=>?_) (m:=fun h2=>?_))))))))
 ·obtain rfl:k=0:=by omega
  cases g1
  have hS':iy (cF q)=bif decide (0<iB (cF r))then cF r++ [101,101]else cF q:=hS
  have hrq:r.size≤q.size:=aa
  refine ws_ (ws_ (wr_ (e_ mv (k:=?_))))
  refine d1_ rfl (xI (aa)) (k:=e_ igt (k:=on_ (qn_ (wi_ (k:=fun h3=>?_) (m:=fun h3=>?_)))))
  ·have hm:=h3
   refine ws_ (wr_ (e_ mv (k:=?_)))
   refine e_ (js rfl rfl (by show r.size+2≤_;omega)) (k:=?_)
   refine e_ asn (k:=on_ (qn_ (wt_ (qr_ (br_ (qr_ (rt_ Tryz.results284 (k:=?_))))))))
   exact⟨_,hsb,r++⟨#[101,101]⟩,rfl,by rw[hS',fQ,Ys (aa)];all_goals rfl,rfl⟩
  have hm:=h3
  refine wk_ (qn_ (ws_ (wr_ (e_ mv (k:=e_ asn (k:=on_ (qn_ (wt_ (br_ (qr_ (rt_ Tryz.results284 (k:=?_))))))))))))
  exact⟨_,hsb,q,rfl,by rw[hS',Yr (show ¬0<iB (cF r)from aa)];all_goals rfl,rfl⟩
 have hne:¬R.1= [101,101,100]:=by
  rcases(show k=1∨k=2 from aa)with rfl|rfl <;> cases g1 <;> decide
 rw[Yr hne]at hS
 refine ws_ (wr_ (e_ mv (k:=?_)))
 refine d1_ rfl (KU (aa)) (k:=e_ k8 (k:=e_ asn (k:=on_ (qn_ (wi_ (k:=fun h4=>?_) (m:=fun h4=>?_))))))
 ·have hv:=h4
  refine ws_ (wr_ (e_ mv (k:=e_ asn (k:=on_ (qn_ (wt_ (br_ (qr_ (rt_ Tryz.results284 (k:=?_))))))))))
  exact⟨_,hsb,q,rfl,by rw[hS,hv];all_goals rfl,rfl⟩
 have hM:iy (cF q)=oM (cF r):=by rw[hS,h4];all_goals rfl
 refine wk_ (bn_ (qn_ (ws_ (ws_ (wr_ (?_))))))
 refine s_ (dC eS [⟨#[97,116]⟩,⟨#[98,108]⟩,⟨#[105,122]⟩] (bQ) rfl (ay)) (k:=?_)
 rintro _ _ ⟨s31,rfl,rfl⟩
 refine e_ lnn (k:=e_ mv (k:=on_ (qn_ (wb_ (dt (Nat) (fun y=> y≤3∧∀j e,j<y→([⟨#[97,116]⟩,⟨#[98,108]⟩,⟨#[105,122]⟩]:List ByteArray)[j]? =some e→dp (cF r) (cF e)=false) (fun y=> [(33, .int .i64 ((y:Nat):Int))]) [(3,_),(31,_),(32,_)] (fun y=> []) _ (fun y=> 3 - y) (0) (h0:=?_) (k:=?_))))))
 ·try dsimp only
  exact⟨Yl _,fun j e hj=> absurd hj (Nat.not_lt_zero _)⟩
 rintro i ⟨hi,hall⟩
 try dsimp only[Yd,Ye]at*
 refine ws_ (wr_ (e_ ilt (k:=on_ (qn_ (ws_ (wi_ (k:=fun h5=>?_) (m:=fun h5=>?_)))))))
 ·have hi3:i<3:=by have:=h5;simp at this;omega
  obtain⟨e,he,hes⟩:∃e,([⟨#[97,116]⟩,⟨#[98,108]⟩,⟨#[105,122]⟩]:List ByteArray)[i]? =some e∧e.size=2:=by
   rcases(show i=0∨i=1∨i=2 from aa)with rfl|rfl|rfl <;> exact⟨_,rfl,rfl⟩
  refine wk_ (qn_ (ws_ (wb_ (ws_ (wr_ (e_ ixa (k:=e_ lel (k:=e_ asn (k:=on_ (qn_ (ws_ (wr_ (e_ mv (k:=?_))))))))))))))
  refine e_ mv (k:=?_)
  refine d2_ rfl (kc (aa) (aa)) (k:=on_ (qn_ (wi_ (k:=fun h6=>?_) (m:=fun h6=>?_))))
  ·have hE:oM (cF r)=cF r++ [101]:=by
    have:(dp (cF r) [97,116] ||dp (cF r) [98,108] ||dp (cF r) [105,122])=true:=by
     have hi3:i<3:=(Yk.1 he).1
     rcases(show i=0∨i=1∨i=2 from aa)with rfl|rfl|rfl <;> cases he
     ·rw[show dp (cF r) [97,116]=true from h6];all_goals rfl
     ·rw[show dp (cF r) [98,108]=true from h6];simp
     ·rw[show dp (cF r) [105,122]=true from h6];simp
    rw[oM,this];all_goals rfl
   refine ws_ (wr_ (e_ mv (k:=?_)))
   refine e_ (js rfl rfl (by show r.size+1≤_;omega)) (k:=?_)
   refine e_ asn (k:=on_ (qn_ (wt_ (br_ (qr_ (lr_ (br_ (qr_ (rt_ Tryz.results284 (k:=?_))))))))))
   exact⟨_,hsb,r++⟨#[101]⟩,rfl,by rw[hM,hE,fQ];all_goals rfl,rfl⟩
  have hno:=h6
  refine wk_ (bn_ (qn_ (wr_ (e_ iad (k:=e_ mv (k:=on_ (?_)))))))
  refine ln_ (i+1) (k:=?_)
  try dsimp only
  refine⟨by have:=(Yk.1 he).1;simp at this;omega,fun j e' hj hje=> ?_⟩
  by_cases e:j=i
  ·subst e;rw[he]at hje;cases hje;exact hno
  ·exact hall j e' (aa) hje
 obtain rfl:i=3:=by simp at h5;omega
 have hx:(dp (cF r) [97,116] ||dp (cF r) [98,108] ||dp (cF r) [105,122])=false:=by
  rw[show dp (cF r) [97,116]=false from hall 0 _ (aa) rfl,show dp (cF r) [98,108]=false from hall 1 _ (aa) rfl,show dp (cF r) [105,122]=false from hall 2 _ (aa) rfl];all_goals rfl
 have hrl:=cL r
 refine we_ (qe_ (le_ (bh_ (qn_ (ws_ (ws_ (wr_ (e_ mv (k:=?_)))))))))
 refine d1_ rfl (IG (aa)) (k:=e_ mv (k:=dh 8 53 (k:=fun h7=>eg_ mv (k:=eg_ mv (k:=eg_ nT (k:=eg_ isb (k:=eg_ (ixs (hj:=FG (by have:=x8 ‹rf (cF r)=true›;omega)) (hlt:=by have:=x8 ‹rf (cF r)=true›;omega)) (k:=kK (vs:=[_,_]) (hc:=(indexByte _)) (k:=eg_ ilt (k:=e_ pkt (k:=on_ (edq)))))))))) (q:=on_ (qn_ (wi_ (k:=fun h8=>?_) (m:=fun h8=>?_))))))
 ·obtain⟨d1,d2⟩:=h8
  have d3:=x8 d1
  refine ws_ (wr_ (e_ mv (k:=e_ mv (k:=e_ nT (k:=e_ isb (k:=e_ Ab (k:=e_ asn (k:=on_ (qn_ (wt_ (qr_ (rt_ Tryz.results284 (k:=?_)))))))))))))
  refine⟨_,hsb,r.extract 0 (r.size - 1),rfl,?_,rfl⟩
  have hn:¬at0 (cF r) (r.size - 1)∈cF ⟨#[108,115,122]⟩:=fun h=> by have:=(mG (xe _)).2 h;omega
  rw[show cF ⟨#[108,115,122]⟩= [108,115,122]from rfl]at hn
  rw[hM,oM,hx,d1,hrl,zt]
  simp at hn
  simp[hn]
 have hY:(rf (cF r) && !(decide (at0 (cF r) ((cF r).length - 1)=108) ||decide (at0 (cF r) ((cF r).length - 1)=115) ||decide (at0 (cF r) ((cF r).length - 1)=122)))=false:=by
  rcases h8 with d|d
  ·rw[d];all_goals rfl
  ·have hm:=(mG (q:=⟨#[108,115,122]⟩) (xe (q:=r) (r.size - 1))).1 (aa)
   rw[show cF ⟨#[108,115,122]⟩= [108,115,122]from rfl]at hm
   rw[hrl]
   simp at hm
   rcases hm with h|h|h <;> simp[h]
 refine wk_ (qn_ (ws_ (ws_ (wr_ (e_ mv (k:=?_))))))
 refine d1_ rfl (xI (aa)) (k:=e_ ieq (k:=e_ mv (k:=dh 3 65 (k:=fun h9=>eg_ mv (k:=kK (vs:=[_]) (hc:=(ER (aa))) (k:=e_ pkt (k:=on_ (edq))))) (q:=on_ (qn_ (wi_ (k:=fun h10=>?_) (m:=fun h10=>?_)))))))
 ·obtain⟨m1,m2⟩:=h10
  refine ws_ (wr_ (e_ mv (k:=?_)))
  refine e_ (js rfl rfl (by show r.size+1≤_;omega)) (k:=?_)
  refine e_ asn (k:=on_ (qn_ (wt_ (qr_ (rt_ Tryz.results284 (k:=?_))))))
  exact⟨_,hsb,r++⟨#[101]⟩,rfl,by rw[hM,oM,hx,hY,Ys (show iB (cF r)=1 from aa),m2,fQ];all_goals rfl,rfl⟩
 have hm:(decide (iB (cF r)=1) && j4 (cF r))=false:=by
  rcases h10 with d|d
  ·rw[Yr (aa)];all_goals rfl
  ·rw[d];simp
 refine wk_ (qn_ (ws_ (wr_ (e_ mv (k:=e_ asn (k:=on_ (qn_ (wt_ (rt_ Tryz.results284 (k:=?_))))))))))
 exact⟨_,hsb,r,rfl,by rw[hM,oM,hx,hY,hm];all_goals rfl,rfl⟩
theorem NT {G:cK}{H:cG}{q:ByteArray}(hq:q.size≤5000000):SC G Tryz.prog 277 [.string q] H (fun v H'=> ∃r,v= .string r∧cF r=lF (cF q)∧H'=H):=by
 have hl:=cL q
 obtain⟨u,hu⟩:∃u:ByteArray,u=bif decide (2<q.size) && dp (cF q) [39,115]then q.extract 0 (q.size - 2)else q:=⟨_,rfl⟩
 have hub:cF u=kV (cF q):=by
  rw[hu,kV,hl]
  cases(decide (2<q.size) && dp (cF q) [39,115])with
  |false=> rfl
  |true=> exact iT q _
 have hul:=cL u
 have huq:u.size≤q.size:=by
  rw[hu]
  cases(decide (2<q.size) && dp (cF q) [39,115])with
  |false=> exact Nat.le_refl _
  |true=>
   have:=cL (q.extract 0 (q.size - 2))
   rw[iT,Yg,hl]at this
   simp only[cond_true];omega
 refine sWk Tryz.func277 Tryz.ntmps277 ?_
 refine ws_ (wr_ (e_ asn (k:=on_ (qn_ (ws_ (wr_ (e_ mv (k:=e_ asn (k:=on_ (qn_ (mf [(3, .string u)] [3,6,7,8,9,10,11,12,13,14,15,16,17] ?_ ?_)))))))))))
 ·refine gk (k:=dh 3 12 (k:=fun h1=>gk (k:=kK (vs:=[_,_]) (hc:=(kc (aa) (ag))) (k:=gk (k:=edq)))) (q:=gk (k:=wi_ (k:=fun h2=>?_) (m:=fun h2=>?_))))
  ·obtain⟨c1,c2⟩:=h2
   rw[Ys (show 2<q.size from aa),show dp (cF q) [39,115]=true from c2]at hu
   obtain rfl:u=q.extract 0 (q.size - 2):=hu
   refine wr_ (e_ mv (k:=e_ mv (k:=e_ nT (k:=e_ isb (k:=e_ Ab (k:=gk (k:=jne)))))))
  have hc:(decide (2<q.size) && dp (cF q) [39,115])=false:=by
   rcases h2 with c|c
   ·rw[Yr (aa)];all_goals rfl
   ·rw[show dp (cF q) [39,115]=false from c];simp
  rw[hc]at hu
  obtain rfl:u=q:=hu
  refine gk (k:=jne)
 refine gk (k:=wi_ (k:=fun h3=>?_) (m:=fun h3=>?_))
 ·have hS:lF (cF q)=cF u:=by rw[lF,←hub,xQ,Ys (aa)];all_goals rfl
  refine gk (k:=rt_ Tryz.results277 (k:=?_))
  exact⟨_,hsb,u,rfl,hS.symm,rfl⟩
 refine gk (k:=dt (Nat) (fun y=> y≤u.size∧∀j,j<y→rW (at0 (cF u) j)=true) (fun y=> [(4, .int .i64 ((y:Nat):Int))]) [(3,_)] (fun y=> []) _ (fun y=> u.size - y) (0) (h0:=?_) (k:=?_))
 ·try dsimp only
  exact⟨Yl _,fun j hj=> absurd hj (Nat.not_lt_zero _)⟩
 rintro i ⟨hi,hall⟩
 try dsimp only[Yd,Ye]at*
 refine gk (k:=wi_ (k:=fun h4=>?_) (m:=fun h4=>?_))
 ·refine gk (k:=dN 5 37 (k:=fun h5=>gk (k:=edq)) (q:=go ?_))
  refine wi_ (k:=fun h6=>?_) (m:=fun h6=>?_)
  ·have hn:rW (at0 (cF u) i)=false:=by simp only[rW,Bool.and_eq_false_iff,decide_eq_false_iff_not];omega
   have hS:lF (cF q)=cF u:=by rw[lF,←hub,xQ,KB (aa) hn];simp
   refine gk (k:=rt_ Tryz.results277 (k:=?_))
   exact⟨_,hsb,u,rfl,hS.symm,rfl⟩
  have hy:rW (at0 (cF u) i)=true:=by simp only[rW,Bool.and_eq_true,decide_eq_true_eq];omega
  refine go ?_
  refine ln_ (i+1) (k:=?_)
  try dsimp only
  refine⟨aa,fun j hj=> ?_⟩
  by_cases e:j=i
  ·subst e;exact hy
  ·exact hall j (aa)
 have hA:=all_take hall (aa)
 have hS:lF (cF q)=sY (nI (iP mr 0 (iP lk 0 (ki (iy (jj (cF u))))))):=by rw[lF,←hub,xQ,hA,Yr (aa),Bool.not_true,Bool.or_false,cond_false]
 refine go ?_
 refine c1_ rfl (Iv (aa)) (k:=?_)
 rintro _ _ ⟨r1,rfl,hr1,rfl⟩
 have z1:=qJ hr1 (tc _)
 refine c1_ rfl (Iu (aa)) (k:=?_)
 rintro _ _ ⟨r2,rfl,hr2,rfl⟩
 have z2:=qJ hr2 (ta _)
 refine c1_ rfl (It (aa)) (k:=?_)
 rintro _ _ ⟨r3,rfl,hr3,rfl⟩
 have z3:=qJ hr3 (sZ _)
 refine c1_ rfl (LF (aa)) (k:=?_)
 rintro _ _ ⟨r4,rfl,hr4,rfl⟩
 have z4:=qJ hr4 (lL (k:=10) (ag) _)
 refine c1_ rfl (LD (aa)) (k:=?_)
 rintro _ _ ⟨r5,rfl,hr5,rfl⟩
 have z5:=qJ hr5 (lL (k:=10) (ag) _)
 refine c1_ rfl (LC (aa)) (k:=?_)
 rintro _ _ ⟨r6,rfl,hr6,rfl⟩
 have z6:=qJ hr6 (v7 _)
 refine c1_ rfl (LB (aa)) (k:=?_)
 rintro _ _ ⟨r7,rfl,hr7,rfl⟩
 have hE:cF r7=lF (cF q):=by
  rw[hr6,hr5,hr4,hr3,hr2,hr1]at hr7
  exact hr7.trans hS.symm
 refine gk (k:=rt_ Tryz.results277 (k:=?_))
 exact⟨_,hsb,r7,rfl,hE,rfl⟩
def xi (ps:List (ByteArray×ByteArray)) (rs:List gr):Prop:=ps.map (fun p=> (cF p.1,cF p.2))=rs
theorem xi.length {ps:List (ByteArray×ByteArray)}{rs:List gr}(h:xi ps rs):ps.length=rs.length:=by
 rw[←show ps.map (fun p=> (cF p.1,cF p.2))=rs from h,Yh]
theorem xi.get {ps:List (ByteArray×ByteArray)}{rs:List gr}(h:xi ps rs) {k:Nat}(hk:k<rs.length):∃a b,ps[k]? =some (a,b)∧rs[k]? =some (cF a,cF b):=by
 subst h
 rw[Yh]at hk
 exact⟨(ps[k]).1,(ps[k]).2,Yi hk,by rw[Xd,Yi hk];all_goals rfl⟩
theorem O3 {G:cK}{H:cG}{q:ByteArray}(hq:q.size≤1000000000):SC G Tryz.prog 272 [.string q] H (fun v H'=> v= .string (dL (je (cF q)))∧H'=H):=by
 have hl:=cL q
 refine sWk Tryz.func272 Tryz.ntmps272 ?_
 refine go ?_
 refine s_ (O9 rfl) (k:=?_)
 rintro _ _ ⟨s7,rfl,rfl⟩
 have hz:cJ (Row s7 eB (cF q)::H) (Row s7 eB (jd (cF q) 0)::H):=by rw[AV];exact cJ.refl
 refine gk (k:=dt (Nat) (fun y=> y≤q.size) (fun y=> [(10, .int .i64 ((y:Nat):Int))]) [(0,_),(3,_),(8,_),(9,_)] (fun y=> [Row s7 eB (jd (cF q) y)]) H (fun y=> q.size - y) (0) (hh:=?_) (h0:=?_) (k:=?_))
 ·try dsimp only
  exact hz
 ·try dsimp only
  exact Yl _
 rintro i hi
 try dsimp only[Yd,Ye]at*
 have hp:=qh (w:=cF q) (i:=i) (aa)
 refine gk (k:=wi_ (k:=fun h1=>?_) (m:=fun h1=>?_))
 ·have hg:=vG (w:=cF q) (i:=i) (aa)
  refine wk_ (qn_ (ws_ (wb_ (ws_ (wr_ (e_ mv (k:=?_)))))))
  refine e_ (di rfl rfl i rfl (aa)) (k:=?_)
  refine e_ (fX rfl (bQ) (bQ) _ hg) (k:=?_)
  refine gk (k:=dh 3 20 (k:=fun h2=>gk (k:=edq)) (q:=gk (k:=dN 22 43 (k:=fun h3=>gk (k:=dh 6 30 (k:=fun h4=>gk (k:=edq)) (q:=gk (k:=dh 3 34 (k:=fun h5=>gk (k:=edq)) (q:=gk (k:=dh 3 38 (k:=fun h6=>gk (k:=edq)) (q:=gk (k:=dh 3 42 (k:=fun h7=>gk (k:=edq)) (q:=gk (k:=edq)))))))))) (q:=go ?_))))
  refine ir_ (k:=fun h8=>?_) (m:=fun h8=>?_)
  ·have hc:oP (cF q) i=true:=by rw[←h8];exact bq (by simp[oP] <;> omega)
   have hx:at0 (cF q) i≤158:=by simp only[oP,Bool.or_eq_true,Bool.and_eq_true,decide_eq_true_eq]at hc;omega
   refine wr_ (e_ mv (k:=e_ mv (k:=e_ mv (k:=?_))))
   refine e_ (jY 256 rfl rfl rfl rfl _ 32 rfl rfl (aa)) (k:=?_)
   refine e_ (di rfl rfl i rfl (aa)) (k:=?_)
   refine s_ (dH rfl rfl rfl (aa)) (k:=?_)
   rintro _ _ ⟨rfl,rfl⟩
   rw[Dv (aa) hc]
   refine go ?_
   refine ln_ (i+1) (k:=?_)
   try dsimp only
   omega
  have hc:oP (cF q) i=false:=by rw[←h8];exact bq (by simp[oP] <;> omega)
  rw[H3 (aa) hc]
  refine go ?_
  refine ln_ (i+1) (k:=?_)
  try dsimp only
  omega
 obtain rfl:i=q.size:=aa
 refine we_ (qe_ (le_ (bh_ (qn_ (ws_ (wr_ (e_ mv (k:=?_))))))))
 refine e_ (eN rfl) (k:=?_)
 refine gk (k:=rt_ Tryz.results272 (k:=?_))
 refine⟨_,hsb,?_,rfl⟩
 rw[←hl,Dw];all_goals rfl
theorem sI {G:cK}{H:cG}{s p:SV}{xs:List Nat} [Sl H s eB xs] [Sl H p eSV [s]] (hn:xs.length≤1000000000000):SC G Tryz.prog 68 [p.val] H (fun v H'=> ∃s':SV,v=s'.val∧H'=Row s' eB xs::H):=by
 refine sWk Tryz.func68 Tryz.ntmps68 ?_
 refine go ?_
 refine gk (k:=wl_ (Nat×Nat) (fun y=> y.1≤1∧y.2=y.1*xs.length) (fun y=> [(0,p.val),(3, .int .i64 ((y.2:Nat):Int)),(10,p.val),(11, .int .i64 1),(12, .int .i64 ((y.1:Nat):Int))]) (fun _=> H) (fun y=> 1 - y.1) ((0,0)) (h0:=?_) (k:=?_))
 ·try dsimp only
  exact⟨aa,an⟩
 rintro⟨i,n⟩ ⟨hi,hn'⟩
 try dsimp only at*
 refine gk (k:=wi_ (k:=fun h1=>?_) (m:=fun h1=>?_))
 ·obtain rfl:i=0:=by omega
  obtain rfl:n=0:=aa
  refine wk_ (qn_ (ws_ (wb_ (ws_ (wr_ (?_))))))
  refine e_ (di rfl rfl 0 rfl (an)) (k:=?_)
  refine go ?_
  refine go ?_
  refine ln_ ((1,0+xs.length)) (k:=?_)
  try dsimp only
  exact⟨aa,aa⟩
 obtain rfl:i=1:=aa
 obtain rfl:n=xs.length:=aa
 refine go ?_
 refine s_ (eX eB 0 rfl rfl _ _ rfl rfl rfl (aa) (aa) (aa)) (k:=?_)
 rintro _ _ ⟨s1,rfl,hs1n,hs1c,rfl⟩
 refine go ?_
 refine gk (k:=wl_ (Nat×Nat×List Nat) (fun y=> y.1≤1∧y.2.1=y.1*xs.length∧y.2.2=if y.1=0 then List.replicate xs.length 0 else xs) (fun y=> [(6,s1.val),(7, .int .i64 ((y.2.1:Nat):Int)),(23,p.val),(24, .int .i64 1),(25, .int .i64 ((y.1:Nat):Int))]) (fun y=> Row s1 eB y.2.2::H) (fun y=> 1 - y.1) ((0,0,List.replicate xs.length 0)) (h0:=?_) (k:=?_))
 ·try dsimp only
  exact⟨aa,an,rfl⟩
 rintro⟨i,n,zs⟩ ⟨hi,hn',hz⟩
 try dsimp only at*
 refine gk (k:=wi_ (k:=fun h2=>?_) (m:=fun h2=>?_))
 ·obtain rfl:i=0:=by omega
  obtain rfl:n=0:=aa
  obtain rfl:zs=List.replicate xs.length 0:=hz
  refine wk_ (qn_ (ws_ (wb_ (ws_ (wr_ (?_))))))
  refine e_ (di rfl rfl 0 rfl (an)) (k:=?_)
  refine e_ lel (k:=e_ asn (k:=on_ (qn_ (wr_ (e_ mv (k:=e_ mv (k:=e_ mv (k:=?_))))))))
  refine e_ (eL rfl (bQ) 0 xs.length ⟨_,_,rfl,rfl⟩ (an) (aa) (an)) (k:=?_)
  refine go ?_
  refine s_ (BM (a:=0) (b:=xs.length) rfl rfl (bQ) (aa) (an) xs.length (an)) (k:=?_)
  rintro _ _ ⟨rfl,rfl⟩
  refine go ?_
  refine ln_ ((1,0+xs.length,xs)) (h4:=?_) (k:=?_)
  ·try dsimp only
   have e:List.take 0 (List.replicate xs.length 0)++List.take xs.length xs++List.drop (0+xs.length) (List.replicate xs.length 0)=xs:=an
   rw[e]
   exact hsb
  try dsimp only
  exact⟨aa,aa,rfl⟩
 obtain rfl:i=1:=aa
 obtain rfl:zs=xs:=hz
 refine gk (k:=rt_ Tryz.results68 (k:=?_))
 exact⟨_,hsb,s1,rfl,rfl⟩
theorem iv {G:cK}{H R:cG}{b:Nat}{xs:List Nat} [hr:Rem H Wr b xs R] (hn:xs.length≤1000000000000):SC G Tryz.prog 72 [.pointer (some ⟨b,0,none⟩)] H (fun v H'=> ∃s':SV,v=s'.val∧H'=Row s' eB xs::Wr b xs::R):=by
 refine tt hr fun s=> ?_
 refine sWk Tryz.func72 Tryz.ntmps72 ?_
 refine gk (k:=gz eSV (k:=fun s1=>?_))
 refine c1_ rfl (sI hn) (k:=?_)
 rintro _ _ ⟨s2,rfl,rfl⟩
 refine gk (k:=rt_ Tryz.results72 (k:=?_))
 exact⟨_,hsb,s2,rfl,rfl⟩
theorem iS {G:cK}{H:cG}{s:SV}{xs:List Nat} [Sl H s eB xs] (hn:xs.length≤1000000000000):SC G Tryz.prog 38 [s.val] H (fun v H'=> ∃b,v= .pointer (some ⟨b,0,none⟩)∧H'=Rd b (xs,0)::H):=by
 refine sWk Tryz.func38 Tryz.ntmps38 ?_
 refine ws_ (wr_ (e_ asn (k:=on_ (qn_ (ws_ (wr_ (e_ mv (k:=e_ lnn (k:=e_ (bld [(1,_)]) (k:=gk (k:=gz eSV (k:=fun s1=>?_))))))))))))
 refine c1_ rfl (sI hn) (k:=?_)
 rintro _ _ ⟨s2,rfl,rfl⟩
 refine e_ (bld [(0,_),(1,_)]) (k:=bxx (k:=fun b1=>?_))
 refine gk (k:=rt_ Tryz.results38 (k:=?_))
 exact⟨_,hsb,_,rfl,rfl⟩
def uv (n:Nat):List Nat:=if n<128 then [n]else(n % 128+128)::uv (n / 128)
theorem lE {n:Nat}(h:n<128):uv n= [n]:=by unfold uv;rw[if_pos h]
theorem qE {n:Nat}(h:¬n<128):uv n=(n % 128+128)::uv (n / 128):=by rw[uv,if_neg h]
theorem Ey:∀(k n:Nat),n<128 ^ k→0<k→(uv n).length≤k:=by
 intro k
 induction k with
 |zero=> intro n _ h;omega
 |succ k ih=>
  intro n hn _
  by_cases h:n<128
  ·rw[lE h];simp
  ·rw[qE h,Yb]
   have hk:0<k:=by
    rcases Nat.eq_zero_or_pos k with rfl|hk
    ·simp at hn;omega
    ·exact hk
   have:=ih (n / 128) (by rw[Nat.pow_succ]at hn;omega) hk
   omega
theorem fq {n:Nat}(h:n<18446744073709551616):(uv n).length≤10:=Ey 10 n (aa) (ag)
theorem oV (n:Nat):0<(uv n).length:=by
 by_cases h:n<128
 ·rw[lE h];simp
 ·rw[qE h];simp
theorem Dc:∀m:Fin 256,m.val ||| 128=m.val % 128+128:=ay
theorem Oy (n:Nat):(n % 256) ||| 128=n % 128+128:=by
 have:=Dc ⟨n % 256,aa⟩
 simp only at this
 rw[this];omega
theorem fM {G:cK}{H:cG}:SC G Tryz.prog 69 [] H (fun v H'=> ∃b,v= .pointer (some ⟨b,0,none⟩)∧H'=Wr b []::H):=by
 refine sWk Tryz.func69 Tryz.ntmps69 ?_
 refine ws_ (wr_ (e_ asn (k:=on_ (qn_ (ws_ (wr_ (e_ (bld []) (k:=bxx (k:=fun b1=>?_)))))))))
 refine gk (k:=rt_ Tryz.results69 (k:=?_))
 exact⟨_,hsb,_,rfl,rfl⟩
theorem ny {G:cK}{H R:cG}{b:Nat}{xs:List Nat} [hr:Rem H Wr b xs R] (x:Nat) (hn:xs.length≤1000000000000):SC G Tryz.prog 70 [.pointer (some ⟨b,0,none⟩), .int .u8 (x:Int)] H (fun v H'=> v= .tuple #[]∧H'=Wr b (xs++ [x])::R):=by
 refine tt hr fun s=> ?_
 refine sWk Tryz.func70 Tryz.ntmps70 ?_
 refine gk (k:=gz eB (k:=fun s1=>?_))
 refine app (k:=fun s2=>?_)
 refine gk (k:=rt_ Tryz.results70 (k:=?_))
 exact⟨_,hsb,rfl,rfl⟩
theorem zW {G:cK}{H R:cG}{b:Nat}{s2:SV}{xs ys:List Nat} [hr:Rem H Wr b xs R] [Sl R s2 eB ys] (hn:xs.length≤1000000000000) (hm:ys.length≤1000000000000):SC G Tryz.prog 176 [.pointer (some ⟨b,0,none⟩),s2.val] H (fun v H'=> v= .tuple #[]∧H'=Wr b (xs++ys)::R):=by
 refine tt hr fun s=> ?_
 refine sWk Tryz.func176 Tryz.ntmps176 ?_
 refine gk (k:=app (k:=fun s1=>?_))
 refine gk (k:=rt_ Tryz.results176 (k:=?_))
 exact⟨_,hsb,rfl,rfl⟩
theorem ek {G:cK}{H R:cG}{b:Nat}{xs:List Nat} [hr:Rem H Wr b xs R] (x:Nat) (hx:x<18446744073709551616) (hn:xs.length≤1000000000000):SC G Tryz.prog 71 [.pointer (some ⟨b,0,none⟩), .int .u64 (x:Int)] H (fun v H'=> v= .tuple #[]∧H'=Wr b (xs++uv x)::R):=by
 refine tt hr fun s=> ?_
 have hl:=fq hx
 refine sWk Tryz.func71 Tryz.ntmps71 ?_
 refine gk (k:=wl_ (SV×Nat×List Nat) (fun y=> y.2.2++uv y.2.1=xs++uv x∧y.2.1<18446744073709551616) (fun y=> [(0, .pointer (some ⟨b,0,none⟩)),(1, .int .u64 (y.2.1:Int))]) (fun y=> Vr b [y.1.val]::Row y.1 eB y.2.2::R) (fun y=> y.2.1) ((s,x,xs)) (h0:=?_) (k:=?_))
 ·try dsimp only
  exact⟨rfl,hx⟩
 rintro⟨s,n,zs⟩ ⟨hI,hnb⟩
 try dsimp only at*
 have hlen:=congrArg List.length hI
 have hpos:=oV n
 simp only[Ya]at hlen
 refine gk (k:=wi_ (k:=fun h1=>?_) (m:=fun h1=>?_))
 ·refine wk_ (qn_ (wb_ (ws_ (wr_ (e_ mv (k:=e_ mv (k:=e_ nck (k:=e_ fla (k:=e_ ldv (k:=e_ mv (k:=?_)))))))))))
  refine e_ ((aR)) (k:=?_)
  refine e_ (iE 256 rfl rfl rfl rfl _ 128 rfl rfl (aj) (aj)) (k:=?_)
  refine gz eB (k:=fun s1=>?_)
  refine app (k:=fun s2=>?_)
  refine e_ nck (k:=e_ fla (k:=sto (k:=on_ (qn_ (wr_ (e_ mv (k:=?_)))))))
  refine e_ (fC rfl rfl _ 7 rfl rfl (aI)) (k:=?_)
  refine go ?_
  refine ln_ ((s2,n / 2 ^ 7,zs++ [n % 256 ||| 128])) (k:=?_)
  try dsimp only
  refine⟨?_,aa⟩
  rw[←hI,Oy,qE (n:=n) (aa)]
  simp
 have e:zs++ [n]=xs++uv x:=by rw[←hI,lE (aa)]
 refine we_ (qe_ (le_ (bh_ (qn_ (wr_ (e_ mv (k:=e_ mv (k:=e_ nck (k:=e_ fla (k:=e_ ldv (k:=e_ mv (k:=?_))))))))))))
 refine e_ ((aR)) (k:=?_)
 refine gz eB (k:=fun s3=>?_)
 refine app (k:=fun s4=>?_)
 refine gk (k:=rt_ Tryz.results71 (k:=?_))
 exact⟨_,by rw[e];exact hsb,rfl,rfl⟩
end Go.Sx
