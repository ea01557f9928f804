import Derived.Test.YtefgpomabdplbaaGreatDoorQ12
set_option linter.unusedVariables false
set_option linter.unusedSimpArgs false
set_option linter.unusedSectionVars false
set_option linter.unnecessarySimpa false
set_option maxHeartbeats 0
namespace Go.Sx
open Go Go.Proofs
set_option maxRecDepth 100000
theorem sg {G:cK}{H:cG}{q:ByteArray}(hq:q.size≤1000000000):SC G Tryz.prog 296 [.string q] H (fun v H'=> ∃s:SV,v=s.val∧H'=Row s eBo (vow (cF q))::H):=by
 have hl:=cL q
 refine sWk Tryz.func296 Tryz.ntmps296 ?_
 refine go ?_
 refine s_ (eX eBo false rfl rfl _ _ rfl rfl rfl (aa) (aa) (aa)) (k:=?_)
 rintro _ _ ⟨s7,rfl,hs7n,hs7c,rfl⟩
 have hz:cJ (Row s7 eBo (List.replicate q.size false)::H) (Row s7 eBo (nA (cF q) 0)::H):=by rw[CH,hl];exact cJ.refl
 refine gk (k:=dt (Nat) (fun y=> y≤q.size) (fun y=> [(10, .int .i64 ((y:Nat):Int))]) [(0,_),(3,_),(9,_)] (fun y=> [Row s7 eBo (nA (cF q) y)]) H (fun y=> q.size - y) (0) (hh:=?_) (h0:=?_) (k:=?_))
 ·try dsimp only
  exact hz
 ·try dsimp only
  exact Yl _
 rintro i hi
 try dsimp only[Yd,Ye]at*
 have hp:=rp (w:=cF q) (i:=i) (aa)
 refine gk (k:=wi_ (k:=fun h1=>?_) (m:=fun h1=>?_))
 ·have hlt:i<(cF q).length:=by simp at h1;omega
  refine wk_ (qn_ (ws_ (wb_ (ws_ (wr_ (e_ mv (k:=e_ asn (k:=on_ (qn_ (ws_ (wr_ (e_ mv (k:=e_ mv (k:=?_))))))))))))))
  refine e_ ixs (k:=on_ (qn_ (wb_ (mf [(16, .bool (isV (at0 (cF q) i)))] [16,17,18,19,20,21] ?_ ?_))))
  ·refine gk (k:=wi_ (k:=fun h2=>?_) (m:=fun h2=>?_))
   ·refine gk (k:=jne (hs:=.cons (by first|exact rfl|exact jb (by refine bq ?_;simp[isV];omega)) (.nil)))
   refine gk (k:=wi_ (k:=fun h3=>?_) (m:=fun h3=>?_))
   ·refine gk (k:=jne (hs:=.cons (by first|exact rfl|exact jb (by refine bq ?_;simp[isV];omega)) (.nil)))
   refine gk (k:=wi_ (k:=fun h4=>?_) (m:=fun h4=>?_))
   ·refine gk (k:=jne (hs:=.cons (by first|exact rfl|exact jb (by refine bq ?_;simp[isV];omega)) (.nil)))
   refine gk (k:=wi_ (k:=fun h5=>?_) (m:=fun h5=>?_))
   ·refine gk (k:=jne (hs:=.cons (by first|exact rfl|exact jb (by refine bq ?_;simp[isV];omega)) (.nil)))
   refine gk (k:=jne (hs:=.cons (by first|exact rfl|exact jb (by refine bq ?_;simp[isV];omega)) (.nil)))
  refine wi_ (k:=fun h6=>?_) (m:=fun h6=>?_)
  ·refine wr_ (e_ mv (k:=e_ mv (k:=?_)))
   refine e_ (di rfl rfl i rfl (aa)) (k:=?_)
   refine s_ (dH rfl rfl rfl (aa)) (k:=?_)
   rintro _ _ ⟨rfl,rfl⟩
   rw[sQ hlt (b:=true) (by rw[vAt,h6];all_goals rfl)]
   refine go ?_
   refine ln_ (i+1) (k:=?_)
   try dsimp only
   omega
  refine ws_ (wr_ (e_ ieq (k:=e_ asn (k:=on_ (qn_ (wi_ (k:=fun h7=>?_) (m:=fun h7=>?_)))))))
  ·refine wr_ (e_ mv (k:=e_ mv (k:=e_ mv (k:=e_ igt (k:=e_ mv (k:=dh 7 38 (k:=fun h8=>eg_ mv (k:=eg_ mv (k:=eg_ isb (k:=eg_ ixa (k:=eg_ (lel (hy:=Ek (aa) (aa))) (k:=eg_ k8 (k:=e_ pkt (k:=on_ (edq))))))))) (q:=?_)))))))
   refine e_ (di rfl rfl i rfl (aa)) (k:=?_)
   refine s_ (dH rfl rfl rfl (aa)) (k:=?_)
   rintro _ _ ⟨rfl,rfl⟩
   rw[sQ hlt (by rw[vAt,h6,Ys (show at0 (cF q) i=121 from aa)];simp)]
   refine go ?_
   refine ln_ (i+1) (k:=?_)
   try dsimp only
   omega
  rw[CI hlt (by rw[vAt,h6,Yr (show ¬at0 (cF q) i=121 from aa)];all_goals rfl)]
  refine go ?_
  refine ln_ (i+1) (k:=?_)
  try dsimp only
  omega
 obtain rfl:i=q.size:=by simp at h1;omega
 refine gk (k:=rt_ Tryz.results296 (k:=?_))
 refine⟨_,hsb,s7,rfl,?_⟩
 rw[←hl,El]
theorem xI {G:cK}{H:cG}{q:ByteArray}(hq:q.size≤1000000000):SC G Tryz.prog 288 [.string q] H (fun v H'=> v= .int .i64 (iB (cF q):Nat)∧H'=H):=by
 have hl:=cL q
 have hv:=fb (cF q)
 refine sWk Tryz.func288 Tryz.ntmps288 ?_
 refine go ?_
 refine c1_ rfl (sg hq) (k:=?_)
 rintro _ _ ⟨sv,rfl,rfl⟩
 refine gk (k:=dt (Nat×Nat) (fun y=> 1≤y.1∧(y.1≤q.size∨y.1=1)∧y.2=oN (vow (cF q)) y.1) (fun y=> [(3, .int .i64 ((y.2:Nat):Int)),(5, .int .i64 ((y.1:Nat):Int))]) [(4,_)] (fun y=> []) _ (fun y=> q.size - y.1) ((1,0)) (h0:=?_) (k:=?_))
 ·try dsimp only
  exact⟨Nat.le_refl _, .inr rfl,(vy _).symm⟩
 rintro⟨i,m⟩ ⟨h1i,hi,hmm⟩
 try dsimp only[Yd,Ye]at*
 have hm:=yz (vow (cF q)) i
 refine gk (k:=wi_ (k:=fun h1=>?_) (m:=fun h1=>?_))
 ·have hlt:i<(cF q).length:=by omega
  have hm1:oN (vow (cF q)) (i+1)=oN (vow (cF q)) i+(bif (vow (cF q)).getD (i - 1) false && !((vow (cF q)).getD i false)then 1 else 0):=by rw[oN,Ys (show 0<i from aa),Bool.true_and]
  refine wk_ (qn_ (ws_ (wb_ (ws_ (wr_ (e_ mv (k:=e_ mv (k:=e_ isb (k:=e_ ixa (k:=e_ (lel (hy:=iY (aa))) (k:=e_ mv (k:=dh 6 25 (k:=fun h2=>eg_ mv (k:=eg_ mv (k:=eg_ ixa (k:=eg_ (lel (hy:=iY (aa))) (k:=eg_ k8 (k:=e_ pkt (k:=on_ (edq)))))))) (q:=on_ (?_))))))))))))))
  refine gk (k:=ir_ (k:=fun h3=>?_) (m:=fun h3=>?_))
  ·rw[h3]at hm1
   refine go ?_
   refine ln_ ((i+1,m+1)) (k:=?_)
   try dsimp only
   refine⟨aa,aa,?_⟩
   rw[hm1,hmm];all_goals rfl
  rw[h3]at hm1
  refine go ?_
  refine ln_ ((i+1,m)) (k:=?_)
  try dsimp only
  refine⟨aa,aa,?_⟩
  rw[hm1,hmm];all_goals rfl
 refine gk (k:=rt_ Tryz.results288 (k:=?_))
 refine⟨_,hsb,?_,rfl⟩
 rw[iB,hmm]
 rcases Nat.eq_zero_or_pos q.size with h0|h0
 ·obtain rfl:i=1:=by omega
  rw[hl,h0,vy];all_goals rfl
 ·obtain rfl:i=q.size:=by omega
  rw[hl];all_goals rfl
theorem KU {G:cK}{H:cG}{q:ByteArray}(hq:q.size≤1000000000):SC G Tryz.prog 292 [.string q] H (fun v H'=> v= .bool (wJ (cF q))∧H'=H):=by
 have hv:=fb (cF q)
 have hl:=cL q
 refine sWk Tryz.func292 Tryz.ntmps292 ?_
 refine go ?_
 refine c1_ rfl (sg hq) (k:=?_)
 rintro _ _ ⟨sv,rfl,rfl⟩
 refine gk (k:=dt (Nat) (fun y=> y≤q.size∧∀j,j<y→(vow (cF q))[j]? =some false) (fun y=> [(8, .int .i64 ((y:Nat):Int))]) [(6,_),(7,_)] (fun y=> []) _ (fun y=> q.size - y) (0) (h0:=?_) (k:=?_))
 ·try dsimp only
  exact⟨Yl _,fun j hj=> absurd hj (Nat.not_lt_zero _)⟩
 rintro i ⟨hi,hall⟩
 try dsimp only[Yd,Ye]at*
 refine gk (k:=wi_ (k:=fun h1=>?_) (m:=fun h1=>?_))
 ·refine wk_ (qn_ (ws_ (wb_ (ws_ (wr_ (e_ ixa (k:=e_ (lel (hy:=iY (aa))) (k:=go ?_))))))))
  refine gk (k:=wi_ (k:=fun h2=>?_) (m:=fun h2=>?_))
  ·have hg:=iY (w:=cF q) (i:=i) (aa)
   rw[h2]at hg
   refine gk (k:=rt_ Tryz.results292 (k:=?_))
   exact⟨_,hsb,by rw[wJ,HF hg];all_goals rfl,rfl⟩
  have hg:=iY (w:=cF q) (i:=i) (aa)
  rw[h2]at hg
  refine go ?_
  refine ln_ (i+1) (k:=?_)
  try dsimp only
  refine⟨aa,fun j hj=> ?_⟩
  by_cases e:j=i
  ·subst e;exact hg
  ·exact hall j (aa)
 refine gk (k:=rt_ Tryz.results292 (k:=?_))
 exact⟨_,hsb,by rw[wJ,DZ (fun j hj=> hall j (aa))];all_goals rfl,rfl⟩
theorem IG {G:cK}{H:cG}{q:ByteArray}(hq:q.size≤1000000000):SC G Tryz.prog 293 [.string q] H (fun v H'=> v= .bool (rf (cF q))∧H'=H):=by
 have hv:=fb (cF q)
 have hl:=cL q
 refine sWk Tryz.func293 Tryz.ntmps293 ?_
 refine go ?_
 refine df cI (fun i=> [15].contains i) (fun _ _=> True) (af_ 0 (q:=cD fun H hH=>mv) (k:=af_ 1 (q:=cD fun H hH=>ige) (k:=?_)))
 refine gq 2 rfl rfl (a8) rfl (cD fun H hH=>mv) (fun h1=> ?_) (fun h1=> ?_)
 ·replace h1:=nrm h1
  have e1:decide (2≤(cF q).length)=true:=Ys (aa)
  refine ag_ 3 (q:=cD fun H hH=>mv) (k:=ag_ 4 (q:=cD fun H hH=>mv) (k:=ag_ 5 (q:=cD fun H hH=>isb) (k:=ag_ 6 (q:=cD fun H hH=>ixs) (k:=ag_ 7 (q:=cD fun H hH=>mv) (k:=ag_ 8 (q:=cD fun H hH=>mv) (k:=ag_ 9 (q:=cD fun H hH=>isb) (k:=ag_ 10 (q:=cD fun H hH=>ixs) (k:=ag_ 11 (q:=cD fun H hH=>ieq) (k:=af_ 12 (q:=cD fun H hH=>pkt) (k:=?_))))))))))
  refine gq 13 rfl rfl (a8) rfl (cD fun H hH=>mv) (fun h2=> ?_) (fun h2=> ?_)
  ·replace h2:=nrm h2
   have e2:decide (at0 (cF q) ((cF q).length - 1)=at0 (cF q) ((cF q).length - 2))=true:=Ys (by rw[hl];omega)
   refine ag_ 14 (q:=cD fun H hH=>mv) (k:=ag_ 16 (q:=cD fun H hH=>mv) (k:=ag_ 17 (q:=cD fun H hH=>isb) (k:=?_)))
   refine Bf 15 rfl rfl rfl (a8) rfl (fun _ _=> trivial) (cW (vs:= [_]) rfl (sg hq)) ?_
   rintro _ _ ⟨sv,rfl,rfl⟩
   refine qv (fun _=> trivial) (at2 18 (q:=ixa) (k:=at2 19 (q:=lel (hy:=iY (aa))) (k:=at2 20 (q:=k8) (k:=as_ 21 (q:=pkt) (k:=as_ 22 (q:=asn) (k:=az_ (k:=gk (k:=rt_ Tryz.results293 (k:=?_)))))))))
   exact⟨_,hsb,by rw[rf,e1,e2,hl];all_goals rfl,rfl⟩
  replace h2:=nrm h2
  have hD:rf (cF q)=false:=by rw[rf,e1,Yr (show ¬at0 (cF q) ((cF q).length - 1)=at0 (cF q) ((cF q).length - 2) by rw[hl];omega)];all_goals rfl
  refine ao_ 14 (k:=ao_ 16 (k:=ao_ 17 (k:=rP 15 rfl rfl rfl (a8) rfl (fun _ _=> trivial) (qv (fun _=> trivial) (ao_ 18 (k:=ao_ 19 (k:=ao_ 20 (k:=as_ 21 (q:=pkf) (k:=as_ 22 (q:=asn) (k:=az_ (k:=gk (k:=rt_ Tryz.results293 (k:=?_)))))))))))))
  exact⟨_,hsb,by rw[hD];all_goals rfl,rfl⟩
 replace h1:=nrm h1
 have e1:decide (2≤(cF q).length)=false:=Yr (aa)
 have hD:rf (cF q)=false:=by rw[rf,e1];all_goals rfl
 refine ao_ 3 (k:=ao_ 4 (k:=ao_ 5 (k:=ao_ 6 (k:=ao_ 7 (k:=ao_ 8 (k:=ao_ 9 (k:=ao_ 10 (k:=ao_ 11 (k:=af_ 12 (q:=cD fun H hH=>pkf) (k:=af_ 13 (q:=cD fun H hH=>mv) (k:=ao_ 14 (k:=ao_ 16 (k:=ao_ 17 (k:=?_))))))))))))))
 refine rP 15 rfl rfl rfl (a8) rfl (fun _ _=> trivial) (qv (fun _=> trivial) (ao_ 18 (k:=ao_ 19 (k:=ao_ 20 (k:=as_ 21 (q:=pkf) (k:=as_ 22 (q:=asn) (k:=az_ (k:=gk (k:=rt_ Tryz.results293 (k:=?_))))))))))
 exact⟨_,hsb,by rw[hD];all_goals rfl,rfl⟩
theorem ER {G:cK}{H:cG}{q:ByteArray}(hq:q.size≤1000000000):SC G Tryz.prog 289 [.string q] H (fun v H'=> v= .bool (j4 (cF q))∧H'=H):=by
 have hv:=fb (cF q)
 have hl:=cL q
 refine sWk Tryz.func289 Tryz.ntmps289 ?_
 refine go ?_
 refine gk (k:=dN 7 16 (k:=fun h1=>gk (k:=kK (vs:=[_,_]) (hc:=(indexByte _)) (k:=gk (k:=edq)))) (q:=gk (k:=wi_ (k:=fun h2=>?_) (m:=fun h2=>?_))))
 ·have hS:j4 (cF q)=false:=by
   rw[j4]
   rcases h2 with h3|h3
   ·rw[Yr (show ¬3≤(cF q).length from aa)];all_goals rfl
   ·have hx:=(mG (q:=⟨#[119,120,121]⟩) (x:=at0 (cF q) (q.size - 1)) (xe _)).1 h3
    have:at0 (cF q) ((cF q).length - 1)=119∨at0 (cF q) ((cF q).length - 1)=120∨at0 (cF q) ((cF q).length - 1)=121:=by rw[hl];rw[show cF ⟨#[119,120,121]⟩= [119,120,121]from rfl]at hx;simpa using hx
    rcases this with h|h|h <;> simp[h]
  refine gk (k:=rt_ Tryz.results289 (k:=?_))
  exact⟨_,hsb,by rw[hS];all_goals rfl,rfl⟩
 obtain⟨h3,h4⟩:=h2
 have e1:decide (3≤(cF q).length)=true:=Ys (aa)
 have hx:¬at0 (cF q) (q.size - 1)∈cF ⟨#[119,120,121]⟩:=fun h=> h4 ((mG (xe _)).2 h)
 have hn:(decide (at0 (cF q) ((cF q).length - 1)=119) ||decide (at0 (cF q) ((cF q).length - 1)=120) ||decide (at0 (cF q) ((cF q).length - 1)=121))=false:=by
  rw[show cF ⟨#[119,120,121]⟩= [119,120,121]from rfl]at hx
  rw[hl];simp at hx⊢;omega
 refine go ?_
 refine c1_ rfl (sg hq) (k:=?_)
 rintro _ _ ⟨sv,rfl,rfl⟩
 refine e_ asn (k:=on_ (qn_ (ws_ (wr_ (e_ mv (k:=e_ mv (k:=e_ isb (k:=e_ ixa (k:=e_ (lel (hy:=iY (aa))) (k:=e_ k8 (k:=e_ mv (k:=dh 6 31 (k:=fun h3=>eg_ mv (k:=eg_ mv (k:=eg_ isb (k:=eg_ ixa (k:=eg_ (lel (hy:=iY (aa))) (k:=e_ pkt (k:=on_ (edq)))))))) (q:=e_ mv (k:=?_))))))))))))))
 refine dh 7 39 (k:=fun h4=>eg_ mv (k:=eg_ mv (k:=eg_ isb (k:=eg_ ixa (k:=eg_ (lel (hy:=iY (aa))) (k:=gk (k:=edq))))))) (q:=gk (k:=rt_ Tryz.results289 (k:=?_)))
 refine⟨_,hsb,?_,rfl⟩
 rw[j4,e1,hn,hl];all_goals rfl
def oT (rs:List gr) (q r:ByteArray) (a:Int):Prop:=match eU rs (cF q)with
 |none=> r=q∧a= -1
 |some R=> ∃k,rs[k]? =some R∧a=((2*k:Nat):Int)∧dp (cF q) R.1=true∧cF r=kU (cF q) R.1∧r.size+R.1.length=q.size
theorem pH {G:cK}{H:cG}{q:ByteArray}{s:SV}{strs:List ByteArray}{rs:List gr} [hs:Sl H s eS strs] (hr:gV strs rs) (hq:q.size≤1000000000) (hn:rs.length≤1000) (hsz:∀r∈rs,r.1.length≤1000∧r.2.length≤1000):SC G Tryz.prog 290 [.string q,s.val] H (fun v H'=> ∃r a,v= .tuple #[.string r, .int .i64 a]∧oT rs q r a∧H'=H):=by
 have hl:=cL q
 have hsl:=hr.length
 refine sWk Tryz.func290 Tryz.ntmps290 ?_
 refine go ?_
 refine gk (k:=dt (Nat×(Option (Nat×gr))) (fun y=> y.1≤rs.length∧(rs.take y.1).foldl (oO (cF q)) none=y.2.map Prod.snd∧∀p,y.2=some p→rs[p.1]? =some p.2∧dp (cF q) p.2.1=true) (fun y=> [(6, .int .i64 (atI y.2)),(7, .int .i64 ((2*y.1:Nat):Int))]) [(0,_),(1,_)] (fun y=> []) _ (fun y=> rs.length - y.1) ((0,none)) (h0:=?_) (k:=?_))
 ·try dsimp only
  exact⟨Yl _,rfl,fun p h=> aW⟩
 rintro⟨n,o⟩ ⟨hnl,hf,ho⟩
 try dsimp only[Yd,Ye]at*
 refine gk (k:=wi_ (k:=fun h1=>?_) (m:=fun h1=>?_))
 ·obtain⟨R,hR⟩:∃R,rs[n]? =some R:=⟨_,Yi (aa)⟩
  obtain⟨e,e2,he,heb,he2,heb2⟩:=hr.get hR
  obtain⟨hR1,hR2⟩:=hsz R (Yj hR)
  have hel:=cL e
  rw[heb]at hel
  have hls:=wE (w:=cF q) hR
  rw[hf]at hls
  refine wk_ (qn_ (ws_ (wb_ (mf [(36, .bool (lsC (cF q) (o.map Prod.snd) R))] [14,15,16,17,18,19,20,21,22,23,24,25,26,27,28,29,30,31,32,33,34,35,36] ?_ ?_))))
  ·refine cX cI (as_ 0 (q:=mv) (k:=as_ 1 (q:=mv) (k:=as_ 2 (q:=mv) (k:=as_ 3 (q:=ixa) (k:=as_ 4 (q:=lel) (k:=?_))))))
   refine cE 5 rfl rfl (a8) rfl (gQ (vs:= [_,_]) rfl (kc (aa) (aa))) (?_)
   refine gq 6 rfl rfl (a8) rfl (dz (mv)) (fun h2=> ?_) (fun h2=> ?_)
   ·replace h2:=nrm h2
    rw[heb]at h2
    refine at2 7 (q:=mv) (k:=at2 8 (q:=ilt) (k:=?_))
    refine zA 9 rfl rfl rfl rfl (a8) rfl (dz (mv)) (fun h3=> ?_) (fun h3=> ?_)
    ·replace h3:=nrm h3
     obtain rfl:=CB.1 h3
     refine ao_ 10 (k:=ao_ 11 (k:=ao_ 12 (k:=ao_ 13 (k:=ao_ 14 (k:=ao_ 15 (k:=ao_ 16 (k:=ao_ 17 (k:=ao_ 18 (k:=ao_ 19 (k:=ao_ 20 (k:=at2 21 (q:=pkt) (k:=as_ 22 (q:=pkt) (k:=az_ (k:=?_))))))))))))))
     refine jne (hs:=.cons (cm) (.nil))
    replace h3:=nrm h3
    obtain⟨p,rfl⟩:∃p,o=some p:=by
     cases o with
     |none=> simp[atI]at h3
     |some p=> exact⟨p,rfl⟩
    obtain⟨hp1,hp2⟩:=ho p rfl
    have hpl:=(Yk.1 hp1).1
    obtain⟨f,f2,hf1,hfb,_⟩:=hr.get hp1
    have hfl:=cL f
    rw[hfb]at hfl
    dsimp only[atI]
    refine at2 10 (q:=mv) (k:=at2 11 (q:=mv) (k:=at2 12 (q:=ixa) (k:=at2 13 (q:=lel) (k:=at2 14 (q:=nT) (k:=at2 15 (q:=mv) (k:=at2 16 (q:=mv) (k:=at2 17 (q:=ixa) (k:=at2 18 (q:=lel) (k:=at2 19 (q:=nT) (k:=at2 20 (q:=igt) (k:=at2 21 (q:=pkf) (k:=as_ 22 (q:=pkt) (k:=az_ (k:=?_))))))))))))))
    refine jne (hs:=.cons (cm) (.nil))
   replace h2:=nrm h2
   refine ao_ 7 (k:=ao_ 8 (k:=ao_ 9 (k:=gM 10 (k:=gM 11 (k:=gM 12 (k:=gM 13 (k:=gM 14 (k:=gM 15 (k:=gM 16 (k:=gM 17 (k:=gM 18 (k:=gM 19 (k:=gM 20 (k:=?_))))))))))))))
   refine ao_ 21 (k:=as_ 22 (q:=pkf) (k:=az_ (k:=jne (hs:=.cons (cm) (.nil)))))
  refine wi_ (k:=fun h4=>?_) (m:=fun h4=>?_)
  ·rw[oO,h4]at hls
   refine go ?_
   refine ln_ ((n+1,some (n,R))) (k:=?_)
   try dsimp only
   refine⟨aa,hls,fun p hp=> ?_⟩
   cases hp
   refine⟨hR,?_⟩
   simp only[lsC,Bool.and_eq_true]at h4;exact h4.1
  rw[oO,h4]at hls
  refine go ?_
  refine ln_ ((n+1,o)) (k:=?_)
  try dsimp only
  exact⟨aa,hls,ho⟩
 obtain rfl:n=rs.length:=aa
 rw[List.take_of_length_le (Nat.le_refl _)]at hf
 refine gk (k:=wi_ (k:=fun h5=>?_) (m:=fun h5=>?_))
 ·obtain rfl:=CB.1 h5
  refine gk (k:=rt_ Tryz.results290 (k:=?_))
  exact⟨_,hsb,q, -1,rfl,by rw[oT,eU,hf];exact⟨rfl,rfl⟩,rfl⟩
 obtain⟨p,rfl⟩:∃p,o=some p:=by
  cases o with
  |none=> simp[atI]at h5
  |some p=> exact⟨p,rfl⟩
 obtain⟨hp1,hp2⟩:=ho p rfl
 have hpl:=(Yk.1 hp1).1
 obtain⟨f,f2,hf1,hfb,_⟩:=hr.get hp1
 have hfl:=cL f
 rw[hfb]at hfl
 have hle:=yZ hp2
 dsimp only[atI]
 refine wk_ (qn_ (ws_ (wr_ (e_ mv (k:=e_ mv (k:=e_ nT (k:=e_ mv (k:=e_ mv (k:=e_ ixa (k:=e_ lel (k:=e_ nT (k:=e_ isb (k:=e_ Ab (k:=?_))))))))))))))
 refine gk (k:=rt_ Tryz.results290 (k:=?_))
 refine⟨_,hsb,q.extract 0 (q.size - f.size),_,rfl,?_,rfl⟩
 have hrl:=cL (q.extract 0 (q.size - f.size))
 rw[iT,Yg]at hrl
 rw[oT,eU,hf]
 exact⟨p.1,hp1,rfl,hp2,by rw[iT,kU,hl,hfl],aa⟩
theorem sU {G:cK}{H:cG}{q:ByteArray}{s:SV}{strs:List ByteArray}{rs:List gr}{most:Nat} [hs:Sl H s eS strs] (hr:gV strs rs) (hq:q.size≤100000000) (hn:rs.length≤1000) (hsz:∀r∈rs,r.1.length≤1000∧r.2.length≤1000):SC G Tryz.prog 291 [.string q,s.val, .int .i64 (most:Int)] H (fun v H'=> ∃r,v= .string r∧cF r=iP rs most (cF q)∧H'=H):=by
 have hl:=cL q
 have hsl:=hr.length
 refine sWk Tryz.func291 Tryz.ntmps291 ?_
 refine go ?_
 refine c2_ rfl (pH hr (aa) hn hsz) (k:=?_)
 rintro _ _ ⟨r,a,rfl,hL,rfl⟩
 have hrq:r.size≤q.size:=by
  rw[oT]at hL
  cases h:eU rs (cF q)with
  |none=> rw[h]at hL;rw[hL.1];exact Nat.le_refl _
  |some R=> rw[h]at hL;obtain⟨k,_,_,_,_,h5⟩:=hL;omega
 refine gk (k:=dN 5 22 (k:=fun h1=>gk (k:=kK (vs:=[_]) (hc:=(xI (aa))) (k:=gk (k:=edq)))) (q:=?_))
 refine gk (k:=wi_ (k:=fun h2=>?_) (m:=fun h2=>?_))
 ·have hR:iP rs most (cF q)=cF q:=by
   rw[oT]at hL
   rw[iP]
   cases h:eU rs (cF q)with
   |none=> rfl
   |some R=>
    rw[h]at hL
    obtain⟨k,h1,h2,h3,h4,h5⟩:=hL
    simp only
    rw[←h4,Yr (aa)];all_goals rfl
  refine gk (k:=rt_ Tryz.results291 (k:=?_))
  exact⟨_,hsb,q,rfl,hR.symm,rfl⟩
 obtain⟨R,k,h1,rfl,h3,h4,h5,h6⟩:∃R k,rs[k]? =some R∧a=((2*k:Nat):Int)∧dp (cF q) R.1=true∧cF r=kU (cF q) R.1∧r.size+R.1.length=q.size∧eU rs (cF q)=some R:=by
  rw[oT]at hL
  cases h:eU rs (cF q)with
  |none=> rw[h]at hL;obtain⟨_,e⟩:=hL;omega
  |some R=> rw[h]at hL;obtain⟨k,g1,g2,g3,g4,g5⟩:=hL;exact⟨R,k,g1,g2,g3,g4,g5,rfl⟩
 obtain⟨f,f2,hf1,hfb,hf2,hfb2⟩:=hr.get h1
 have hfl:=cL f2
 rw[hfb2]at hfl
 obtain⟨_,hz⟩:=hsz R (Yj h1)
 have hkl:=(Yk.1 h1).1
 refine wk_ (qn_ (ws_ (wr_ (e_ mv (k:=e_ mv (k:=e_ mv (k:=e_ iad (k:=?_))))))))
 refine e_ (di rfl rfl (2*k+1) (aa) (aa)) (k:=?_)
 refine e_ lel (k:=e_ Mq (k:=gk (k:=rt_ Tryz.results291 (k:=?_))))
 refine⟨_,hsb,r++f2,rfl,?_,rfl⟩
 rw[fQ,hfb2,h4,iP,h6]
 simp only
 rw[←h4,Ys (aa)];all_goals rfl
theorem mD {rs:List gr}{q r:ByteArray}{a:Int}(h:oT rs q r a) (ha:¬a<0):∃R k,rs[k]? =some R∧a=((2*k:Nat):Int)∧dp (cF q) R.1=true∧cF r=kU (cF q) R.1∧r.size+R.1.length=q.size∧eU rs (cF q)=some R:=by
 rw[oT]at h
 cases hl:eU rs (cF q)with
 |none=> rw[hl]at h;obtain⟨_,e⟩:=h;omega
 |some R=> rw[hl]at h;obtain⟨k,g1,g2,g3,g4,g5⟩:=h;exact⟨R,k,g1,g2,g3,g4,g5,rfl⟩
theorem mE {rs:List gr}{q r:ByteArray}{a:Int}(h:oT rs q r a) (ha:a<0):r=q∧eU rs (cF q)=none:=by
 rw[oT]at h
 cases hl:eU rs (cF q)with
 |none=> rw[hl]at h;exact⟨h.1,rfl⟩
 |some R=> rw[hl]at h;obtain⟨k,g1,g2,_⟩:=h;omega
theorem Oq:gV ((gH jw).map dL) jw:=nY (ay)
theorem Oo:gV ((gH oa).map dL) oa:=nY (ay)
theorem Q9:gV ((gH lk).map dL) lk:=nY (ay)
theorem Q8:gV ((gH mr).map dL) mr:=nY (ay)
theorem Mw:gV ((gH kt).map dL) kt:=nY (ay)
theorem qJ {q r:ByteArray}{l:List Nat}{k:Nat}(h:cF r=l) (hl:l.length≤(cF q).length+k):r.size≤q.size+k:=by
 rw[←cL r,←cL q,h];exact hl
theorem Iv {G:cK}{H:cG}{q:ByteArray}(hq:q.size≤10000000):SC G Tryz.prog 285 [.string q] H (fun v H'=> ∃r,v= .string r∧cF r=jj (cF q)∧H'=H):=by
 refine sWk Tryz.func285 Tryz.ntmps285 ?_
 refine go ?_
 refine s_ (dC eS ((gH jw).map dL) (bQ) rfl (ay)) (k:=?_)
 rintro _ _ ⟨s7,rfl,rfl⟩
 refine c2_ rfl (pH Oq (aa) (ag) (ag)) (k:=?_)
 rintro _ _ ⟨r,a,rfl,hL,rfl⟩
 refine go ?_
 refine wi_ (k:=fun h1=>?_) (m:=fun h1=>?_)
 ·obtain⟨rfl,hN⟩:=mE hL h1
  refine gk (k:=rt_ Tryz.results285 (k:=?_))
  exact⟨_,hsb,r,rfl,by rw[jj,hN],rfl⟩
 obtain⟨R,k,g1,rfl,g3,g4,g5,g6⟩:=mD hL h1
 have hk:=(Yk.1 g1).1
 have hk4:k<4:=hk
 have hg:(jw.map fun r=> dL r.2)[k]? =some (dL R.2):=by rw[Xd,g1];all_goals rfl
 have hR:R.2.length≤10:=(show ∀r∈jw,r.2.length≤10 from ag) R (Yj g1)
 have hz:=jg R.2
 refine go ?_
 refine s_ (dC eS (jw.map fun r=> dL r.2) (bQ) rfl (ay)) (k:=?_)
 rintro _ _ ⟨s15,rfl,rfl⟩
 refine e_ mv (k:=?_)
 refine e_ (gn rfl rfl (2*k) 2 rfl rfl (ag) (aq)) (k:=?_)
 rw[show 2*k / 2=k from aa]
 refine e_ (di rfl rfl k rfl (by rw[Yh];exact hk)) (k:=?_)
 refine e_ (fX rfl (bQ) (bQ) _ hg) (k:=?_)
 refine e_ Mq (k:=gk (k:=rt_ Tryz.results285 (k:=?_)))
 refine⟨_,hsb,r++dL R.2,rfl,?_,rfl⟩
 rw[fQ,g4,jj,g6,fa]
 exact(show ∀r∈jw,∀x∈r.2,x<256 from ag) R (Yj g1)
theorem LF {G:cK}{H:cG}{q:ByteArray}(hq:q.size≤10000000):SC G Tryz.prog 282 [.string q] H (fun v H'=> ∃r,v= .string r∧cF r=iP lk 0 (cF q)∧H'=H):=by
 refine sWk Tryz.func282 Tryz.ntmps282 ?_
 refine go ?_
 refine s_ (dC eS ((gH lk).map dL) (bQ) rfl (ay)) (k:=?_)
 rintro _ _ ⟨s4,rfl,rfl⟩
 refine c3_ rfl (sU (most:=0) Q9 (aa) (ag) (ag)) (k:=?_)
 rintro _ _ ⟨r,rfl,hr,rfl⟩
 refine gk (k:=rt_ Tryz.results282 (k:=?_))
 exact⟨_,hsb,r,rfl,hr,rfl⟩
theorem LD {G:cK}{H:cG}{q:ByteArray}(hq:q.size≤10000000):SC G Tryz.prog 281 [.string q] H (fun v H'=> ∃r,v= .string r∧cF r=iP mr 0 (cF q)∧H'=H):=by
 refine sWk Tryz.func281 Tryz.ntmps281 ?_
 refine go ?_
 refine s_ (dC eS ((gH mr).map dL) (bQ) rfl (ay)) (k:=?_)
 rintro _ _ ⟨s4,rfl,rfl⟩
 refine c3_ rfl (sU (most:=0) Q8 (aa) (ag) (ag)) (k:=?_)
 rintro _ _ ⟨r,rfl,hr,rfl⟩
 refine gk (k:=rt_ Tryz.results281 (k:=?_))
 exact⟨_,hsb,r,rfl,hr,rfl⟩
theorem LC {G:cK}{H:cG}{q:ByteArray}(hq:q.size≤10000000):SC G Tryz.prog 280 [.string q] H (fun v H'=> ∃r,v= .string r∧cF r=nI (cF q)∧H'=H):=by
 refine sWk Tryz.func280 Tryz.ntmps280 ?_
 refine ws_ (wr_ (e_ asn (k:=on_ (qn_ (ws_ (wr_ (?_)))))))
 refine s_ (dC eS ((gH kt).map dL) (bQ) rfl (ay)) (k:=?_)
 rintro _ _ ⟨s6,rfl,rfl⟩
 refine e_ asn (k:=on_ (qn_ (ws_ (wr_ (e_ mv (k:=e_ mv (k:=?_)))))))
 refine c2_ rfl (pH Mw (aa) (ag) (ag)) (k:=?_)
 rintro _ _ ⟨r,a,rfl,hL,rfl⟩
 have hrq:r.size≤q.size:=by
  by_cases h:a<0
  ·rw[(mE hL h).1];exact Nat.le_refl _
  ·obtain⟨R,k,_,_,_,_,h5,_⟩:=mD hL h;omega
 refine e_ mv (k:=e_ exr (k:=e_ exr (k:=e_ asn (k:=e_ asn (k:=on_ (qn_ (ws_ (ws_ (wr_ (e_ mv (k:=e_ ige (k:=?_))))))))))))
 obtain⟨c,hc1,hc2⟩:∃c:ByteArray,(0≤a→((gH kt).map dL)[a.toNat]? =some c∧a.toNat<((gH kt).map dL).length)∧(0≤a→∃R,eU kt (cF q)=some R∧cF c=R.1∧cF r=kU (cF q) R.1):=by
  by_cases h:a<0
  ·exact⟨q,fun h1=> aa,fun h1=> aa⟩
  ·obtain⟨R,k,h1,rfl,h3,h4,h5,h6⟩:=mD hL h
   obtain⟨c,_,g1,g2,_⟩:=Mw.get h1
   rw[Int.toNat_natCast]
   exact⟨c,fun _=> ⟨g1,(Yk.1 g1).1⟩,fun _=> ⟨R,h6,g2,h4⟩⟩
 refine e_ mv (k:=dh 6 21 (k:=fun h1=>eg_ mv (k:=eg_ mv (k:=eg_ (ixa (i:=a.toNat) (hj:=by omega) (hlt:=(hc1 (aa)).2)) (k:=eg_ (lel (hy:=(hc1 (aa)).1)) (k:=eg_ y5 (k:=e_ pkt (k:=on_ (edq)))))))) (q:=e_ mv (k:=dh 4 26 (k:=fun h2=>eg_ mv (k:=kK (vs:=[_,_]) (hc:=(kc (aa) (ag))) (k:=eg_ k8 (k:=e_ pkt (k:=on_ (edq)))))) (q:=e_ mv (k:=dh 4 31 (k:=fun h3=>eg_ mv (k:=kK (vs:=[_,_]) (hc:=(kc (aa) (ag))) (k:=eg_ k8 (k:=e_ pkt (k:=on_ (edq)))))) (q:=on_ (qn_ (wi_ (k:=fun h4=>?_) (m:=fun h4=>?_)))))))))
 ·have hS:nI (cF q)=cF q:=by
   obtain⟨⟨⟨h0,h1⟩,h2⟩,h3⟩:=h4
   obtain⟨R,g1,g2,g3⟩:=hc2 h0
   rw[nI,g1]
   simp only
   rw[←g3,←g2,h1]
   rw[show cF ⟨#[115]⟩= [115]from rfl]at h2
   rw[show cF ⟨#[116]⟩= [116]from rfl]at h3
   rw[h2,h3];all_goals rfl
  refine ws_ (wr_ (e_ mv (k:=e_ asn (k:=on_ (qn_ (wt_ (qr_ (rt_ Tryz.results280 (k:=?_)))))))))
  exact⟨_,hsb,q,rfl,hS.symm,rfl⟩
 have hS:nI (cF q)=iP kt 1 (cF q):=by
  by_cases ha:a<0
  ·rw[nI,iP,(mE hL ha).2]
  ·obtain⟨R,g1,g2,g3⟩:=hc2 (aa)
   rw[nI,g1]
   simp only
   rw[←g3,←g2]
   have:(decide (cF c= [105,111,110]) && !dp (cF r) [115] && !dp (cF r) [116])=false:=by
    rw[show cF ⟨#[115]⟩= [115]from rfl,show cF ⟨#[116]⟩= [116]from rfl,show cF ⟨#[105,111,110]⟩= [105,111,110]from rfl]at h4
    rcases h4 with((h1|h1)|h1)|h1
    ·omega
    ·rw[Yr h1];all_goals rfl
    ·rw[h1];simp
    ·rw[h1];simp
   rw[this];all_goals rfl
 refine wk_ (qn_ (ws_ (wr_ (e_ mv (k:=e_ mv (k:=?_))))))
 refine c3_ rfl (sU (most:=1) Mw (aa) (ag) (ag)) (k:=?_)
 rintro _ _ ⟨r2,rfl,hr2,rfl⟩
 refine e_ asn (k:=on_ (qn_ (wt_ (rt_ Tryz.results280 (k:=?_)))))
 exact⟨_,hsb,r2,rfl,by rw[hr2,hS],rfl⟩
end Go.Sx
