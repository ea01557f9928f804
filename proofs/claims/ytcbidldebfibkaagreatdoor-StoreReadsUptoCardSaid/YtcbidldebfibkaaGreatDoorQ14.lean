import Derived.Test.YtcbidldebfibkaaGreatDoorQ13
import Derived.Laws.StructEq
set_option linter.unusedVariables false
set_option linter.unusedSimpArgs false
set_option linter.unusedSectionVars false
set_option linter.unnecessarySimpa false
set_option maxHeartbeats 0
namespace Go.Sx
open Go Go.Proofs
set_option maxRecDepth 100000
theorem tn {bl:List (Nat×List Nat)}(h:bl.length<2):nG bl=none:=by
 match bl,h with
 | [],_=> rfl
 | [_],_=> rfl
theorem xq {bl:List (Nat×List Nat)}(h:bl.length % 2≠0):nG bl=none:=by
 match bl,h with
 | [],_=> rfl
 | [_],_=> rfl
 |a::b::r,h=>
  simp only[Yb]at h
  rw[nG,if_pos (a8)]
theorem Dl {bl:List (Nat×List Nat)}{a b:Nat×List Nat}(h0:bl[0]? =some a) (h1:bl[1]? =some b) (h:bl.length % 2=0):nG bl=match uU a b with
 |none=> none
 |some (fs,n)=>
  match ky (bl.drop 2)with
  |none=> none
  |some ps=> some (fs,n,ps):=by
 match bl,h0,h1,h with
 |x::y::r,h0,h1,h=>
  simp at h0 h1
  subst h0;subst h1
  simp only[Yb]at h
  rw[nG,if_neg (a8)]
  all_goals rfl
def uw (ps:Pcs):Option Pcs→Option Pcs
 |none=> none
 |some r=> some (ps++r)
theorem iA.snoc {F F':cG}{l:List (SV×SV)}{ps:Pcs}(h:iA F l ps) (a b:SV) (x:List Nat) (y:List Int) (hF:∀(s:SV) (b:List Nat),Sl F s eB b→Sl F' s eB b) (hF2:∀(s:SV) (b:List Int),Sl F s eI b→Sl F' s eI b) (ha:Sl F' a eB x) (hb:Sl F' b eI y):iA F' (l++ [(a,b)]) (ps++ [(x,y)]):=by
 obtain⟨h1,h2⟩:=h
 refine⟨by simp[h1],fun i p q hp hq=> ?_⟩
 by_cases hi:i<l.length
 ·rw[Yv hi]at hp
  rw[Yv (a8)]at hq
  obtain⟨h3,h4⟩:=h2 i p q hp hq
  exact⟨hF _ _ h3,hF2 _ _ h4⟩
 ·rw[Yu (a8)]at hp hq
  have hz:i - l.length=0:=by
   have:=(Yk.1 hp).1
   simp at this;omega
  rw[hz]at hp
  rw[←h1,hz]at hq
  simp at hp hq
  subst hp;subst hq
  exact⟨ha,hb⟩
theorem iA.nil {F:cG}:iA F [] []:=⟨rfl,fun i p q h=> aR⟩
theorem kL.ext {F F':cG}{l:List (Nat×SV)}{bl:List (Nat×List Nat)}(h:kL F l bl) (hF:∀(s:SV) (b:List Nat),Sl F s eB b→Sl F' s eB b):kL F' l bl:=⟨h.1,fun i p q hp hq=> ⟨(h.2 i p q hp hq).1,hF _ _ (h.2 i p q hp hq).2⟩⟩
theorem ic {bl:List (Nat×List Nat)}{q:Nat×List Nat}(h:q∈bl):q.2.length≤(da bl).length:=qI h
theorem oF:∀bl:List (Nat×List Nat),bl.length≤(da bl).length
 | []=> aj
 |q::bl=> by
  have ih:=oF bl
  rw[show da (q::bl)=fK q.1 q.2++da bl from bu,Ya,ft,Yb];omega
def pcF (x:(SV×SV)×(List Nat×List Int)):cG:= [Row x.1.1 eB x.2.1,Row x.1.2 eI x.2.2]
def K3 (p:SV×SV) (q:List Nat×List Int):Hp:=Row p.1 eB q.1
def K4 (p:SV×SV) (q:List Nat×List Int):Hp:=Row p.2 eI q.2
theorem yc:∀(lp:List (SV×SV)) (ps:Pcs),(List.zipWith K4 lp ps++List.zipWith K3 lp ps).Perm ((lp.zip ps).flatMap pcF)
 | [],_=> aj
 |_::_, []=> aj
 |p::lp,q::ps=> by
  rw[List.zipWith_cons_cons,List.zipWith_cons_cons,List.zip_cons_cons,List.flatMap_cons]
  have h:=yc lp ps
  refine(List.Perm.cons _ (List.perm_middle)).trans ?_
  refine(List.Perm.swap _ _ _).trans ?_
  exact(h.cons _).cons _
theorem EE {lp:List (SV×SV)}{ps:Pcs}{lb:List (Nat×SV)}{bl:List (Nat×List Nat)}(hs:(List.zipWith K3 lp ps).Sublist (List.zipWith DU lb bl)):cK ((List.zipWith K4 lp ps).reverse++(List.zipWith DU lb bl).reverse) ((lp.zip ps).flatMap pcF):=
 (cK.perm ((List.reverse_perm _).append (List.reverse_perm _))).trans ((qP ((List.Sublist.refl _).append hs)).trans (cK.perm (yc lp ps)))
theorem xt {α:Type}{l:List α}{i:Nat}{a b:α}(h:l[i]? =some a) (h2:l[i+1]? =some b):l.take (i+2)=l.take i++ [a,b]:=by
 rw[List.take_add_one,h2,List.take_add_one,h];simp
theorem C9 {G:cM}{H:cG}{s:SV}{xs:List Nat} [hg:Glb G H] [Tab H 26 ig] [Tab H 24 fF] [hs:Sl H s eB xs] (hn:xs.length≤1000000000) (hb:∀x∈xs,x<256):SC G Tryz.prog 15 [s.val] H (fun v H'=>
 (unE xs=none∧v= .tuple #[.agg [SV.nil.val, .int .i64 0,SV.nil.val].toArray,G.err 10]∧H'=H)∨(∃fs n ps lp F,∃sf sp:SV,unE xs=some (fs,n,ps)∧iA F lp ps∧cK F ((lp.zip ps).flatMap pcF)∧v= .tuple #[.agg [sf.val, .int .i64 ((n:Nat):Int),sp.val].toArray, .nilIface]∧H'=Row sf eF fs::Row sp eP lp::dH F::H)):=by
 refine sWk Tryz.func15 Tryz.ntmps15 ?_
 refine gk (k:=alc (k:=fun b1=>?_))
 refine go ?_
 refine c2_ rfl (yA 73 (ag) hn hb) (k:=?_)
 rintro v1 H1 hK
 rcases hK with⟨he,rfl,e,rfl⟩|⟨bl,lb,F0,sbl,he,hB,hF0,rfl,rfl⟩
 ·have hN:unE xs=none:=by rw[unE,he]
  refine e_ mv (k:=e_ exr (k:=e_ exr (k:=e_ asn (k:=e_ asn (k:=on_ (qn_ (ws_ (ws_ (wr_ (e_ mv (k:=?_)))))))))))
  refine e_ (cR rfl) (k:=?_)
  refine gk (k:=ift (k:=?_))
  refine go ?_
  refine di cL (fun i=> [2].contains i) (fun k H=> (k=1→dh H 10 [G.err 10])) (af_ 0 (q:=cE fun H hH=>bld []) (k:=?_))
  refine cH 1 rfl rfl (aa) rfl (cE fun H hH=>aq) (?_)
  refine cQ 2 rfl (aa) rfl (fun k hk=> fun hi=> ab) (dk rfl rfl rfl) ?_
  rintro _ _ ⟨rfl,rfl⟩
  refine af_ 3 (q:=cE fun H hH=>asn) (k:=db (aa) (fun k hk=> fun hi=> ab) (gk (k:=rt_ Tryz.results15 (k:=?_))))
  exact⟨_,hsb, .inl ⟨hN,rfl,rfl⟩⟩
 have eU:unE xs=nG bl:=by rw[unE,he]
 obtain⟨hlen,hbod⟩:=hB
 obtain⟨i1,i2,i3⟩:=jS hb he
 have hxl:=congrArg List.length i1
 rw[kA]at hxl
 have hbll:=oF bl
 refine e_ mv (k:=e_ exr (k:=e_ exr (k:=e_ asn (k:=e_ asn (k:=on_ (qn_ (ws_ (ws_ (wr_ (e_ mv (k:=?_)))))))))))
 refine e_ (cN rfl) (k:=?_)
 refine e_ mv (k:=eg_ mv (k:=eg_ lnn (k:=eg_ ilt (k:=e_ pkf (k:=sp_ (mv) (k:=fun h1=>?_) (m:=fun h1=>?_))))))
 ·have hN:unE xs=none:=by rw[eU];exact tn (a8)
  refine gk (k:=ift (k:=go ?_))
  refine di cL (fun i=> [2].contains i) (fun k H=> (k=1→dh H 10 [G.err 10])) (af_ 0 (q:=cE fun H hH=>bld []) (k:=?_))
  refine cH 1 rfl rfl (aa) rfl (cE fun H hH=>aq) (?_)
  refine cQ 2 rfl (aa) rfl (fun k hk=> fun hi=> ab) (dk rfl rfl rfl) ?_
  rintro _ _ ⟨rfl,rfl⟩
  refine af_ 3 (q:=cE fun H hH=>asn) (k:=db (aa) (fun k hk=> fun hi=> ab) (gk (k:=rt_ Tryz.results15 (k:=?_))))
  exact⟨_,hsb, .inl ⟨hN,rfl,rfl⟩⟩
 refine eg_ mv (k:=eg_ lnn (k:=?_))
 refine eg_ (gQ rfl rfl lb.length 2 rfl rfl (a8)) (k:=?_)
 refine gk (k:=wi_ (k:=fun h2=>?_) (m:=fun h2=>?_))
 ·have hN:unE xs=none:=by rw[eU];exact xq (a8)
  refine go ?_
  refine di cL (fun i=> [2].contains i) (fun k H=> (k=1→dh H 10 [G.err 10])) (af_ 0 (q:=cE fun H hH=>bld []) (k:=?_))
  refine cH 1 rfl rfl (aa) rfl (cE fun H hH=>aq) (?_)
  refine cQ 2 rfl (aa) rfl (fun k hk=> fun hi=> ab) (dk rfl rfl rfl) ?_
  rintro _ _ ⟨rfl,rfl⟩
  refine af_ 3 (q:=cE fun H hH=>asn) (k:=db (aa) (fun k hk=> fun hi=> ab) (gk (k:=rt_ Tryz.results15 (k:=?_))))
  exact⟨_,hsb, .inl ⟨hN,rfl,rfl⟩⟩
 obtain⟨pa,hpa⟩:∃p,lb[0]? =some p:=⟨_,Yi (a8)⟩
 obtain⟨pb,hpb⟩:∃p,lb[1]? =some p:=⟨_,Yi (a8)⟩
 obtain⟨qa,hqa⟩:∃p,bl[0]? =some p:=⟨_,Yi (a8)⟩
 obtain⟨qb,hqb⟩:∃p,bl[1]? =some p:=⟨_,Yi (a8)⟩
 obtain⟨ea,Sa⟩:=hbod 0 pa qa hpa hqa
 obtain⟨eb,Sb⟩:=hbod 1 pb qb hpb hqb
 have la:=ic (Yj hqa)
 have lb1:=ic (Yj hqb)
 have ba:=(i3 qa (Yj hqa)).2
 have bb:=(i3 qb (Yj hqb)).2
 have ba1:=(i3 qa (Yj hqa)).1
 have bb1:=(i3 qb (Yj hqb)).1
 have e0:=Dl hqa hqb (a8)
 rw[←eU]at e0
 have key:uU qa qb=none→unE xs=none:=fun h=> by rw[e0,h]
 refine wk_ (qn_ (ws_ (ws_ (wr_ (e_ mv (k:=?_))))))
 refine e_ (cO rfl rfl 0 rfl (a8)) (k:=?_)
 refine e_ fle (k:=?_)
 refine e_ (dA rfl (aI) pa hpa (aI)) (k:=?_)
 refine e_ ine (k:=sp_ (mv) (k:=fun h3=>?_) (m:=fun h3=>?_))
 ·have hN:unE xs=none:=key (by rw[uU,if_pos (.inl (a8))])
  refine gk (k:=ift (k:=go ?_))
  refine di cL (fun i=> [2].contains i) (fun k H=> (k=1→dh H 10 [G.err 10])) (af_ 0 (q:=cE fun H hH=>bld []) (k:=?_))
  refine cH 1 rfl rfl (aa) rfl (cE fun H hH=>aq) (?_)
  refine cQ 2 rfl (aa) rfl (fun k hk=> fun hi=> ab) (dk rfl rfl rfl) ?_
  rintro _ _ ⟨rfl,rfl⟩
  refine af_ 3 (q:=cE fun H hH=>asn) (k:=db (aa) (fun k hk=> fun hi=> ab) (gk (k:=rt_ Tryz.results15 (k:=?_))))
  exact⟨_,hsb, .inl ⟨hN,rfl,rfl⟩⟩
 refine eg_ mv (k:=?_)
 refine eg_ (cO rfl rfl 1 rfl (a8)) (k:=?_)
 refine eg_ fle (k:=?_)
 refine eg_ (dA rfl (aI) pb hpb (aI)) (k:=?_)
 refine gk (k:=wi_ (k:=fun h4=>?_) (m:=fun h4=>?_))
 ·have hN:unE xs=none:=key (by rw[uU,if_pos (.inr (a8))])
  refine go ?_
  refine di cL (fun i=> [2].contains i) (fun k H=> (k=1→dh H 10 [G.err 10])) (af_ 0 (q:=cE fun H hH=>bld []) (k:=?_))
  refine cH 1 rfl rfl (aa) rfl (cE fun H hH=>aq) (?_)
  refine cQ 2 rfl (aa) rfl (fun k hk=> fun hi=> ab) (dk rfl rfl rfl) ?_
  rintro _ _ ⟨rfl,rfl⟩
  refine af_ 3 (q:=cE fun H hH=>asn) (k:=db (aa) (fun k hk=> fun hi=> ab) (gk (k:=rt_ Tryz.results15 (k:=?_))))
  exact⟨_,hsb, .inl ⟨hN,rfl,rfl⟩⟩
 have e1:uU qa qb=match kI qa.2 with
  |none=> none
  |some fs=>
   match ec 1099511627776 qb.2 with
   | .error _=> none
   | .ok (n,m)=> if m<qb.2.length then none else some (fs,n):=by
  rw[uU,if_neg (a8)]
  all_goals rfl
 refine wk_ (qn_ (ws_ (wr_ (e_ mv (k:=?_)))))
 refine e_ (cO rfl rfl 0 rfl (a8)) (k:=?_)
 refine e_ fle (k:=?_)
 refine e_ (dA rfl (aI) pa hpa (aI)) (k:=?_)
 refine c1_ rfl (Hq (xs:=qa.2) (a8) ba) (k:=?_)
 rintro v1 H1 hK
 rcases hK with⟨he2,rfl,s2,e,rfl⟩|⟨fs,sf,he2,rfl,rfl⟩
 ·have hN:unE xs=none:=key (by rw[e1,he2])
  refine gk (k:=alc (k:=fun b6=>?_))
  refine sto (k:=e_ asn (k:=on_ (qn_ (ws_ (ws_ (wr_ (e_ mv (k:=?_))))))))
  refine e_ (cR rfl) (k:=?_)
  refine gk (k:=ift (k:=go ?_))
  refine di cL (fun i=> [2].contains i) (fun k H=> (k=1→dh H 10 [G.err 10])) (af_ 0 (q:=cE fun H hH=>bld []) (k:=?_))
  refine cH 1 rfl rfl (aa) rfl (cE fun H hH=>aq) (?_)
  refine cQ 2 rfl (aa) rfl (fun k hk=> fun hi=> ab) (dk rfl rfl rfl) ?_
  rintro _ _ ⟨rfl,rfl⟩
  refine af_ 3 (q:=cE fun H hH=>asn) (k:=db (aa) (fun k hk=> fun hi=> ab) (gk (k:=rt_ Tryz.results15 (k:=?_))))
  exact⟨_,hsb, .inl ⟨hN,rfl,rfl⟩⟩
 rw[he2]at e1
 simp only[]at e1
 refine gk (k:=alc (k:=fun b6=>?_))
 refine sto (k:=e_ asn (k:=on_ (qn_ (ws_ (ws_ (wr_ (e_ mv (k:=?_))))))))
 refine e_ (cN rfl) (k:=?_)
 refine gk (k:=dw (k:=go ?_))
 refine e_ (cO rfl rfl 1 rfl (a8)) (k:=?_)
 refine e_ fle (k:=?_)
 refine e_ (dA rfl (aI) pb hpb (aI)) (k:=?_)
 refine c1_ rfl (jo (xs:=qb.2) (a8)) (k:=?_)
 rintro _ _ ⟨br,rfl,rfl⟩
 refine go ?_
 refine c2_ rfl (tR (most:=1099511627776) (Yl _) (a8) bb (a8)) (k:=?_)
 rintro v1 H1 hK
 rw[List.drop_zero]at hK
 rcases hK with⟨e,he3,rfl,rfl⟩|⟨n,m,he3,rfl,rfl⟩
 ·have hN:unE xs=none:=key (by rw[e1,he3])
  refine e_ mv (k:=e_ exr (k:=e_ exr (k:=e_ asn (k:=e_ asn (k:=on_ (qn_ (ws_ (ws_ (wr_ (e_ mv (k:=?_)))))))))))
  refine e_ (cR rfl) (k:=?_)
  refine gk (k:=ift (k:=go ?_))
  refine di cL (fun i=> [2].contains i) (fun k H=> (k=1→dh H 10 [G.err 10])) (af_ 0 (q:=cE fun H hH=>bld []) (k:=?_))
  refine cH 1 rfl rfl (aa) rfl (cE fun H hH=>aq) (?_)
  refine cQ 2 rfl (aa) rfl (fun k hk=> fun hi=> ab) (dk rfl rfl rfl) ?_
  rintro _ _ ⟨rfl,rfl⟩
  refine af_ 3 (q:=cE fun H hH=>asn) (k:=db (aa) (fun k hk=> fun hi=> ab) (gk (k:=rt_ Tryz.results15 (k:=?_))))
  exact⟨_,hsb, .inl ⟨hN,rfl,rfl⟩⟩
 rw[he3]at e1
 simp only[]at e1
 rw[Nat.zero_add m]
 obtain⟨u1,u2,u3,u4⟩:=dI bb he3
 refine e_ mv (k:=e_ exr (k:=e_ exr (k:=e_ asn (k:=e_ asn (k:=on_ (qn_ (ws_ (ws_ (wr_ (e_ mv (k:=?_)))))))))))
 refine e_ (cN rfl) (k:=?_)
 refine go ?_
 refine sg_ (dm (vs:= [_]) rfl (mj (a8))) (k:=?_)
 rintro v1 H1 ⟨rfl,hK⟩
 rcases hK with⟨hlt,rfl⟩|⟨heq,rfl⟩
 ·have hN:unE xs=none:=key (by rw[e1,if_pos hlt])
  refine eg_ (cR rfl) (k:=?_)
  refine gk (k:=ift (k:=go ?_))
  refine di cL (fun i=> [2].contains i) (fun k H=> (k=1→dh H 10 [G.err 10])) (af_ 0 (q:=cE fun H hH=>bld []) (k:=?_))
  refine cH 1 rfl rfl (aa) rfl (cE fun H hH=>aq) (?_)
  refine cQ 2 rfl (aa) rfl (fun k hk=> fun hi=> ab) (dk rfl rfl rfl) ?_
  rintro _ _ ⟨rfl,rfl⟩
  refine af_ 3 (q:=cE fun H hH=>asn) (k:=db (aa) (fun k hk=> fun hi=> ab) (gk (k:=rt_ Tryz.results15 (k:=?_))))
  exact⟨_,hsb, .inl ⟨hN,rfl,rfl⟩⟩
 rw[if_neg (a8)]at e1
 have e2:unE xs=match ky (bl.drop 2)with
  |none=> none
  |some ps=> some (fs,n,ps):=by rw[e0,e1]
 refine eg_ (cN rfl) (k:=?_)
 refine gk (k:=dw (k:=wk_ (qn_ (ws_ (wr_ (e_ lds (k:=e_ mv (k:=e_ (bld [(0,_),(1,_)]) (k:=alc (k:=fun b9=>?_))))))))))
 refine gk (k:=wl_ (SV×Nat×List (SV×SV)×Pcs×cG) (fun y=> 2≤y.2.1∧y.2.1≤bl.length∧y.2.1 % 2=0∧y.2.2.1.length≤y.2.1∧iA y.2.2.2.2 y.2.2.1 y.2.2.2.1∧kL y.2.2.2.2 lb bl∧ky (bl.drop 2)=uw y.2.2.2.1 (ky (bl.drop y.2.1))∧y.2.2.2.2=(List.zipWith K4 y.2.2.1 y.2.2.2.1).reverse++F0∧(List.zipWith K3 y.2.2.1 y.2.2.2.1).Sublist (List.zipWith DU (lb.take y.2.1) (bl.take y.2.1))) (fun y=> [(2, .pointer (some ⟨b1,0,none⟩)),(4,sbl.val),(9, .pointer (some ⟨b9,0,none⟩)),(10, .int .i64 ((y.2.1:Nat):Int))]) (fun y=> Vr b9 [sf.val, .int .i64 ((n:Nat):Int),y.1.val]::Row y.1 eP y.2.2.1::Row sf eF fs::Row sbl eK lb::dH y.2.2.2.2::Vr b1 [SV.nil.val, .int .i64 0,SV.nil.val]::H) (fun y=> bl.length - y.2.1) ((SV.nil,2, [], [],F0)) (h0:=?_) (k:=?_))
 ·try dsimp only
  refine⟨Nat.le_refl _,a8,rfl,Yl _,iA.nil,⟨hlen,hbod⟩,?_,rfl,List.nil_sublist _⟩
  cases ky (bl.drop 2)with
  |none=> rfl
  |some r=> rfl
 rintro⟨sp,i,lp,ps,F⟩ ⟨hi2,hil,hie,hll,hPs,hBF,hI,hFD,hFI⟩
 try dsimp only at*
 refine gk (k:=wi_ (k:=fun h5=>?_) (m:=fun h5=>?_))
 ·obtain⟨p,hp⟩:∃p,lb[i]? =some p:=⟨_,Yi (a8)⟩
  obtain⟨p2,hp2⟩:∃p,lb[i+1]? =some p:=⟨_,Yi (a8)⟩
  obtain⟨q,hq⟩:∃p,bl[i]? =some p:=⟨_,Yi (a8)⟩
  obtain⟨q2,hq2⟩:∃p,bl[i+1]? =some p:=⟨_,Yi (a8)⟩
  obtain⟨ep,Sp⟩:=hBF.2 i p q hp hq
  obtain⟨ep2,Sp2⟩:=hBF.2 (i+1) p2 q2 hp2 hq2
  have lq:=ic (Yj hq)
  have lq2:=ic (Yj hq2)
  have bq:=(i3 q (Yj hq)).2
  have bq2:=(i3 q2 (Yj hq2)).2
  have bq1:=(i3 q (Yj hq)).1
  have bq21:=(i3 q2 (Yj hq2)).1
  rw[dV hq,dV hq2,ky]at hI
  refine wk_ (qn_ (ws_ (wb_ (ws_ (ws_ (wr_ (e_ mv (k:=e_ mv (k:=?_)))))))))
  refine e_ (cO rfl rfl i rfl (a8)) (k:=?_)
  refine e_ fle (k:=?_)
  refine e_ (dA rfl (aI) p hp (aI)) (k:=?_)
  refine e_ ine (k:=sp_ (mv) (k:=fun h6=>?_) (m:=fun h6=>?_))
  ·have hN:unE xs=none:=by rw[e2,hI,if_pos (.inl (a8))];all_goals rfl
   refine gk (k:=ift (k:=go ?_))
   refine di cL (fun i=> [2].contains i) (fun k H=> (k=1→dh H 10 [G.err 10])) (af_ 0 (q:=cE fun H hH=>bld []) (k:=?_))
   refine cH 1 rfl rfl (aa) rfl (cE fun H hH=>aq) (?_)
   refine cQ 2 rfl (aa) rfl (fun k hk=> fun hi=> ab) (dk rfl rfl rfl) ?_
   rintro _ _ ⟨rfl,rfl⟩
   refine af_ 3 (q:=cE fun H hH=>asn) (k:=db (aa) (fun k hk=> fun hi=> ab) (gk (k:=rt_ Tryz.results15 (k:=?_))))
   exact⟨_,hsb, .inl ⟨hN,rfl,rfl⟩⟩
  refine eg_ mv (k:=eg_ mv (k:=eg_ iad (k:=?_)))
  refine eg_ (cO rfl rfl (i+1) rfl (a8)) (k:=?_)
  refine eg_ fle (k:=?_)
  refine eg_ (dA rfl (aI) p2 hp2 (aI)) (k:=?_)
  refine gk (k:=wi_ (k:=fun h7=>?_) (m:=fun h7=>?_))
  ·have hN:unE xs=none:=by rw[e2,hI,if_pos (.inr (a8))];all_goals rfl
   refine go ?_
   refine di cL (fun i=> [2].contains i) (fun k H=> (k=1→dh H 10 [G.err 10])) (af_ 0 (q:=cE fun H hH=>bld []) (k:=?_))
   refine cH 1 rfl rfl (aa) rfl (cE fun H hH=>aq) (?_)
   refine cQ 2 rfl (aa) rfl (fun k hk=> fun hi=> ab) (dk rfl rfl rfl) ?_
   rintro _ _ ⟨rfl,rfl⟩
   refine af_ 3 (q:=cE fun H hH=>asn) (k:=db (aa) (fun k hk=> fun hi=> ab) (gk (k:=rt_ Tryz.results15 (k:=?_))))
   exact⟨_,hsb, .inl ⟨hN,rfl,rfl⟩⟩
  rw[if_neg (a8)]at hI
  refine wk_ (qn_ (ws_ (wr_ (e_ mv (k:=e_ mv (k:=e_ iad (k:=?_)))))))
  refine e_ (cO rfl rfl (i+1) rfl (a8)) (k:=?_)
  refine e_ fle (k:=?_)
  refine e_ (dA rfl (aI) p2 hp2 (aI)) (k:=?_)
  refine c1_ rfl (jo (xs:=q2.2) (a8)) (k:=?_)
  rintro _ _ ⟨br2,rfl,rfl⟩
  refine e_ asn (k:=on_ (qn_ (ws_ (wr_ (e_ mv (k:=e_ mv (k:=e_ mv (k:=e_ iad (k:=?_)))))))))
  refine e_ (cO rfl rfl (i+1) rfl (a8)) (k:=?_)
  refine e_ fle (k:=?_)
  refine e_ (dA rfl (aI) p2 hp2 (aI)) (k:=?_)
  refine go ?_
  refine c2_ rfl (B9 (xs:=q2.2) (most:=q2.2.length) (Yl _) (a8) bq2 (a8)) (k:=?_)
  rintro v1 H1 hK
  rw[List.drop_zero]at hK
  rcases hK with⟨e,he4,rfl,rfl⟩|⟨d,m2,s4,he4,rfl,rfl⟩
  ·have hN:unE xs=none:=by rw[e2,hI,he4];all_goals rfl
   refine e_ mv (k:=e_ exr (k:=e_ exr (k:=e_ asn (k:=e_ asn (k:=on_ (qn_ (ws_ (ws_ (wr_ (e_ mv (k:=?_)))))))))))
   refine e_ (cR rfl) (k:=?_)
   refine gk (k:=ift (k:=go ?_))
   refine di cL (fun i=> [2].contains i) (fun k H=> (k=1→dh H 10 [G.err 10])) (af_ 0 (q:=cE fun H hH=>bld []) (k:=?_))
   refine cH 1 rfl rfl (aa) rfl (cE fun H hH=>aq) (?_)
   refine cQ 2 rfl (aa) rfl (fun k hk=> fun hi=> ab) (dk rfl rfl rfl) ?_
   rintro _ _ ⟨rfl,rfl⟩
   refine af_ 3 (q:=cE fun H hH=>asn) (k:=db (aa) (fun k hk=> fun hi=> ab) (gk (k:=rt_ Tryz.results15 (k:=?_))))
   exact⟨_,hsb, .inl ⟨hN,rfl,rfl⟩⟩
  rw[he4]at hI
  simp only[]at hI
  rw[Nat.zero_add m2]
  obtain⟨r1,r2,r3,r4,r5⟩:=gx bq2 he4
  refine e_ mv (k:=e_ exr (k:=e_ exr (k:=e_ asn (k:=e_ asn (k:=on_ (qn_ (ws_ (ws_ (wr_ (e_ mv (k:=?_)))))))))))
  refine e_ (cN rfl) (k:=?_)
  refine go ?_
  refine sg_ (dm (vs:= [_]) rfl (mj (xs:=q2.2) (a8))) (k:=?_)
  rintro v1 H1 ⟨rfl,hK⟩
  rcases hK with⟨hlt2,rfl⟩|⟨heq2,rfl⟩
  ·have hN:unE xs=none:=by rw[e2,hI,if_pos hlt2];all_goals rfl
   refine eg_ (cR rfl) (k:=?_)
   refine gk (k:=ift (k:=go ?_))
   refine di cL (fun i=> [2].contains i) (fun k H=> (k=1→dh H 10 [G.err 10])) (af_ 0 (q:=cE fun H hH=>bld []) (k:=?_))
   refine cH 1 rfl rfl (aa) rfl (cE fun H hH=>aq) (?_)
   refine cQ 2 rfl (aa) rfl (fun k hk=> fun hi=> ab) (dk rfl rfl rfl) ?_
   rintro _ _ ⟨rfl,rfl⟩
   refine af_ 3 (q:=cE fun H hH=>asn) (k:=db (aa) (fun k hk=> fun hi=> ab) (gk (k:=rt_ Tryz.results15 (k:=?_))))
   exact⟨_,hsb, .inl ⟨hN,rfl,rfl⟩⟩
  rw[if_neg (a8)]at hI
  refine eg_ (cN rfl) (k:=?_)
  refine gk (k:=dw (k:=go ?_))
  refine di cL (fun i=> [9,10,12].contains i) (fun k H=> (k=1→dh H b9 [sf.val, .int .i64 ((n:Nat):Int),sp.val])∧(k=4→Sl H sbl eK lb)∧(k=5→Sl H sbl eK lb)∧(k=6→Sl H sbl eK lb)) (af_ 0 (q:=cE fun H hH=>fla) (k:=?_))
  refine cH 1 rfl rfl (aa) rfl (cE fun H hH=>aD) (?_)
  refine af_ 2 (q:=cE fun H hH=>mv) (k:=af_ 3 (q:=cE fun H hH=>mv) (k:=?_))
  refine cH 4 rfl rfl (aa) rfl (cE fun H hH=>by have hN:=hH.2.1 rfl;exact cO rfl rfl i rfl (a8)) (?_)
  refine cH 5 rfl rfl (aa) rfl (cE fun H hH=>bV) (?_)
  refine cH 6 rfl rfl (aa) rfl (cE fun H hH=>by have hN:=hH.2.2.2 rfl;exact dA rfl (aI) p hp (aI)) (?_)
  refine af_ 7 (q:=cE fun H hH=>mv) (k:=af_ 8 (q:=cE fun H hH=>bld [(0,_),(1,_)]) (k:=?_))
  refine cQ 9 rfl (aa) rfl (fun k hk=> ⟨fun hi=> ab,fun hi=> ab,fun hi=> ab,fun hi=> ab⟩) (dW eP rfl rfl) ?_
  rintro _ _ ⟨s5,rfl,rfl⟩
  refine cQ 10 rfl (aa) rfl (fun k hk=> ⟨fun hi=> ab,fun hi=> ab,fun hi=> ab,fun hi=> ab⟩) (ek rfl rfl rfl rfl (bc) (bc)) ?_
  rintro _ _ ⟨s6,rfl,rfl⟩
  refine af_ 11 (q:=cE fun H hH=>fla) (k:=?_)
  refine cQ 12 rfl (aa) rfl (fun k hk=> ⟨fun hi=> absurd hk (ad),fun hi=> ab,fun hi=> ab,fun hi=> ab⟩) (dk rfl rfl rfl) ?_
  rintro _ _ ⟨rfl,rfl⟩
  refine db (aa) (fun k hk=> ⟨fun hi=> absurd hk (ad),fun hi=> absurd hk (ad),fun hi=> absurd hk (ad),fun hi=> absurd hk (ad)⟩) (go ?_)
  refine ln_ ((s6,i+2,lp++ [(p.2,s4)],ps++ [(q.2,d)],Row s4 eI d::F)) (k:=?_)
  try dsimp only
  refine⟨a8,a8,a8,aB,hPs.snoc (F':=Row s4 eI d::F) p.2 s4 q.2 d (fun _ _ h=> inferInstance) (fun _ _ h=> inferInstance) inferInstance inferInstance,hBF.ext (fun _ _ h=> inferInstance),?_,by rw[List.zipWith_append hPs.1,hFD,List.reverse_append];all_goals rfl,by
   rw[List.zipWith_append hPs.1,xt hp hp2,xt hq hq2,List.zipWith_append (by rw[Yg,Yg,hlen])]
   exact hFI.append (List.Sublist.cons_cons _ (List.nil_sublist _))⟩
  rw[hI]
  cases ky (bl.drop (i+2))with
  |none=> rfl
  |some r=> simp[uw]
 obtain rfl:i=bl.length:=a8
 rw[List.drop_of_length_le (Nat.le_refl _),ky]at hI
 refine gk (k:=rt_ Tryz.results15 (k:=?_))
 exact⟨_,hsb, .inr ⟨fs,n,ps,lp,F,sf,sp,by rw[e2,hI];simp[uw],hPs,by
  rw[List.take_of_length_le (Nat.le_of_eq hlen),List.take_length]at hFI
  rw[hFD,hF0];exact EE hFI,rfl,rfl⟩⟩
theorem nN {G:cM}{H:cG}{s:SV}{xs:List Nat} [hg:Glb G H] [Tab H 26 ig] [Tab H 24 fF] [hs:Sl H s eB xs] (hn:xs.length≤1000000000) (hb:∀x∈xs,x<256):SC G Tryz.prog 15 [s.val] H (fun v H'=>
 (unE xs=none∧v= .tuple #[.agg [SV.nil.val, .int .i64 0,SV.nil.val].toArray,G.err 10]∧H'=H)∨(∃fs n ps lp F,∃sf sp:SV,unE xs=some (fs,n,ps)∧iA F lp ps∧v= .tuple #[.agg [sf.val, .int .i64 ((n:Nat):Int),sp.val].toArray, .nilIface]∧H'=Row sf eF fs::Row sp eP lp::dH F::H)):=
 (C9 hn hb).mono fun v H' h=> h.imp id fun⟨fs,n,ps,lp,F,sf,sp,h1,h2,_,h3,h4⟩=> ⟨fs,n,ps,lp,F,sf,sp,h1,h2,h3,h4⟩
theorem BI {G:cM}{H:cG}{s s2:SV}{xs ys:List Nat} [Sl H s eB xs] [Sl H s2 eB ys] (hx:∀x∈xs,x<256) (hy:∀x∈ys,x<256):SC G Tryz.prog 13 [s.val,s2.val] H (fun v H'=> v= .bool (decide (xs=ys))∧H'=H):=by
 refine sWk Tryz.func13 Tryz.ntmps13 ?_
 refine ws_ (wr_ (e_ asn (k:=on_ (qn_ (ws_ (wr_ (e_ mv (k:=?_))))))))
 refine e_ (cV rfl) (k:=?_)
 refine e_ mv (k:=?_)
 refine e_ (cV rfl) (k:=?_)
 refine e_ (nh rfl rfl) (k:=?_)
 refine gk (k:=rt_ Tryz.results13 (k:=?_))
 exact⟨_,cK.refl,by rw[dK hx,dK hy];all_goals rfl,rfl⟩
theorem rz {α:Type}{xs ys:List α}(hl:xs.length=ys.length) (h:∀j,j<xs.length→xs[j]? =ys[j]?):xs=ys:=by
 apply List.ext_getElem?
 intro j
 by_cases hj:j<xs.length
 ·exact h j hj
 ·rw[List.getElem?_eq_none (a8),List.getElem?_eq_none (a8)]
theorem Kz {G:cM}{H:cG}{s s2:SV}{xs ys:List Int} [Sl H s eI xs] [Sl H s2 eI ys] (hn:xs.length≤1000000000000):SC G Tryz.prog 42 [s.val,s2.val] H (fun v H'=> v= .bool (decide (xs=ys))∧H'=H):=by
 refine sWk Tryz.func42 Tryz.ntmps42 ?_
 refine go ?_
 refine gk (k:=wi_ (k:=fun h1=>?_) (m:=fun h1=>?_))
 ·refine gk (k:=rt_ Tryz.results42 (k:=?_))
  exact⟨_,cK.refl,by rw[Yr (by rintro rfl;omega)];all_goals rfl,rfl⟩
 refine gk (k:=wl_ (Nat) (fun i=> i≤xs.length∧xs.length=ys.length∧∀j,j<i→xs[j]? =ys[j]?) (fun i=> [(0,s.val),(1,s2.val),(12, .int .i64 ((xs.length:Nat):Int)),(13, .int .i64 ((i:Nat):Int))]) (fun _=> H) (fun i=> xs.length - i) (0) (h0:=?_) (k:=?_))
 ·try dsimp only
  exact⟨Yl _,a8,fun j h=> absurd h (Nat.not_lt_zero _)⟩
 rintro i ⟨hi,hl,hall⟩
 try dsimp only at*
 refine gk (k:=wi_ (k:=fun h2=>?_) (m:=fun h2=>?_))
 ·obtain⟨x,hx⟩:∃x,xs[i]? =some x:=⟨_,Yi (a8)⟩
  obtain⟨y,hy⟩:∃x,ys[i]? =some x:=⟨_,Yi (a8)⟩
  refine go ?_
  refine cW cL (as_ 0 (q:=mv) (k:=as_ 1 (q:=mv) (k:=?_)))
  refine cH 2 rfl rfl (aa) rfl (du (cO rfl rfl i rfl (a8))) (?_)
  refine cH 3 rfl rfl (aa) rfl (du (dq rfl (aI) (aI) x hx)) (?_)
  refine as_ 4 (q:=mv) (k:=as_ 5 (q:=mv) (k:=?_))
  refine cH 6 rfl rfl (aa) rfl (du (cO rfl rfl i rfl (a8))) (?_)
  refine cH 7 rfl rfl (aa) rfl (du (dq rfl (aI) (aI) y hy)) (?_)
  refine as_ 8 (q:=ine) (k:=az_ (k:=gk (k:=wi_ (k:=fun h3=>?_) (m:=fun h3=>?_))))
  ·refine gk (k:=rt_ Tryz.results42 (k:=?_))
   exact⟨_,cK.refl,by rw[Yr (by rintro rfl;rw[hx]at hy;cases hy;first|omega|contradiction)];all_goals rfl,rfl⟩
  refine go ?_
  refine ln_ (i+1) (k:=?_)
  try dsimp only
  refine⟨a8,hl,fun j hj=> ?_⟩
  rcases Nat.lt_or_eq_of_le (Nat.le_of_lt_succ hj)with h|rfl
  ·exact hall j h
  ·rw[hx,hy,show x=y from a8]
 obtain rfl:i=xs.length:=a8
 refine gk (k:=rt_ Tryz.results42 (k:=?_))
 exact⟨_,cK.refl,by rw[Ys (rz hl hall)];all_goals rfl,rfl⟩
instance:DecidableEq FV:=fun a b=>
 if h:a.name=b.name∧a.kind=b.kind∧a.fold=b.fold∧a.stop=b.stop∧a.stem=b.stem then
  .isTrue (by cases a;cases b;simp only[FV.mk.injEq]at h⊢;exact h)
 else .isFalse (fun e=> h (by rw[e];exact⟨rfl,rfl,rfl,rfl,rfl⟩))
theorem FO:(Tryz.prog.fieldsOf 59).toList= [{name:= "Name",type:=9,offset:=0,embedded:=false,tag:= "",pkgPath:= "",byteOffset:=0},
 {name:= "Kind",type:=3,offset:=1,embedded:=false,tag:= "",pkgPath:= "",byteOffset:=16},
 {name:= "Fold",type:=4,offset:=2,embedded:=false,tag:= "",pkgPath:= "",byteOffset:=24},
 {name:= "Stop",type:=4,offset:=3,embedded:=false,tag:= "",pkgPath:= "",byteOffset:=25},
 {name:= "Stem",type:=4,offset:=4,embedded:=false,tag:= "",pkgPath:= "",byteOffset:=26}]:=by
 rw[Program.fieldsOf,Tryz.underlying59]
theorem LC:Tryz.prog.underlying 59=some (.struct (Tryz.prog.fieldsOf 59)):=by
 rw[Program.fieldsOf,Tryz.underlying59]
theorem KY:Tryz.prog.stoodInHeld 59=false:=aa
theorem Ip:Tryz.prog.eqGuardType Tryz.prog.depth 59=false:=aa
theorem nQ {P:Program}{T:TypeId} [One P T] {xs:Array Value}{o:Nat}{v:Value}(h:xs[o]? =some v) (w:World):(part T xs o).run P w= .ok v w:=by
 simp only[part,Sem.run_bind,ik,Result.andThen_ok,Bool.false_eq_true,↓reduceIte,h,Sem.run_pure]
theorem Ci (a b:FV) (w:World):(Op.equalIn 10000 59 (.agg [.string a.name, .int .i64 a.kind, .bool a.fold, .bool a.stop, .bool a.stem].toArray) (.agg [.string b.name, .int .i64 b.kind, .bool b.fold, .bool b.stop, .bool b.stem].toArray)).run Tryz.prog w= .ok (decide (a=b)) w:=by
 rw[run_equalIn_struct w 9999 59 _ _ LC KY,FO]
 have n1:("Name" :String)≠ "_" :=ag
 have n2:("Kind" :String)≠ "_" :=ag
 have n3:("Fold" :String)≠ "_" :=ag
 have n4:("Stop" :String)≠ "_" :=ag
 have n5:("Stem" :String)≠ "_" :=ag
 have q0:∀(x0 x1 x2 x3 x4:Value) (w:World),(part 9 [x0,x1,x2,x3,x4].toArray 0).run Tryz.prog w= .ok x0 w:=fun _ _ _ _ _ w=> nQ rfl w
 have q1:∀(x0 x1 x2 x3 x4:Value) (w:World),(part 3 [x0,x1,x2,x3,x4].toArray 1).run Tryz.prog w= .ok x1 w:=fun _ _ _ _ _ w=> nQ rfl w
 have q2:∀(x0 x1 x2 x3 x4:Value) (w:World),(part 4 [x0,x1,x2,x3,x4].toArray 2).run Tryz.prog w= .ok x2 w:=fun _ _ _ _ _ w=> nQ rfl w
 have q3:∀(x0 x1 x2 x3 x4:Value) (w:World),(part 4 [x0,x1,x2,x3,x4].toArray 3).run Tryz.prog w= .ok x3 w:=fun _ _ _ _ _ w=> nQ rfl w
 have q4:∀(x0 x1 x2 x3 x4:Value) (w:World),(part 4 [x0,x1,x2,x3,x4].toArray 4).run Tryz.prog w= .ok x4 w:=fun _ _ _ _ _ w=> nQ rfl w
 have e1:=fun w=> run_equalIn_string (P:=Tryz.prog) w 9998 9 a.name b.name Tryz.underlying9
 have e2:=fun w=> run_equalIn_int (P:=Tryz.prog) w 9998 3 .i64 .i64 a.kind b.kind Tryz.underlying3
 have e3:=fun w (x y:Bool)=> run_equalIn_bool' (P:=Tryz.prog) w 9998 4 x y Tryz.underlying4
 simp only[Op.eqFields,n1,n2,n3,n4,n5,ne_eq,not_false_eq_true,↓reduceIte,Sem.run_bind,q0,Result.andThen_ok,e1,uN]
 obtain⟨na,ka,fa,sa,ta⟩:=a
 obtain⟨nb,kb,fb,sb,tb⟩:=b
 simp only[FV.mk.injEq]
 by_cases h1:cF na=cF nb
 ·have h1':=iH.1 h1
  subst h1'
  simp only[decide_true,Bool.not_true,Bool.false_eq_true,↓reduceIte,Sem.run_bind,q1,Result.andThen_ok,e2,true_and]
  by_cases h2:ka=kb
  ·subst h2
   simp only[beq_self_eq_true,Bool.not_true,Bool.false_eq_true,↓reduceIte,Sem.run_bind,q2,Result.andThen_ok,e3,true_and]
   by_cases h3:fa=fb
   ·subst h3
    simp only[beq_self_eq_true,Bool.not_true,Bool.false_eq_true,↓reduceIte,Sem.run_bind,q3,Result.andThen_ok,e3,true_and]
    by_cases h4:sa=sb
    ·subst h4
     simp only[beq_self_eq_true,Bool.not_true,Bool.false_eq_true,↓reduceIte,Sem.run_bind,q4,Result.andThen_ok,e3,true_and]
     by_cases h5:ta=tb
     ·subst h5
      simp only[beq_self_eq_true,Bool.not_true,Bool.false_eq_true,↓reduceIte,Sem.run_pure,decide_true]
     ·have h6:(ta==tb)=false:=by simpa using h5
      simp only[h6,Bool.not_false,↓reduceIte,Sem.run_pure,Yr h5]
    ·have h6:(sa==sb)=false:=by simpa using h4
     simp only[h6,Bool.not_false,↓reduceIte,Sem.run_pure]
     rw[Yr (fun h=> h4 h.1)]
   ·have h6:(fa==fb)=false:=by simpa using h3
    simp only[h6,Bool.not_false,↓reduceIte,Sem.run_pure]
    rw[Yr (fun h=> h3 h.1)]
  ·have h6:(ka==kb)=false:=by simpa using h2
   simp only[h6,Bool.not_false,↓reduceIte,Sem.run_pure]
   rw[Yr (fun h=> h2 h.1)]
 ·simp only[Yr h1,Bool.not_false,↓reduceIte,Sem.run_pure]
  rw[Yr (fun h=> h1 (by rw[h.1]))]
section
variable {G:cM}{t:Tm}{H:cG}{dst:Option Tmp}{ty:TypeId}{pos:String}{after:Array Edge}{g:Option (Nat×Bool)}
theorem CR {U:TypeId}{x y:Operand}(a b:FV) (hx:evo t x=some (.agg [.string a.name, .int .i64 a.kind, .bool a.fold, .bool a.stop, .bool a.stem].toArray)) (hy:evo t y=some (.agg [.string b.name, .int .i64 b.kind, .bool b.fold, .bool b.stop, .bool b.stem].toArray)):
 Ev G Tryz.prog ⟨dst, .binOp .neq 59 x y U,ty,pos,after,g⟩ t H (.bool (!decide (a=b))):=
 fun ρ hρ w _=> by
  simp only[execOp,hρ _ _ hx,hρ _ _ hy,Sem.run_bind,run_eqGuard_agg w .neq 59 x y _ _ Ip,Result.andThen_ok,run_neq_struct,Ci,Sem.run_pure]
end
theorem FN {G:cM}{H:cG}{s s2:SV}{xs ys:List FV} [Sl H s eF xs] [Sl H s2 eF ys] (hn:xs.length≤1000000000000):SC G Tryz.prog 23 [s.val,s2.val] H (fun v H'=> v= .bool (decide (xs=ys))∧H'=H):=by
 refine sWk Tryz.func23 Tryz.ntmps23 ?_
 refine go ?_
 refine gk (k:=wi_ (k:=fun h1=>?_) (m:=fun h1=>?_))
 ·refine gk (k:=rt_ Tryz.results23 (k:=?_))
  exact⟨_,cK.refl,by rw[Yr (by rintro rfl;omega)];all_goals rfl,rfl⟩
 refine gk (k:=wl_ (Nat) (fun i=> i≤xs.length∧xs.length=ys.length∧∀j,j<i→xs[j]? =ys[j]?) (fun i=> [(0,s.val),(1,s2.val),(12, .int .i64 ((xs.length:Nat):Int)),(13, .int .i64 ((i:Nat):Int))]) (fun _=> H) (fun i=> xs.length - i) (0) (h0:=?_) (k:=?_))
 ·try dsimp only
  exact⟨Yl _,a8,fun j h=> absurd h (Nat.not_lt_zero _)⟩
 rintro i ⟨hi,hl,hall⟩
 try dsimp only at*
 refine gk (k:=wi_ (k:=fun h2=>?_) (m:=fun h2=>?_))
 ·obtain⟨x,hx⟩:∃x,xs[i]? =some x:=⟨_,Yi (a8)⟩
  obtain⟨y,hy⟩:∃x,ys[i]? =some x:=⟨_,Yi (a8)⟩
  refine go ?_
  refine cW cL (as_ 0 (q:=mv) (k:=as_ 1 (q:=mv) (k:=?_)))
  refine cH 2 rfl rfl (aa) rfl (du (cO rfl rfl i rfl (a8))) (?_)
  refine cH 3 rfl rfl (aa) rfl (du (lU rfl (aI) (aI) x hx)) (?_)
  refine as_ 4 (q:=mv) (k:=as_ 5 (q:=mv) (k:=?_))
  refine cH 6 rfl rfl (aa) rfl (du (cO rfl rfl i rfl (a8))) (?_)
  refine cH 7 rfl rfl (aa) rfl (du (lU rfl (aI) (aI) y hy)) (?_)
  refine cH 8 rfl rfl (aa) rfl (du (CR x y rfl rfl)) (?_)
  refine az_ (k:=gk (k:=wi_ (k:=fun h3=>?_) (m:=fun h3=>?_)))
  ·refine gk (k:=rt_ Tryz.results23 (k:=?_))
   exact⟨_,cK.refl,by rw[Yr (by rintro rfl;rw[hx]at hy;cases hy;contradiction)];all_goals rfl,rfl⟩
  refine go ?_
  refine ln_ (i+1) (k:=?_)
  try dsimp only
  refine⟨a8,hl,fun j hj=> ?_⟩
  rcases Nat.lt_or_eq_of_le (Nat.le_of_lt_succ hj)with h|rfl
  ·exact hall j h
  ·rw[hx,hy,show x=y from ay]
 obtain rfl:i=xs.length:=a8
 refine gk (k:=rt_ Tryz.results23 (k:=?_))
 exact⟨_,cK.refl,by rw[Ys (rz hl hall)];all_goals rfl,rfl⟩
theorem zH {G:cM}{H:cG}{sf sp sf2 sp2:SV}{fs fs2:List FV}{lp lp2:List (SV×SV)}{ps ps2:Pcs}{n n2:Int} [Sl H sf eF fs] [hsp:Sl H sp eP lp] [Sl H sf2 eF fs2] [hsp2:Sl H sp2 eP lp2] (hP:iA H lp ps) (hP2:iA H lp2 ps2)
 (hb:∀p∈ps,∀x∈p.1,x<256) (hb2:∀p∈ps2,∀x∈p.1,x<256) (hd:∀p∈ps,p.2.length≤1000000000000) (hn:fs.length≤1000000000000) (hpl:ps.length≤1000000000000):
 SC G Tryz.prog 14 [.agg [sf.val, .int .i64 n,sp.val].toArray, .agg [sf2.val, .int .i64 n2,sp2.val].toArray] H (fun v H'=> v= .bool (decide (fs=fs2∧n=n2∧ps=ps2))∧H'=H):=by
 obtain⟨hlen,hin⟩:=hP
 obtain⟨hlen2,hin2⟩:=hP2
 refine sWk Tryz.func14 Tryz.ntmps14 ?_
 refine gk (k:=bxx (k:=fun b1=>?_))
 refine bxx (k:=fun b2=>?_)
 refine go ?_
 refine d2_ rfl (FN hn) (k:=e_ oQ (k:=sp_ (mv) (k:=fun h1=>?_) (m:=fun h1=>?_)))
 ·refine go ?_
  refine gk (k:=ift (k:=gk (k:=rt_ Tryz.results14 (k:=?_))))
  refine⟨_,hsb,?_,rfl⟩
  rw[Yr]
  ·rfl
  ·rintro⟨g1,g2,g3⟩
   first
    |exact absurd g1 (ay)
    |exact absurd g2 (ay)
    |(have:=congrArg List.length g3;omega)
 refine eg_ fla (k:=eg_ ldv (k:=eg_ fla (k:=eg_ ldv (k:=eg_ ine (k:=e_ pkf (k:=sp_ (mv) (k:=fun h2=>?_) (m:=fun h2=>?_)))))))
 ·refine gk (k:=ift (k:=go ?_))
  refine gk (k:=rt_ Tryz.results14 (k:=?_))
  refine⟨_,hsb,?_,rfl⟩
  rw[Yr]
  ·rfl
  ·rintro⟨g1,g2,g3⟩
   first
    |exact absurd g1 (ay)
    |exact absurd g2 (ay)
    |(have:=congrArg List.length g3;omega)
 refine gk (k:=wi_ (k:=fun h3=>?_) (m:=fun h3=>?_))
 ·refine gk (k:=rt_ Tryz.results14 (k:=?_))
  refine⟨_,hsb,?_,rfl⟩
  rw[Yr]
  ·rfl
  ·rintro⟨g1,g2,g3⟩
   first
    |exact absurd g1 (ay)
    |exact absurd g2 (ay)
    |(have:=congrArg List.length g3;omega)
 refine wk_ (qn_ (ws_ (ws_ (wr_ (?_)))))
 have gF:fs=fs2:=ay
 have gN:n=n2:=ay
 refine gk (k:=wl_ (Nat) (fun i=> i≤ps.length∧ps.length=ps2.length∧∀j,j<i→ps[j]? =ps2[j]?) (fun i=> [(2, .pointer (some ⟨b1,0,none⟩)),(3, .pointer (some ⟨b2,0,none⟩)),(32, .int .i64 ((ps.length:Nat):Int)),(33, .int .i64 ((i:Nat):Int))]) (fun _=> Vr b2 [sf2.val, .int .i64 n2,sp2.val]::Vr b1 [sf.val, .int .i64 n,sp.val]::H) (fun i=> ps.length - i) (0) (hs:=?_) (h0:=?_) (k:=?_))
 ·rw[hlen]
  repeat (first|exact Sub.nil|refine Sub.cons rfl ?_)
 ·try dsimp only
  exact⟨Yl _,a8,fun j h=> absurd h (Nat.not_lt_zero _)⟩
 rintro i ⟨hi,hl,hall⟩
 try dsimp only at*
 refine gk (k:=wi_ (k:=fun h4=>?_) (m:=fun h4=>?_))
 ·obtain⟨p,hp⟩:∃p,lp[i]? =some p:=⟨_,Yi (a8)⟩
  obtain⟨q,hq⟩:∃q,ps[i]? =some q:=⟨_,Yi (a8)⟩
  obtain⟨p2,hp2⟩:∃p,lp2[i]? =some p:=⟨_,Yi (a8)⟩
  obtain⟨q2,hq2⟩:∃q,ps2[i]? =some q:=⟨_,Yi (a8)⟩
  obtain⟨hS1,hS2⟩:=hin i p q hp hq
  obtain⟨hT1,hT2⟩:=hin2 i p2 q2 hp2 hq2
  have kb:=hb q (Yj hq)
  have kb2:=hb2 q2 (Yj hq2)
  have kd:=hd q (Yj hq)
  refine go ?_
  refine cW cL (as_ 0 (q:=fla) (k:=as_ 1 (q:=ldv) (k:=as_ 2 (q:=mv) (k:=?_))))
  refine cH 3 rfl rfl (aa) rfl (du (cO rfl rfl i rfl (a8))) (?_)
  refine as_ 4 (q:=fle) (k:=?_)
  refine cH 5 rfl rfl (aa) rfl (du (dA rfl (aI) p hp (aI))) (?_)
  refine as_ 6 (q:=fla) (k:=as_ 7 (q:=ldv) (k:=as_ 8 (q:=mv) (k:=?_)))
  refine cH 9 rfl rfl (aa) rfl (du (cO rfl rfl i rfl (a8))) (?_)
  refine as_ 10 (q:=fle) (k:=?_)
  refine cH 11 rfl rfl (aa) rfl (du (dA rfl (aI) p2 hp2 (aI))) (?_)
  refine cH 12 rfl rfl (aa) rfl (j9 (vs:= [_,_]) rfl (BI kb kb2)) (?_)
  refine as_ 13 (q:=oQ) (k:=?_)
  refine gp 14 rfl rfl (aa) rfl (du (mv)) (fun h5=> ?_) (fun h5=> ?_)
  ·replace h5:=nrm h5
   refine ao_ 15 (k:=ao_ 16 (k:=ao_ 17 (k:=ao_ 18 (k:=ao_ 19 (k:=ao_ 20 (k:=ao_ 21 (k:=ao_ 22 (k:=ao_ 23 (k:=ao_ 24 (k:=ao_ 25 (k:=ao_ 26 (k:=ao_ 27 (k:=ao_ 28 (k:=?_))))))))))))))
   refine as_ 29 (q:=pkt) (k:=az_ (k:=gk (k:=ift (k:=go ?_))))
   refine gk (k:=rt_ Tryz.results14 (k:=?_))
   refine⟨_,hsb,?_,rfl⟩
   have hne:q≠q2:=by
    intro e
    subst e
    first
     |exact absurd rfl (ay)
     |contradiction
   rw[Yr]
   ·rfl
   ·rintro⟨_,_,g3⟩
    rw[g3,hq2]at hq
    exact hne (Option.some.inj hq).symm
  replace h5:=nrm h5
  refine at2 15 (q:=fla) (k:=at2 16 (q:=ldv) (k:=at2 17 (q:=mv) (k:=?_)))
  refine jN 18 rfl rfl rfl rfl (aa) rfl (du (cO rfl rfl i rfl (a8))) (?_)
  refine at2 19 (q:=fle) (k:=?_)
  refine jN 20 rfl rfl rfl rfl (aa) rfl (du (dA rfl (aI) p hp (aI))) (?_)
  refine at2 21 (q:=fla) (k:=at2 22 (q:=ldv) (k:=at2 23 (q:=mv) (k:=?_)))
  refine jN 24 rfl rfl rfl rfl (aa) rfl (du (cO rfl rfl i rfl (a8))) (?_)
  refine at2 25 (q:=fle) (k:=?_)
  refine jN 26 rfl rfl rfl rfl (aa) rfl (du (dA rfl (aI) p2 hp2 (aI))) (?_)
  refine jN 27 rfl rfl rfl rfl (aa) rfl (j9 (vs:= [_,_]) rfl (Kz kd)) (?_)
  refine at2 28 (q:=oQ) (k:=as_ 29 (q:=pkf) (k:=az_ (k:=gk (k:=wi_ (k:=fun h6=>?_) (m:=fun h6=>?_)))))
  ·refine gk (k:=rt_ Tryz.results14 (k:=?_))
   refine⟨_,hsb,?_,rfl⟩
   have hne:q≠q2:=by
    intro e
    subst e
    first
     |exact absurd rfl (ay)
     |contradiction
   rw[Yr]
   ·rfl
   ·rintro⟨_,_,g3⟩
    rw[g3,hq2]at hq
    exact hne (Option.some.inj hq).symm
  refine go ?_
  refine ln_ (i+1) (k:=?_)
  try dsimp only
  refine⟨a8,hl,fun j hj=> ?_⟩
  rcases Nat.lt_or_eq_of_le (Nat.le_of_lt_succ hj)with h|rfl
  ·exact hall j h
  ·rw[hq,hq2,show q=q2 from Prod.ext (ay) (ay)]
 obtain rfl:i=ps.length:=a8
 refine gk (k:=rt_ Tryz.results14 (k:=?_))
 exact⟨_,hsb,by rw[Ys ⟨gF,gN,rz hl hall⟩];all_goals rfl,rfl⟩
end Go.Sx
