import Derived.Test.YtefgpomabdplbaaGreatDoorQ24
set_option linter.unusedVariables false
set_option linter.unusedSimpArgs false
set_option linter.unusedSectionVars false
set_option linter.unnecessarySimpa false
set_option maxHeartbeats 0
namespace Go.Sx
open Go Go.Proofs
set_option maxRecDepth 100000
def ePo:Enc (Nat×SV):=⟨fun p=> [.int .i64 ((p.1:Nat):Int),p.2.val],2,true,fun _=> rfl,fun p v h=> by simp at h;rcases h with rfl|rfl <;> rfl,ag,fun h=> aG,ag⟩
instance {p:Nat×SV}:jG ePo p (.agg [.int .i64 ((p.1:Nat):Int),p.2.val].toArray):=⟨rfl⟩
instance {d:Nat}{s:SV}:fK ePo (.agg [.int .i64 ((d:Nat):Int),s.val].toArray) (d,s):=⟨rfl⟩
def qz (H:cG) (l:List (Nat×SV)) (ps:List Po):Prop:=l.length=ps.length∧∀(i:Nat) (p:Nat×SV) (q:Po),l[i]? =some p→ps[i]? =some q→p.1=q.1∧Sl H p.2 eI (cV q.2)
theorem qz.get {H:cG}{l:List (Nat×SV)}{ps:List Po}(h:qz H l ps) {i:Nat}(hi:i<l.length):∃s pos,l[i]? =some ((ps.getD i (0, [])).1,s)∧ps[i]? =some ((ps.getD i (0, [])).1,pos)∧Sl H s eI (cV pos):=by
 obtain⟨p,hp⟩:∃p,l[i]? =some p:=⟨_,Yi hi⟩
 obtain⟨q,hq⟩:∃q,ps[i]? =some q:=⟨_,Yi (by rw[←h.1];exact hi)⟩
 obtain⟨h1,h2⟩:=h.2 i p q hp hq
 rw[List.getD_eq_getElem?_getD,hq]
 exact⟨p.2,q.2,by rw[hp,Option.getD_some,←h1],rfl,h2⟩
theorem qz.cut {H:cG}{l:List (Nat×SV)}{ps:List Po}(h:qz H l ps) (a b:Nat):qz H ((l.take b).drop a) ((ps.take b).drop a):=by
 refine⟨by simp[h.1],fun i p q hp hq=> ?_⟩
 rw[Xh,List.getElem?_take]at hp hq
 split at hp
 ·rename_i hlt;rw[if_pos hlt]at hq;exact h.2 _ p q hp hq
 ·cases hp
theorem qz.tail {H:cG}{A:Hp}{l:List (Nat×SV)}{ps:List Po}(h:qz H l ps):qz (A::H) l ps:=⟨h.1,fun i p q hp hq=> by
 obtain⟨h1,h2⟩:=h.2 i p q hp hq
 exact⟨h1,Sl.tail⟩⟩
theorem wi {l:List Po}(h:e8 l) (i:Nat):e8 (l.take i):=⟨by have:=h.1;rw[Yg];omega,fun p hp=> h.2 p (Yq hp)⟩
theorem IB {G:cK}{H:cG}{s:SV}{d nb:Nat}{pos:List Nat} [hs:Sl H s eI (cV pos)] (hd:d≤1000000) (hnb:nb≤d) (hne:pos≠ []) (hok:pY 0 pos) (hl:pos.length≤100000000):SC G Tryz.prog 202 [.agg [.int .i64 ((d:Nat):Int),s.val].toArray, .int .i64 (((nb:Nat):Int) - 1)] H (fun v H'=> v= .nilIface∧H'=H):=by
 have hlen:=dO pos
 have hpos:0<pos.length:=List.length_pos_iff.2 hne
 refine sWk Tryz.func202 Tryz.ntmps202 ?_
 refine ws_ (wr_ (bxx (k:=fun b2=>?_)))
 refine e_ asn (k:=on_ (qn_ (ws_ (wb_ (ws_ (wr_ (e_ fla (k:=e_ ldv (k:=e_ ilt (k:=e_ mv (k:=dN 4 16 (k:=fun h1=>eg_ fla (k:=eg_ ldv (k:=eg_ ige (k:=e_ pkf (k:=on_ (edq)))))) (q:=e_ asn (k:=on_ (?_))))))))))))))
 refine qn_ (wi_ (k:=fun h2=>?_) (m:=fun h2=>?_))
 ·exact absurd h2 (aa)
 refine ws_ (wr_ (e_ fla (k:=e_ ldv (k:=e_ mv (k:=e_ ile (k:=e_ asn (k:=on_ (qn_ (wi_ (k:=fun h3=>?_) (m:=fun h3=>?_))))))))))
 ·exact absurd h3 (aa)
 refine ws_ (wr_ (e_ fla (k:=e_ ldv (k:=e_ lnn (k:=e_ ieq (k:=e_ asn (k:=on_ (qn_ (wi_ (k:=fun h4=>?_) (m:=fun h4=>?_))))))))))
 ·exact absurd h4 (aa)
 refine wk_ (bn_ (qn_ (ws_ (ws_ (wr_ (e_ fla (k:=e_ ldv (k:=e_ lnn (k:=e_ mv (k:=on_ (qn_ (wb_ (dt (Nat) (fun y=> True) (fun y=> [(33, .int .i64 ((y:Nat):Int))]) [(2,_),(31,_),(32,_)] (fun y=> []) _ (fun y=> pos.length - y) (0) (h0:=?_) (k:=?_))))))))))))))
 ·try dsimp only
  all_goals trivial
 rintro i -
 try dsimp only[Yd,Ye]at*
 refine ws_ (wr_ (e_ ilt (k:=on_ (qn_ (ws_ (wi_ (k:=fun h5=>?_) (m:=fun h5=>?_)))))))
 ·obtain⟨x,hx⟩:∃x,pos[i]? =some x:=⟨_,Yi (aa)⟩
  have hxi:=ez hx
  refine wk_ (qn_ (ws_ (wb_ (ws_ (wr_ (e_ ixa (k:=e_ lel (k:=e_ asn (k:=on_ (qn_ (ws_ (wr_ (e_ mv (k:=?_))))))))))))))
  refine e_ ilt (k:=on_ (qn_ (wi_ (k:=fun h6=>?_) (m:=fun h6=>?_))))
  ·exact absurd h6 (aa)
  refine wk_ (bn_ (qn_ (wr_ (e_ iad (k:=e_ mv (k:=on_ (?_)))))))
  refine ln_ (i+1) (k:=?_)
  try dsimp only
  all_goals trivial
 refine we_ (qe_ (le_ (bh_ (qn_ (ws_ (ws_ (wr_ (e_ asn (k:=on_ (qn_ (wb_ (dt (Nat) (fun y=> 1≤y) (fun y=> [(7, .int .i64 ((y:Nat):Int))]) [(2,_)] (fun y=> []) _ (fun y=> pos.length - y) (1) (h0:=?_) (k:=?_)))))))))))))
 ·try dsimp only
  exact Nat.le_refl _
 rintro j hj
 try dsimp only[Yd,Ye]at*
 refine ws_ (ws_ (wr_ (e_ mv (k:=e_ fla (k:=e_ ldv (k:=e_ lnn (k:=e_ ilt (k:=on_ (qn_ (wi_ (k:=fun h7=>?_) (m:=fun h7=>?_)))))))))))
 ·obtain⟨x,hx⟩:∃x,pos[j]? =some x:=⟨_,Yi (aa)⟩
  obtain⟨y,hy⟩:∃y,pos[j - 1]? =some y:=⟨_,Yi (aa)⟩
  have hxi:=ez hx
  have hyi:=ez hy
  have hge:=od hok hx
  rw[if_neg (aa),List.getD_eq_getElem?_getD,hy,Option.getD_some]at hge
  refine wk_ (qn_ (ws_ (wb_ (ws_ (?_)))))
  refine cX cI (as_ 0 (q:=fla) (k:=as_ 1 (q:=ldv) (k:=as_ 2 (q:=mv) (k:=as_ 3 (q:=ixa) (k:=as_ 4 (q:=lel) (k:=as_ 5 (q:=fla) (k:=as_ 6 (q:=ldv) (k:=as_ 7 (q:=mv) (k:=as_ 8 (q:=isb) (k:=as_ 9 (q:=ixa) (k:=as_ 10 (q:=lel) (k:=as_ 11 (q:=ile) (k:=az_ (k:=?_))))))))))))))
  refine qn_ (wi_ (k:=fun h8=>?_) (m:=fun h8=>?_))
  ·exact absurd h8 (aa)
  refine wk_ (bn_ (qn_ (wr_ (e_ mv (k:=e_ iad (k:=e_ asn (k:=on_ (?_))))))))
  refine ln_ (j+1) (k:=?_)
  try dsimp only
  omega
 refine we_ (qe_ (le_ (bh_ (qn_ (ws_ (wr_ (e_ asn (k:=on_ (qn_ (wt_ (rt_ Tryz.results202 (k:=?_))))))))))))
 exact⟨_,hsb,rfl,rfl⟩
theorem Ix {G:cK}{H:cG}{s:SV}{l:List (Nat×SV)}{ps:List Po}{nb:Nat} [hg:Glb G H] [hs:Sl H s ePo l] (hp:qz H l ps) (hok:fW nb ps) (hsm:e8 ps) (hn:ps.length≤16) (hnb:nb≤1000001):SC G Tryz.prog 203 [s.val, .int .i64 (((nb:Nat):Int) - 1)] H (fun v H'=> ∃s':SV,v=s'.val∧H'=Row s' eB (jN nb ps)::H):=by
 have hpl:=hp.1
 have hgl:(cV (gm nb ps)).length=l.length:=by rw[dO,fN,hpl]
 have hfl:(cV (hX ps)).length=l.length:=by rw[dO,hX,Yh,hpl]
 have hT:∀i,dg (ps.take i)≤1600000000:=fun i=> by
  have:=wa (wi hsm i)
  rw[Yg]at this;omega
 refine sWk Tryz.func203 Tryz.ntmps203 ?_
 refine go ?_
 refine c0_ rfl (fM) (k:=?_)
 rintro _ _ ⟨bw,rfl,rfl⟩
 refine e_ asn (k:=on_ (qn_ (w7 (SV×SV) (fun y=> True) (fun y=> [(6,y.1.val),(7,y.2.val)]) [6,7,15,16,17,18,19,20] (fun y=> [Row y.1 eI (List.replicate l.length (0:Int)),Row y.2 eI (List.replicate l.length (0:Int))]) (Wr bw []::H) ?_ ?_)))
 ·refine df cI (fun i=> [2,5].contains i) (fun k H=> (k=1→Sl H s ePo l)∧(k=4→Sl H s ePo l)) (af_ 0 (q:=cD fun H hH=>mv) (k:=?_))
  refine cE 1 rfl rfl (a8) rfl (cD fun H hH=>by have hN:=hH.1 rfl;exact lnn) (?_)
  refine af_ 3 (q:=cD fun H hH=>mv) (k:=?_)
  refine cE 4 rfl rfl (a8) rfl (cD fun H hH=>by have hN:=hH.2 rfl;exact lnn) (?_)
  refine HG 2 5 rfl rfl (a8) rfl rfl (fun k hk=> ⟨fun hi=> ab,fun hi=> ab⟩) (eX eI 0 rfl rfl _ _ rfl rfl rfl (aa) (aa) (aa)) (eX eI 0 rfl rfl _ _ rfl rfl rfl (aa) (aa) (aa)) ?_ ?_
  ·rintro _ _ ⟨s17,rfl,hs17n,hs17c,rfl⟩
   refine af_ 6 (q:=cD fun H hH=>asn) (k:=?_)
   refine cN 5 rfl (a8) rfl (fun k hk=> ⟨fun hi=> absurd hk (ad),fun hi=> ab⟩) (eX eI 0 rfl rfl _ _ rfl rfl rfl (aa) (aa) (aa)) ?_
   rintro _ _ ⟨s20,rfl,hs20n,hs20c,rfl⟩
   refine af_ 7 (q:=cD fun H hH=>asn) (k:=db (a8) (fun k hk=> ⟨fun hi=> absurd hk (ad),fun hi=> absurd hk (ad)⟩) (jnE ((s17,s20)) (q:=?_)))
   trivial
  rintro _ _ ⟨s20,rfl,hs20n,hs20c,rfl⟩
  refine cN 2 rfl (a8) rfl (fun k hk=> ⟨fun hi=> ab,fun hi=> absurd hk (ad)⟩) (eX eI 0 rfl rfl _ _ rfl rfl rfl (aa) (aa) (aa)) ?_
  rintro _ _ ⟨s17,rfl,hs17n,hs17c,rfl⟩
  refine af_ 6 (q:=cD fun H hH=>asn) (k:=af_ 7 (q:=cD fun H hH=>asn) (k:=db (a8) (fun k hk=> ⟨fun hi=> absurd hk (ad),fun hi=> absurd hk (ad)⟩) (jnE ((s17,s20)) (q:=?_))))
  trivial
 rintro⟨s17,s20⟩ -
 try dsimp only[Yd,Ye]at*
 refine ws_ (ws_ (wr_ (?_)))
 rw[show Row s17 eI (List.replicate l.length (0:Int))=Row s17 eI (eA (cV (gm nb ps)) 0 0)from by rw[kd,hgl],show Row s20 eI (List.replicate l.length (0:Int))=Row s20 eI (eA (cV (hX ps)) 0 0)from by rw[kd,hfl]]
 refine gk (k:=dt (Nat) (fun y=> y≤l.length) (fun y=> [(1, .int .i64 (((dS nb (ps.take y):Nat):Int) - 1)),(23, .int .i64 ((y:Nat):Int))]) [(0,_),(5,_),(6,_),(7,_),(21,_),(22,_)] (fun y=> [Row s17 eI (eA (cV (gm nb ps)) 0 y),Row s20 eI (eA (cV (hX ps)) 0 y)]) _ (fun y=> l.length - y) (0) (h0:=?_) (k:=?_))
 ·try dsimp only
  exact Yl _
 rintro i hi
 try dsimp only[Yd,Ye]at*
 refine gk (k:=wi_ (k:=fun h1=>?_) (m:=fun h1=>?_))
 ·obtain⟨sp,pos,hli,hpi,hsl⟩:=hp.get (i:=i) (aa)
  generalize (ps.getD i (0, [])).1=d at hli hpi
  have hge:=(ij hok hpi).1
  have hne:=(ij hok hpi).2.1
  have hpos:0<pos.length:=List.length_pos_iff.2 hne
  have hsmi:=hsm.2 _ (Yj hpi)
  simp only at hge hsmi hne
  have hposl:=dO pos
  have hg1:(cV (gm nb ps))[i]? =some ((d - dS nb (ps.take i):Nat):Int):=ez (qV hpi)
  have hf1:(cV (hX ps))[i]? =some ((pos.length - 1:Nat):Int):=ez (by rw[hX,Xd,hpi];all_goals rfl)
  have hl1:=ik (z:=(0:Int)) (full:=cV (gm nb ps)) (i:=i) (aa)
  have hl2:=ik (z:=(0:Int)) (full:=cV (hX ps)) (i:=i) (aa)
  refine gk (k:=alc (k:=fun b9=>?_))
  refine e_ asn (k:=sto (k:=on_ (qn_ (ws_ (wr_ (e_ mv (k:=e_ mv (k:=e_ fla (k:=e_ ldv (k:=e_ mv (k:=e_ isb (k:=?_))))))))))))
  refine e_ (evq isb (congrArg (Value.int .i64) (show _=((d - dS nb (ps.take i):Nat):Int)from aa))) (k:=?_)
  refine go ?_
  refine s_ (dH (i:=i) rfl rfl rfl (aa)) (k:=?_)
  rintro _ _ ⟨rfl,rfl⟩
  refine on_ (qn_ (ws_ (wr_ (e_ fla (k:=e_ ldv (k:=e_ asn (k:=on_ (qn_ (wr_ (e_ mv (k:=e_ mv (k:=e_ fla (k:=e_ ldv (k:=?_))))))))))))))
  refine e_ lnn (k:=?_)
  refine e_ (evq isb (congrArg (Value.int .i64) (show _=((pos.length - 1:Nat):Int)from aa))) (k:=?_)
  refine go ?_
  refine s_ (dH (i:=i) rfl rfl rfl (aa)) (k:=?_)
  rintro _ _ ⟨rfl,rfl⟩
  refine on_ (bn_ (qn_ (wr_ (?_))))
  rw[lW hg1,lW hf1]
  have hlast:dS nb (ps.take (i+1))=d+1:=pd hpi
  have hda:((d:Nat):Int)=((dS nb (ps.take (i+1)):Nat):Int) - 1:=by rw[hlast];omega
  rw[hda]
  refine go ?_
  refine ln_ (i+1) (k:=?_)
  try dsimp only
  omega
 obtain rfl:i=l.length:=aa
 rw[show eA (cV (gm nb ps)) 0 l.length=cV (gm nb ps)from by rw[←hgl,kE],show eA (cV (hX ps)) 0 l.length=cV (hX ps)from by rw[←hfl,kE]]
 refine go ?_
 refine d2_ rfl (wc (an) (bZ) (fun x hx=> aU) (fun _=> bZ)) (k:=go ?_)
 refine d2_ rfl (wc (by have:=iR (ns:=gm nb ps) (fun x hx=> aU) (bZ);rw[fN]at this;simp only[Ya,Yc];omega) (bE) (fun x hx=> bK) (fun _=> bE)) (k:=on_ (qn_ (ws_ (ws_ (wr_ (?_))))))
 obtain⟨pre,hpre⟩:∃pre,pre= []++dJ (gm nb ps)++dJ (hX ps):=⟨_,rfl⟩
 have hprl:pre.length≤1000:=by
  have h1:=iR (ns:=gm nb ps) (fun x hx=> aU) (bZ)
  have h2:=iR (ns:=hX ps) (fun x hx=> bK) (bE)
  rw[fN]at h1
  rw[show(hX ps).length=ps.length from by rw[hX,Yh]]at h2
  rw[hpre];simp only[Ya,Yc];omega
 rw[←hpre,show Wr bw pre=Wr bw (pre++dY (ps.take 0))from by simp[dY]]
 refine gk (k:=dt (Nat) (fun y=> y≤l.length) (fun y=> [(54, .int .i64 ((y:Nat):Int))]) [(5,_),(52,_),(53,_)] (fun y=> [Wr bw (pre++dY (ps.take y))]) _ (fun y=> l.length - y) (0) (h0:=?_) (k:=?_))
 ·try dsimp only
  exact Yl _
 rintro i hi
 try dsimp only[Yd,Ye]at*
 refine gk (k:=wi_ (k:=fun h2=>?_) (m:=fun h2=>?_))
 ·obtain⟨sp,pos,hli,hpi,hsl⟩:=hp.get (i:=i) (aa)
  generalize (ps.getD i (0, [])).1=d at hli hpi
  have hokp:=(ij hok hpi).2.2
  have hsmi:=hsm.2 _ (Yj hpi)
  simp only at hsmi hokp
  have hposl:=dO pos
  have hTi:=hT i
  have htl:=oW (l:=ps.take i) (fun p hp=> (hsm.2 p (Yq hp)).2.2)
  refine gk (k:=alc (k:=fun b11=>?_))
  refine sto (k:=on_ (qn_ (ws_ (wr_ (e_ fla (k:=e_ ldv (k:=e_ lnn (k:=?_))))))))
  rw[show Wr bw (pre++dY (ps.take i))=Wr bw (pre++dY (ps.take i)++ff 0 (pos.take 0))from by simp[ff]]
  refine gk (k:=dt (Nat) (fun y=> y≤pos.length) (fun y=> [(61, .int .i64 ((y:Nat):Int))]) [(5,_),(11,_),(52,_),(53,_),(54,_),(59,_),(60,_)] (fun y=> [Wr bw (pre++dY (ps.take i)++ff 0 (pos.take y))]) _ (fun y=> pos.length - y) (0) (h0:=?_) (k:=?_))
  ·try dsimp only
   exact Yl _
  rintro j hj
  try dsimp only[Yd,Ye]at*
  refine gk (k:=wi_ (k:=fun h3=>?_) (m:=fun h3=>?_))
  ·obtain⟨x,hx⟩:∃x,pos[j]? =some x:=⟨_,Yi (aa)⟩
   have hxi:=ez hx
   have hxl:=hsmi.2.2 x (Yj hx)
   have hge:=od hokp hx
   have hstp:=mh (nb:=0) hx
   have htl2:=qF (l:=pos.take j) (nb:=0) (fun y hy=> hsmi.2.2 y (Yq hy))
   rw[Yg]at htl2
   refine go ?_
   refine gk (k:=wi_ (k:=fun h4=>?_) (m:=fun h4=>?_))
   ·obtain⟨y,hy⟩:∃y,pos[j - 1]? =some y:=⟨_,Yi (aa)⟩
    have hyi:=ez hy
    rw[if_neg (aa),List.getD_eq_getElem?_getD,hy,Option.getD_some]at hge hstp
    refine wr_ (e_ mv (k:=e_ fla (k:=e_ ldv (k:=e_ mv (k:=e_ isb (k:=e_ ixa (k:=e_ lel (k:=e_ iad (k:=?_)))))))))
    refine e_ (evq isb (congrArg (Value.int .i64) (show _=((x - (y+1):Nat):Int)from aa))) (k:=?_)
    refine e_ asn (k:=on_ (qn_ (wr_ (e_ mv (k:=e_ mv (k:=?_))))))
    refine e_ ((ae)) (k:=?_)
    refine d2_ rfl (ek _ (aa) (ai)) (k:=?_)
    rw[Yf (pre++dY (ps.take i)),←hstp]
    refine go ?_
    refine ln_ (j+1) (k:=?_)
    try dsimp only
    omega
   rw[if_pos (aa),Nat.sub_zero]at hstp
   refine wk_ (qn_ (wr_ (e_ mv (k:=e_ mv (k:=?_)))))
   refine e_ ((ae)) (k:=?_)
   refine d2_ rfl (ek _ (aa) (ai)) (k:=?_)
   rw[Yf (pre++dY (ps.take i)),←hstp]
   refine go ?_
   refine ln_ (j+1) (k:=?_)
   try dsimp only
   omega
  obtain rfl:j=pos.length:=aa
  rw[List.take_length,Yf,show dY (ps.take i)++ff 0 pos=dY (ps.take (i+1))from(rq hpi).symm]
  refine go ?_
  refine ln_ (i+1) (k:=?_)
  try dsimp only
  omega
 obtain rfl:i=l.length:=aa
 rw[show ps.take l.length=ps from by rw[hpl,List.take_length],show pre++dY ps=jN nb ps from by rw[hpre];all_goals rfl]
 have hbl:=qt (nb:=nb) hsm
 have hT0:=hT 16
 rw[List.take_of_length_le (aa)]at hT0
 refine go ?_
 refine c1_ rfl (iv (aa)) (k:=?_)
 rintro _ _ ⟨s84,rfl,rfl⟩
 refine gk (k:=rt_ Tryz.results203 (k:=?_))
 exact⟨_,hsb,s84,rfl,rfl⟩
structure PG where
 d:Nat
 s:SV
 pos:List Nat
structure EG where
 key:ByteArray
 s:SV
 l:List PG
def pgV (p:PG):Nat×SV:=(p.d,p.s)
def pgP (p:PG):Po:=(p.d,p.pos)
def pgH (p:PG):cG:= [Row p.s eI (cV p.pos)]
def egH (e:EG):cG:= [Row e.s ePo (e.l.map pgV),Cl pgH e.l]
def kvs (es:List EG):List (ByteArray×Value):=es.map fun e=> (e.key,e.s.val)
def ma (es:List EG):List (List Nat×List Po):=es.map fun e=> (cF e.key,e.l.map pgP)
def gY (r:Nat) (ts:List Tri):Hp:=fun L=> ∃es,fD (ma es) ts∧Sep [Cl egH es,Mv r (kvs es)] L
theorem pG {r:Nat}{ts:List Tri}{es:List EG}{R:cG}(h:fD (ma es) ts):cJ (Cl egH es::Mv r (kvs es)::R) (gY r ts::R):=fun L hL=> by
 obtain⟨L1,L2,rfl,h1,L3,L4,rfl,h2,h3⟩:=hL
 exact⟨(L1++L3)++L4, [],⟨L1++L3,L4,rfl,⟨es,h,L1,L3,rfl,h1,L3, [],an,h2,rfl⟩,h3⟩,an⟩
theorem D3 {G:cK}{H R:cG}{r:Nat}{ts:List Tri}(hr:Rem H gY r ts R) {w:World}(hw:Sat G w H):∃es,fD (ma es) ts∧Sat G w (Cl egH es::Mv r (kvs es)::R):=by
 obtain⟨hS,L,⟨L1,L2,rfl,⟨es,h,L3,L4,rfl,h1,L5,L6,rfl,h2,h3⟩,h4⟩,hl⟩:=hr.sat hw
 obtain rfl:L6= []:=h3
 exact⟨es,h,hS,_,⟨L3,L5++L2,an,h1,L5,L2,rfl,h2,h4⟩,hl⟩
theorem BU {G:cK}{P:Program}{N:Nat}{Q:Post}{t:Tm}{ops:Array Oper}{l:List Oper}{H R:cG}{r:Nat}{ts:List Tri}(hr:Rem H gY r ts R) (h:∀es,fD (ma es) ts→O G P N ops l Q t (Cl egH es::Mv r (kvs es)::R)):O G P N ops l Q t H:=
 ⟨fun a w ha hw=> by
   obtain⟨es,hk,hw2⟩:=D3 hr hw
   exact(h es hk).go a w ha hw2⟩
theorem wG {es:List EG}{i:Nat}{e:EG}(h:es[i]? =some e):(kvs es)[i]? =some (e.key,e.s.val):=by rw[kvs,Xd,h];all_goals rfl
theorem C5 (es:List EG) (i:Nat) (e:EG):kvs (es.set i e)=(kvs es).set i (e.key,e.s.val):=by rw[kvs,kvs,List.map_set]
theorem Fm {α:Type}{l:List α}{i:Nat}{a:α}(h:l[i]? =some a):l.set i a=l:=by
 apply List.ext_getElem?
 intro j
 rw[List.getElem?_set]
 split
 ·rename_i hj;subst hj;rw[h];simp[(Yk.1 h).1]
 ·rfl
theorem Gm {es:List EG}{i:Nat}{e e':EG}(h:es[i]? =some e) (hk:e'.key=e.key) (hs:e'.s=e.s):kvs (es.set i e')=kvs es:=by
 rw[C5,hk,hs]
 exact Fm (wG h)
theorem qw {es:List EG}{i:Nat}{e:EG}(h:es[i]? =some e):(ma es)[i]? =some (cF e.key,e.l.map pgP):=by rw[ma,Xd,h];all_goals rfl
theorem zE (es:List EG) (i:Nat) (e:EG):ma (es.set i e)=(ma es).set i (cF e.key,e.l.map pgP):=by rw[ma,ma,List.map_set]
theorem oB (es:List EG):(ma es).map (·.1)=(kvs es).map fun p=> cF p.1:=by simp[ma,kvs]
theorem qR {es:List EG}{ts:List Tri}(h:fD (ma es) ts):((kvs es).map (·.1)).Nodup:=by
 have h1:=h.nodup
 rw[oB,show(fun p:ByteArray×Value=> cF p.1)=cF∘(·.1)from rfl,←List.map_map]at h1
 exact yq h1
theorem JH {es:List EG}{q:ByteArray}:q∈(kvs es).map (·.1)↔cF q∈(ma es).map (·.1):=by
 rw[oB,List.mem_map,List.mem_map]
 constructor
 ·rintro⟨p,hp,rfl⟩;exact⟨p,hp,rfl⟩
 ·rintro⟨p,hp,he⟩;exact⟨p,hp,kM.1 he⟩
theorem xT {G:cK}{P:Program}{t:Tm}{H:cG}{dst:Option Tmp}{ty:TypeId}{pos:String}{after:Array Edge}{g:Option (Nat×Bool)}{T K E:TypeId}{x y:Operand}{r sz bb:Nat}{es:List EG}{s:ByteArray}{C:Hp→cG}(hx:evo t x=some (.map (some r))) (hy:evo t y=some (.string s)) [hT:Und P T (.map K E)] [hK:Und P K .string] [hE:Inf P E sz bb (.slice none 0 0)] [hf:Foc H Mv r (kvs es) C]:
 St G P ⟨dst, .lookup T x y false,ty,pos,after,g⟩ t H (fun u H'=> H'=H∧((∃(i:Nat) (e:EG),es[i]? =some e∧e.key=s∧u=e.s.val)∨(s ∉(kvs es).map (·.1)∧u=SV.nil.val))):=
 BJ (BK (ok:=false) hx hy) fun v H' ⟨h1,h2⟩=> ⟨h1,by
  rcases h2 with⟨i,u,hi,hu⟩|⟨hno,hu⟩
  ·obtain rfl:v=u:=hu
   obtain⟨e,he,heq⟩:∃e,es[i]? =some e∧(e.key,e.s.val)=(s,v):=by
    rw[kvs,Xd]at hi
    cases he:es[i]? with
    |none=> rw[he]at hi;cases hi
    |some e=> rw[he]at hi;exact⟨e,rfl,Option.some.inj hi⟩
   cases heq
   exact .inl ⟨i,e,he,rfl,rfl⟩
  ·exact .inr ⟨hno,hu⟩⟩
theorem Bg {l:List PG}{n:Nat}{p:PG}{x:Nat}(s:SV) (h:l[n]? =some p) (hn:n+1=l.length):iU (l.map pgP) p.d x=(l.set n ⟨p.d,s,p.pos++ [x]⟩).map pgP:=by
 obtain⟨a,rfl⟩:∃a,l=a++ [p]:=by
  rcases List.eq_nil_or_concat l with rfl|⟨a,q,hq⟩
  ·cases h
  ·obtain rfl:l=a++ [q]:=by simpa using hq
   have:n=a.length:=by simp at hn;omega
   subst this
   simp at h;subst h;exact⟨a,rfl⟩
 have:n=a.length:=by simp at hn;omega
 subst this
 simp[iU,pgP]
theorem E5 {l:List Po}{d x:Nat}(h:∀q,l.getLast? =some q→q.1≠d):iU l d x=l++ [(d, [x])]:=by
 unfold iU
 split
 ·rename_i q hq;rw[if_neg (h q hq)]
 ·rename_i hn
  rw[List.getLast?_eq_none_iff]at hn;subst hn;rfl
theorem oo (ts:List (Nat×Nat)):dg (iD ts)=ts.length∧(iD ts).length≤ts.length:=by
 have key:∀(r:List (Nat×Nat)),dg (iD r.reverse)=r.length∧(iD r.reverse).length≤r.length:=by
  intro r
  induction r with
  |nil=> simp[iD,dg]
  |cons t r ih=>
   obtain⟨h1,h2⟩:=ih
   rw[List.reverse_cons,show [t]= [(t.1,t.2)]from rfl,om]
   generalize iD r.reverse=l at*
   rcases List.eq_nil_or_concat l with rfl|⟨a,q,hq⟩
   ·have h3:r.length=0:=by simpa [dg] using h1.symm
    simp[iU,dg,h3]
   ·obtain rfl:l=a++ [q]:=by simpa using hq
    by_cases he:q.1=t.1
    ·rw[show iU (a++ [q]) t.1 t.2=a++ [(t.1,q.2++ [t.2])]from by simp[iU,he]]
     simp[dg]at*;omega
    ·rw[show iU (a++ [q]) t.1 t.2=a++ [q]++ [(t.1, [t.2])]from by simp[iU,he]]
     simp[dg]at*;omega
 have:=key ts.reverse
 rw[List.reverse_reverse,List.length_reverse]at this
 exact this
theorem wA (ts:List Tri) (k:List Nat):(ofK ts k).length≤ts.length:=by rw[ofK,Yh];exact List.length_filter_le _ _
theorem CQ {es:List EG}{ts:List Tri}(h:fD (ma es) ts) {i:Nat}{e:EG}(he:es[i]? =some e):e.l.length≤ts.length∧∀p∈e.l,p.pos.length≤ts.length:=by
 have h1:=h.vals _ (Yj (qw he))
 simp only at h1
 obtain⟨h2,h3⟩:=oo (ofK ts (cF e.key))
 have h4:=wA ts (cF e.key)
 rw[←h1]at h2 h3
 rw[Yh]at h3
 refine⟨aa,fun p hp=> ?_⟩
 have:p.pos.length≤dg (e.l.map pgP):=by
  generalize e.l=l at hp
  induction l with
  |nil=> simp at hp
  |cons q l ih=>
   simp only[dg,List.map_cons,List.sum_cons]at ih⊢
   rcases List.mem_cons.1 hp with rfl|hp
   ·show p.pos.length≤p.pos.length+_;omega
   ·have:=ih hp;omega
 omega
def qb (f:Nat) (s:ByteArray):ByteArray:=dL [f % 256]++s
theorem vY (f:Nat) (s:ByteArray):cF (qb f s)=f % 256::cF s:=by
 rw[qb,fQ,fa (aM)];all_goals rfl
theorem NZ {G:cK}{H:cG}{f:Nat}{s:ByteArray}(hs:s.size≤1000000000):SC G Tryz.prog 33 [.int .i64 ((f:Nat):Int), .string s] H (fun v H'=> v= .string (qb f s)∧H'=H):=by
 refine sWk Tryz.func33 Tryz.ntmps33 ?_
 refine ws_ (wr_ (e_ asn (k:=on_ (qn_ (ws_ (wr_ (e_ mv (k:=?_))))))))
 refine e_ (dj 256 rfl rfl rfl f rfl) (k:=?_)
 refine gz eB (k:=fun s7=>?_)
 refine e_ (eN rfl) (k:=?_)
 refine e_ mv (k:=?_)
 refine e_ (js rfl rfl (by rw[jg];simp;omega)) (k:=?_)
 refine gk (k:=rt_ Tryz.results33 (k:=?_))
 exact⟨_,hsb,rfl,rfl⟩
theorem wY {es:List EG}{i:Nat}{e:EG}{H:cG}(h:es[i]? =some e):cJ (Cl egH es::H) (Row e.s ePo (e.l.map pgV)::Cl pgH e.l::Cl egH (es.take i)::Cl egH (es.drop (i+1))::H):=mY (f:=egH) h
theorem pX {l:List PG}{i:Nat}{p:PG}{H:cG}(h:l[i]? =some p):cJ (Cl pgH l::H) (Row p.s eI (cV p.pos)::Cl pgH (l.take i)::Cl pgH (l.drop (i+1))::H):=mY (f:=pgH) h
theorem zb {es:List EG}{i:Nat}(e:EG) {H:cG}(hi:i<es.length):cJ (Row e.s ePo (e.l.map pgV)::Cl pgH e.l::Cl egH (es.take i)::Cl egH (es.drop (i+1))::H) (Cl egH (es.set i e)::H):=qo (f:=egH) e hi
theorem FJ {l:List PG}{i:Nat}(p:PG) {H:cG}(hi:i<l.length):cJ (Row p.s eI (cV p.pos)::Cl pgH (l.take i)::Cl pgH (l.drop (i+1))::H) (Cl pgH (l.set i p)::H):=qo (f:=pgH) p hi
theorem wy {l:List PG}(p:PG) {H:cG}:cJ (Row p.s eI (cV p.pos)::Cl pgH l::H) (Cl pgH (l++ [p])::H):=mX (f:=pgH) p
theorem Ki {l:List EG}(e:EG) {H:cG}:cJ (Row e.s ePo (e.l.map pgV)::Cl pgH e.l::Cl egH l::H) (Cl egH (l++ [e])::H):=mX (f:=egH) e
theorem FC {r i n d p:Nat}{es:List EG}{e:EG}{lp:PG}{s':SV}{ts:List Tri}{R:cG}(hok:fD (ma es) ts) (he:es[i]? =some e) (hp:e.l[n]? =some lp) (hn:n+1=e.l.length) (hd:lp.d=d):
 cJ (Row e.s ePo ((e.l.map pgV).set n (lp.d,s'))::Row s' eI (cV (lp.pos++ [p]))::Cl pgH (e.l.take n)::Cl pgH (e.l.drop (n+1))::Cl egH (es.take i)::Cl egH (es.drop (i+1))::Mv r (kvs es)::R) (gY r (ts++ [(cF e.key,d,p)])::R):=by
 subst hd
 have h1:(e.l.map pgV).set n (lp.d,s')=(e.l.set n ⟨lp.d,s',lp.pos++ [p]⟩).map pgV:=by rw[List.map_set];all_goals rfl
 have h2:kvs (es.set i ⟨e.key,e.s,e.l.set n ⟨lp.d,s',lp.pos++ [p]⟩⟩)=kvs es:=Gm he rfl rfl
 rw[h1,←h2]
 refine(cJ.keep (FJ ⟨lp.d,s',lp.pos++ [p]⟩ (Yk.1 hp).1)).trans ((zb ⟨e.key,e.s,e.l.set n ⟨lp.d,s',lp.pos++ [p]⟩⟩ (Yk.1 he).1).trans (pG ?_))
 rw[zE]
 have:=hok.old (d:=lp.d) (p:=p) (qw he)
 rwa [Bg s' hp hn]at this
theorem yf {r i d p:Nat}{es:List EG}{e:EG}{s' u:SV}{ts:List Tri}{R:cG}(hok:fD (ma es) ts) (he:es[i]? =some e) (hd:∀q,e.l.getLast? =some q→q.d≠d):
 cJ (Row s' ePo (e.l.map pgV++ [(d,u)])::Row u eI (cV [p])::Cl pgH e.l::Cl egH (es.take i)::Cl egH (es.drop (i+1))::Mv r ((kvs es).set i (e.key,s'.val))::R) (gY r (ts++ [(cF e.key,d,p)])::R):=by
 have h1:e.l.map pgV++ [(d,u)]=(e.l++ [(⟨d,u, [p]⟩:PG)]).map pgV:=by simp[pgV]
 have h2:kvs (es.set i ⟨e.key,s',e.l++ [⟨d,u, [p]⟩]⟩)=(kvs es).set i (e.key,s'.val):=C5 _ _ _
 rw[h1,←h2]
 refine(cJ.keep (wy ⟨d,u, [p]⟩)).trans ((zb ⟨e.key,s',e.l++ [⟨d,u, [p]⟩]⟩ (Yk.1 he).1).trans (pG ?_))
 rw[zE]
 have:=hok.old (d:=d) (p:=p) (qw he)
 rw[E5 (fun q hq=> by
  rw[List.getLast?_map]at hq
  cases hl:e.l.getLast? with
  |none=> rw[hl]at hq;cases hq
  |some x=> rw[hl]at hq;obtain rfl:=Option.some.inj hq;exact hd x hl)]at this
 simpa [pgP] using this
theorem D8 {r d p:Nat}{es:List EG}{q:ByteArray}{s' u:SV}{ts:List Tri}{R:cG}(hok:fD (ma es) ts) (hno:q ∉(kvs es).map (·.1)):
 cJ (Row s' ePo [(d,u)]::Row u eI (cV [p])::Cl egH es::Mv r (kvs es++ [(q,s'.val)])::R) (gY r (ts++ [(cF q,d,p)])::R):=by
 have h2:kvs (es++ [⟨q,s', [⟨d,u, [p]⟩]⟩])=kvs es++ [(q,s'.val)]:=by simp[kvs]
 rw[←h2]
 refine(cJ.keep ((fe cJ.refl).trans (cJ.trans (H':=Row u eI (cV [p])::Cl pgH []::Cl egH es::Mv r (kvs (es++ [⟨q,s', [⟨d,u, [p]⟩]⟩]))::R) hsb (wy ⟨d,u, [p]⟩)))).trans ((Ki ⟨q,s', [⟨d,u, [p]⟩]⟩).trans (pG ?_))
 have:=hok.new (d:=d) (p:=p) (fun h=> hno (JH.2 h))
 simpa [ma,pgP] using this
theorem PQ {G:cK}{H R:cG}{g r d p:Nat}{q:ByteArray}{v1 v2 v3:Value}{ts:List Tri} [hv:cQ R g [v1,v2,v3, .map (some r)]] [hr:Rem H gY r ts R] (hn:ts.length≤1000000000):SC G Tryz.prog 141 [.pointer (some ⟨g,0,none⟩), .string q, .int .i64 ((d:Nat):Int), .int .i64 ((p:Nat):Int)] H (fun v H'=> v= .tuple #[]∧H'=gY r (ts++ [(cF q,d,p)])::R):=by
 refine sWk Tryz.func141 Tryz.ntmps141 ?_
 refine go ?_
 refine BU hr fun es hok=> ?_
 refine go ?_
 refine s_ (xT rfl rfl) (k:=?_)
 rintro _ _ ⟨rfl,(⟨i,e,he,rfl,rfl⟩|⟨hno,rfl⟩)⟩
 ·obtain⟨hel,hpl⟩:=CQ hok he
  have hmap:(e.l.map pgV).length=e.l.length:=Yh ..
  refine du (wY he) ?_
  refine e_ asn (k:=on_ (qn_ (ws_ (ws_ (wr_ (e_ mv (k:=e_ lnn (k:=e_ asn (k:=on_ (qn_ (ws_ (wr_ (e_ mv (k:=?_))))))))))))))
  refine e_ igt (k:=sp_ (mv) (k:=fun h1=>?_) (m:=fun h1=>?_))
  ·obtain⟨lp,hlp⟩:∃lp,e.l[e.l.length - 1]? =some lp:=⟨_,Yi (aa)⟩
   have hlv:(e.l.map pgV)[(e.l.map pgV).length - 1]? =some (lp.d,lp.s):=by rw[Xd,hmap,hlp];all_goals rfl
   have hlpl:=hpl lp (Yj hlp)
   have hlast:∀q,e.l.getLast? =some q→q=lp:=fun q hq=> by rw[List.getLast?_eq_getElem?,hlp]at hq;exact(Option.some.inj hq).symm
   have hil:=dO lp.pos
   refine gk (k:=wi_ (k:=fun h2=>?_) (m:=fun h2=>?_))
   ·refine go ?_
    refine du (cJ.keep (pX hlp)) ?_
    refine gk (k:=gz eI (k:=fun s40=>?_))
    refine app (k:=fun s41=>?_)
    rw[show cV lp.pos++ [((p:Nat):Int)]=cV (lp.pos++ [p])from by simp[cV]]
    refine go ?_
    rw[hmap]
    refine s_ (rz (i:=e.l.length - 1) (o:=1) rfl rfl rfl (lp.d,lp.s) (hmap ▸ hlv) (ag) (a:=(lp.d,s41)) rfl) (k:=?_)
    rintro _ _ ⟨rfl,rfl⟩
    refine gk (k:=rt_ Tryz.results141 (k:=?_))
    exact⟨_,cJ.trans (hsb) (FC (d:=d) hok he hlp (aa) (aa)),rfl,rfl⟩
   have hlast2:∀q,e.l.getLast? =some q→q.d≠d:=fun q hq=> by rw[hlast q hq];omega
   refine go ?_
   refine df cI (fun i=> [8,10,11,12].contains i) (fun k H=> (k=2→cQ H g [v1,v2,v3, .map (some r)])∧(k=3→cQ H g [v1,v2,v3, .map (some r)])) (af_ 0 (q:=cD fun H hH=>mv) (k:=af_ 1 (q:=cD fun H hH=>nck) (k:=?_)))
   refine cE 2 rfl rfl (a8) rfl (cD fun H hH=>bn) (?_)
   refine cE 3 rfl rfl (a8) rfl (cD fun H hH=>aE) (?_)
   refine af_ 4 (q:=cD fun H hH=>mv) (k:=af_ 5 (q:=cD fun H hH=>mv) (k:=af_ 6 (q:=cD fun H hH=>mv) (k:=af_ 7 (q:=cD fun H hH=>mv) (k:=?_))))
   refine cN 8 rfl (a8) rfl (fun k hk=> ⟨fun hi=> ab,fun hi=> ab⟩) (ew eI rfl rfl) ?_
   rintro _ _ ⟨s52,rfl,rfl⟩
   rw[show Row s52 eI [((p:Nat):Int)]=Row s52 eI (cV [p])from rfl]
   refine af_ 9 (q:=cD fun H hH=>bld [(0,_),(1,_)]) (k:=?_)
   refine cN 10 rfl (a8) rfl (fun k hk=> ⟨fun hi=> ab,fun hi=> ab⟩) (ew ePo rfl rfl) ?_
   rintro _ _ ⟨s54,rfl,rfl⟩
   refine cN 11 rfl (a8) rfl (fun k hk=> ⟨fun hi=> ab,fun hi=> ab⟩) (eY rfl rfl rfl rfl (af) (af)) ?_
   rintro _ _ ⟨s55,rfl,rfl⟩
   refine cN 12 rfl (a8) rfl (fun k hk=> ⟨fun hi=> ab,fun hi=> ab⟩) (xR rfl rfl rfl (wG he) (qR hok)) ?_
   rintro _ _ ⟨rfl,rfl⟩
   refine db (a8) (fun k hk=> ⟨fun hi=> absurd hk (ad),fun hi=> absurd hk (ad)⟩) (rt_ Tryz.results141 (k:=?_))
   exact⟨_,cJ.trans (hsb) (yf (s':=s55) (u:=s52) hok he hlast2),rfl,rfl⟩
  have hlast:∀q,e.l.getLast? =some q→q.d≠d:=fun q hq=> by
   have:=List.mem_of_getLast? hq
   have:=List.length_pos_of_mem this
   omega
  refine gk (k:=eg (k:=go ?_))
  refine df cI (fun i=> [8,10,11,12].contains i) (fun k H=> (k=2→cQ H g [v1,v2,v3, .map (some r)])∧(k=3→cQ H g [v1,v2,v3, .map (some r)])) (af_ 0 (q:=cD fun H hH=>mv) (k:=af_ 1 (q:=cD fun H hH=>nck) (k:=?_)))
  refine cE 2 rfl rfl (a8) rfl (cD fun H hH=>bn) (?_)
  refine cE 3 rfl rfl (a8) rfl (cD fun H hH=>aE) (?_)
  refine af_ 4 (q:=cD fun H hH=>mv) (k:=af_ 5 (q:=cD fun H hH=>mv) (k:=af_ 6 (q:=cD fun H hH=>mv) (k:=af_ 7 (q:=cD fun H hH=>mv) (k:=?_))))
  refine cN 8 rfl (a8) rfl (fun k hk=> ⟨fun hi=> ab,fun hi=> ab⟩) (ew eI rfl rfl) ?_
  rintro _ _ ⟨s52,rfl,rfl⟩
  rw[show Row s52 eI [((p:Nat):Int)]=Row s52 eI (cV [p])from rfl]
  refine af_ 9 (q:=cD fun H hH=>bld [(0,_),(1,_)]) (k:=?_)
  refine cN 10 rfl (a8) rfl (fun k hk=> ⟨fun hi=> ab,fun hi=> ab⟩) (ew ePo rfl rfl) ?_
  rintro _ _ ⟨s54,rfl,rfl⟩
  refine cN 11 rfl (a8) rfl (fun k hk=> ⟨fun hi=> ab,fun hi=> ab⟩) (eY rfl rfl rfl rfl (af) (af)) ?_
  rintro _ _ ⟨s55,rfl,rfl⟩
  refine cN 12 rfl (a8) rfl (fun k hk=> ⟨fun hi=> ab,fun hi=> ab⟩) (xR rfl rfl rfl (wG he) (qR hok)) ?_
  rintro _ _ ⟨rfl,rfl⟩
  refine db (a8) (fun k hk=> ⟨fun hi=> absurd hk (ad),fun hi=> absurd hk (ad)⟩) (rt_ Tryz.results141 (k:=?_))
  exact⟨_,cJ.trans (hsb) (yf (s':=s55) (u:=s52) hok he hlast),rfl,rfl⟩
 refine du (cJ.nilRow (e:=ePo) cJ.refl) ?_
 have hmap:([]:List (Nat×SV)).length=0:=rfl
 refine e_ asn (k:=on_ (qn_ (ws_ (ws_ (wr_ (e_ mv (k:=e_ lnn (k:=e_ asn (k:=on_ (qn_ (ws_ (wr_ (e_ mv (k:=?_))))))))))))))
 refine e_ igt (k:=sp_ (mv) (k:=fun h3=>?_) (m:=fun h3=>?_))
 ·exact absurd h3 (aa)
 refine gk (k:=eg (k:=go ?_))
 refine df cI (fun i=> [8,10,11,12].contains i) (fun k H=> (k=2→cQ H g [v1,v2,v3, .map (some r)])∧(k=3→cQ H g [v1,v2,v3, .map (some r)])) (af_ 0 (q:=cD fun H hH=>mv) (k:=af_ 1 (q:=cD fun H hH=>nck) (k:=?_)))
 refine cE 2 rfl rfl (a8) rfl (cD fun H hH=>bn) (?_)
 refine cE 3 rfl rfl (a8) rfl (cD fun H hH=>aE) (?_)
 refine af_ 4 (q:=cD fun H hH=>mv) (k:=af_ 5 (q:=cD fun H hH=>mv) (k:=af_ 6 (q:=cD fun H hH=>mv) (k:=af_ 7 (q:=cD fun H hH=>mv) (k:=?_))))
 refine cN 8 rfl (a8) rfl (fun k hk=> ⟨fun hi=> ab,fun hi=> ab⟩) (ew eI rfl rfl) ?_
 rintro _ _ ⟨s52,rfl,rfl⟩
 rw[show Row s52 eI [((p:Nat):Int)]=Row s52 eI (cV [p])from rfl]
 refine af_ 9 (q:=cD fun H hH=>bld [(0,_),(1,_)]) (k:=?_)
 refine cN 10 rfl (a8) rfl (fun k hk=> ⟨fun hi=> ab,fun hi=> ab⟩) (ew ePo rfl rfl) ?_
 rintro _ _ ⟨s54,rfl,rfl⟩
 refine cN 11 rfl (a8) rfl (fun k hk=> ⟨fun hi=> ab,fun hi=> ab⟩) (eY rfl rfl rfl rfl (af) (af)) ?_
 rintro _ _ ⟨s55,rfl,rfl⟩
 refine cN 12 rfl (a8) rfl (fun k hk=> ⟨fun hi=> ab,fun hi=> ab⟩) (xS rfl rfl rfl hno) ?_
 rintro _ _ ⟨rfl,rfl⟩
 refine db (a8) (fun k hk=> ⟨fun hi=> absurd hk (ad),fun hi=> absurd hk (ad)⟩) (rt_ Tryz.results141 (k:=?_))
 exact⟨_,cJ.trans (hsb) (D8 (s':=s55) (u:=s52) hok hno),rfl,rfl⟩
end Go.Sx
