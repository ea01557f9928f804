import Derived.Test.YtcbidldebfibkaaGreatDoorQ24
set_option linter.unusedVariables false
set_option linter.unusedSimpArgs false
set_option linter.unusedSectionVars false
set_option linter.unnecessarySimpa false
set_option maxHeartbeats 0
namespace Go.Sx
open Go Go.Proofs
set_option maxRecDepth 100000
def ePo:Enc (Nat×SV):=⟨fun p=> [.int .i64 ((p.1:Nat):Int),p.2.val],2,true,fun _=> rfl,fun p v h=> by simp at h;rcases h with rfl|rfl <;> rfl,ag,fun h=> aR,ag⟩
instance {p:Nat×SV}:kK ePo p (.agg [.int .i64 ((p.1:Nat):Int),p.2.val].toArray):=⟨rfl⟩
instance {d:Nat}{s:SV}:fH ePo (.agg [.int .i64 ((d:Nat):Int),s.val].toArray) (d,s):=⟨rfl⟩
def lI (H:cG) (l:List (Nat×SV)) (ps:List Po):Prop:=l.length=ps.length∧∀(i:Nat) (p:Nat×SV) (q:Po),l[i]? =some p→ps[i]? =some q→p.1=q.1∧Sl H p.2 eI (dg q.2)
theorem lI.get {H:cG}{l:List (Nat×SV)}{ps:List Po}(h:lI H l ps) {i:Nat}(hi:i<l.length):∃s pos,l[i]? =some ((ps.getD i (0, [])).1,s)∧ps[i]? =some ((ps.getD i (0, [])).1,pos)∧Sl H s eI (dg pos):=by
 obtain⟨p,hp⟩:∃p,l[i]? =some p:=⟨_,Yi hi⟩
 obtain⟨q,hq⟩:∃q,ps[i]? =some q:=⟨_,Yi (by rw[←h.1];exact hi)⟩
 obtain⟨h1,h2⟩:=h.2 i p q hp hq
 rw[List.getD_eq_getElem?_getD,hq]
 exact⟨p.2,q.2,by rw[hp,Option.getD_some,←h1],rfl,h2⟩
theorem lI.cut {H:cG}{l:List (Nat×SV)}{ps:List Po}(h:lI H l ps) (a b:Nat):lI H ((l.take b).drop a) ((ps.take b).drop a):=by
 refine⟨by simp[h.1],fun i p q hp hq=> ?_⟩
 rw[Xh,List.getElem?_take]at hp hq
 split at hp
 ·rename_i hlt;rw[if_pos hlt]at hq;exact h.2 _ p q hp hq
 ·cases hp
theorem lI.tail {H:cG}{A:Hp}{l:List (Nat×SV)}{ps:List Po}(h:lI H l ps):lI (A::H) l ps:=⟨h.1,fun i p q hp hq=> by
 obtain⟨h1,h2⟩:=h.2 i p q hp hq
 exact⟨h1,Sl.tail⟩⟩
theorem pR {l:List Po}(h:fx l) (i:Nat):fx (l.take i):=⟨by have:=h.1;rw[Yg];omega,fun p hp=> h.2 p (Yq hp)⟩
theorem H8 {G:cM}{H:cG}{s:SV}{d nb:Nat}{pos:List Nat} [hs:Sl H s eI (dg pos)] (hd:d≤1000000) (hnb:nb≤d) (hne:pos≠ []) (hok:oW 0 pos) (hl:pos.length≤100000000):SC G Tryz.prog 198 [.agg [.int .i64 ((d:Nat):Int),s.val].toArray, .int .i64 (((nb:Nat):Int) - 1)] H (fun v H'=> v= .nilIface∧H'=H):=by
 have hlen:=dX pos
 have hpos:0<pos.length:=List.length_pos_iff.2 hne
 refine sWk Tryz.func198 Tryz.ntmps198 ?_
 refine ws_ (wr_ (bxx (k:=fun b2=>?_)))
 refine e_ asn (k:=on_ (qn_ (ws_ (wb_ (ws_ (wr_ (e_ fla (k:=e_ ldv (k:=e_ ilt (k:=e_ mv (k:=dQ 4 16 (k:=fun h1=>eg_ fla (k:=eg_ ldv (k:=eg_ ige (k:=e_ pkf (k:=on_ (edq)))))) (q:=e_ asn (k:=on_ (?_))))))))))))))
 refine qn_ (wi_ (k:=fun h2=>?_) (m:=fun h2=>?_))
 ·exact absurd h2 (a8)
 refine ws_ (wr_ (e_ fla (k:=e_ ldv (k:=e_ mv (k:=e_ ile (k:=e_ asn (k:=on_ (qn_ (wi_ (k:=fun h3=>?_) (m:=fun h3=>?_))))))))))
 ·exact absurd h3 (a8)
 refine ws_ (wr_ (e_ fla (k:=e_ ldv (k:=e_ lnn (k:=e_ ieq (k:=e_ asn (k:=on_ (qn_ (wi_ (k:=fun h4=>?_) (m:=fun h4=>?_))))))))))
 ·exact absurd h4 (a8)
 refine wk_ (bn_ (qn_ (ws_ (ws_ (wr_ (e_ fla (k:=e_ ldv (k:=e_ lnn (k:=e_ mv (k:=on_ (qn_ (wb_ (dn (Nat) (fun y=> True) (fun y=> [(33, .int .i64 ((y:Nat):Int))]) [(2,_),(31,_),(32,_)] (fun y=> []) _ (fun y=> pos.length - y) (0) (h0:=?_) (k:=?_))))))))))))))
 ·try dsimp only
  all_goals trivial
 rintro i -
 try dsimp only[Yd,Ye]at*
 refine ws_ (wr_ (e_ ilt (k:=on_ (qn_ (ws_ (wi_ (k:=fun h5=>?_) (m:=fun h5=>?_)))))))
 ·obtain⟨x,hx⟩:∃x,pos[i]? =some x:=⟨_,Yi (a8)⟩
  have hxi:=eE hx
  refine wk_ (qn_ (ws_ (wb_ (ws_ (wr_ (e_ ixa (k:=e_ lel (k:=e_ asn (k:=on_ (qn_ (ws_ (wr_ (e_ mv (k:=?_))))))))))))))
  refine e_ ilt (k:=on_ (qn_ (wi_ (k:=fun h6=>?_) (m:=fun h6=>?_))))
  ·exact absurd h6 (a8)
  refine wk_ (bn_ (qn_ (wr_ (e_ iad (k:=e_ mv (k:=on_ (?_)))))))
  refine ln_ (i+1) (k:=?_)
  try dsimp only
  all_goals trivial
 refine we_ (qe_ (le_ (bh_ (qn_ (ws_ (ws_ (wr_ (e_ asn (k:=on_ (qn_ (wb_ (dn (Nat) (fun y=> 1≤y) (fun y=> [(7, .int .i64 ((y:Nat):Int))]) [(2,_)] (fun y=> []) _ (fun y=> pos.length - y) (1) (h0:=?_) (k:=?_)))))))))))))
 ·try dsimp only
  exact Nat.le_refl _
 rintro j hj
 try dsimp only[Yd,Ye]at*
 refine ws_ (ws_ (wr_ (e_ mv (k:=e_ fla (k:=e_ ldv (k:=e_ lnn (k:=e_ ilt (k:=on_ (qn_ (wi_ (k:=fun h7=>?_) (m:=fun h7=>?_)))))))))))
 ·obtain⟨x,hx⟩:∃x,pos[j]? =some x:=⟨_,Yi (a8)⟩
  obtain⟨y,hy⟩:∃y,pos[j - 1]? =some y:=⟨_,Yi (a8)⟩
  have hxi:=eE hx
  have hyi:=eE hy
  have hge:=mw hok hx
  rw[if_neg (a8),List.getD_eq_getElem?_getD,hy,Option.getD_some]at hge
  refine wk_ (qn_ (ws_ (wb_ (ws_ (?_)))))
  refine cW cL (as_ 0 (q:=fla) (k:=as_ 1 (q:=ldv) (k:=as_ 2 (q:=mv) (k:=as_ 3 (q:=ixa) (k:=as_ 4 (q:=lel) (k:=as_ 5 (q:=fla) (k:=as_ 6 (q:=ldv) (k:=as_ 7 (q:=mv) (k:=as_ 8 (q:=isb) (k:=as_ 9 (q:=ixa) (k:=as_ 10 (q:=lel) (k:=as_ 11 (q:=ile) (k:=az_ (k:=?_))))))))))))))
  refine qn_ (wi_ (k:=fun h8=>?_) (m:=fun h8=>?_))
  ·exact absurd h8 (a8)
  refine wk_ (bn_ (qn_ (wr_ (e_ mv (k:=e_ iad (k:=e_ asn (k:=on_ (?_))))))))
  refine ln_ (j+1) (k:=?_)
  try dsimp only
  omega
 refine we_ (qe_ (le_ (bh_ (qn_ (ws_ (wr_ (e_ asn (k:=on_ (qn_ (wt_ (rt_ Tryz.results198 (k:=?_))))))))))))
 exact⟨_,hsb,rfl,rfl⟩
theorem GZ {G:cM}{H:cG}{s:SV}{l:List (Nat×SV)}{ps:List Po}{nb:Nat} [hg:Glb G H] [hs:Sl H s ePo l] (hp:lI H l ps) (hok:jI nb ps) (hsm:fx ps) (hn:ps.length≤16) (hnb:nb≤1000001):SC G Tryz.prog 199 [s.val, .int .i64 (((nb:Nat):Int) - 1)] H (fun v H'=> ∃s':SV,v=s'.val∧H'=Row s' eB (o5 nb ps)::H):=by
 have hpl:=hp.1
 have hgl:(dg (gB nb ps)).length=l.length:=by rw[dX,gP,hpl]
 have hfl:(dg (iQ ps)).length=l.length:=by rw[dX,iQ,Yh,hpl]
 have hT:∀i,dx (ps.take i)≤1600000000:=fun i=> by
  have:=wh (pR hsm i)
  rw[Yg]at this;omega
 refine sWk Tryz.func199 Tryz.ntmps199 ?_
 refine go ?_
 refine c0_ rfl (fC) (k:=?_)
 rintro _ _ ⟨bw,rfl,rfl⟩
 refine e_ asn (k:=on_ (qn_ (od (SV×SV) (fun y=> True) (fun y=> [(6,y.1.val),(7,y.2.val)]) [6,7,15,16,17,18,19,20] (fun y=> [Row y.1 eI (List.replicate l.length (0:Int)),Row y.2 eI (List.replicate l.length (0:Int))]) (Wr bw []::H) ?_ ?_)))
 ·refine di cL (fun i=> [2,5].contains i) (fun k H=> (k=1→Sl H s ePo l)∧(k=4→Sl H s ePo l)) (af_ 0 (q:=cE fun H hH=>mv) (k:=?_))
  refine cH 1 rfl rfl (aa) rfl (cE fun H hH=>by have hN:=hH.1 rfl;exact lnn) (?_)
  refine af_ 3 (q:=cE fun H hH=>mv) (k:=?_)
  refine cH 4 rfl rfl (aa) rfl (cE fun H hH=>by have hN:=hH.2 rfl;exact lnn) (?_)
  refine uO 2 5 rfl rfl (aa) rfl rfl (fun k hk=> ⟨fun hi=> ab,fun hi=> ab⟩) (gD eI 0 rfl rfl _ _ rfl rfl rfl (a8) (a8) (a8)) (gD eI 0 rfl rfl _ _ rfl rfl rfl (a8) (a8) (a8)) ?_ ?_
  ·rintro _ _ ⟨s17,rfl,hs17n,hs17c,rfl⟩
   refine af_ 6 (q:=cE fun H hH=>asn) (k:=?_)
   refine cQ 5 rfl (aa) rfl (fun k hk=> ⟨fun hi=> absurd hk (ad),fun hi=> ab⟩) (gD eI 0 rfl rfl _ _ rfl rfl rfl (a8) (a8) (a8)) ?_
   rintro _ _ ⟨s20,rfl,hs20n,hs20c,rfl⟩
   refine af_ 7 (q:=cE fun H hH=>asn) (k:=db (aa) (fun k hk=> ⟨fun hi=> absurd hk (ad),fun hi=> absurd hk (ad)⟩) (jnE ((s17,s20)) (q:=?_)))
   trivial
  rintro _ _ ⟨s20,rfl,hs20n,hs20c,rfl⟩
  refine cQ 2 rfl (aa) rfl (fun k hk=> ⟨fun hi=> ab,fun hi=> absurd hk (ad)⟩) (gD eI 0 rfl rfl _ _ rfl rfl rfl (a8) (a8) (a8)) ?_
  rintro _ _ ⟨s17,rfl,hs17n,hs17c,rfl⟩
  refine af_ 6 (q:=cE fun H hH=>asn) (k:=af_ 7 (q:=cE fun H hH=>asn) (k:=db (aa) (fun k hk=> ⟨fun hi=> absurd hk (ad),fun hi=> absurd hk (ad)⟩) (jnE ((s17,s20)) (q:=?_))))
  trivial
 rintro⟨s17,s20⟩ -
 try dsimp only[Yd,Ye]at*
 refine ws_ (ws_ (wr_ (?_)))
 rw[show Row s17 eI (List.replicate l.length (0:Int))=Row s17 eI (gb (dg (gB nb ps)) 0 0)from by rw[oz,hgl],show Row s20 eI (List.replicate l.length (0:Int))=Row s20 eI (gb (dg (iQ ps)) 0 0)from by rw[oz,hfl]]
 refine gk (k:=dn (Nat) (fun y=> y≤l.length) (fun y=> [(1, .int .i64 (((e8 nb (ps.take y):Nat):Int) - 1)),(23, .int .i64 ((y:Nat):Int))]) [(0,_),(5,_),(6,_),(7,_),(21,_),(22,_)] (fun y=> [Row s17 eI (gb (dg (gB nb ps)) 0 y),Row s20 eI (gb (dg (iQ ps)) 0 y)]) _ (fun y=> l.length - y) (0) (h0:=?_) (k:=?_))
 ·try dsimp only
  exact Yl _
 rintro i hi
 try dsimp only[Yd,Ye]at*
 refine gk (k:=wi_ (k:=fun h1=>?_) (m:=fun h1=>?_))
 ·obtain⟨sp,pos,hli,hpi,hsl⟩:=hp.get (i:=i) (a8)
  generalize (ps.getD i (0, [])).1=d at hli hpi
  have hge:=(j4 hok hpi).1
  have hne:=(j4 hok hpi).2.1
  have hpos:0<pos.length:=List.length_pos_iff.2 hne
  have hsmi:=hsm.2 _ (Yj hpi)
  simp only at hge hsmi hne
  have hposl:=dX pos
  have hg1:(dg (gB nb ps))[i]? =some ((d - e8 nb (ps.take i):Nat):Int):=eE (ru hpi)
  have hf1:(dg (iQ ps))[i]? =some ((pos.length - 1:Nat):Int):=eE (by rw[iQ,Xd,hpi];all_goals rfl)
  have hl1:=nW (z:=(0:Int)) (full:=dg (gB nb ps)) (i:=i) (a8)
  have hl2:=nW (z:=(0:Int)) (full:=dg (iQ ps)) (i:=i) (a8)
  refine gk (k:=alc (k:=fun b9=>?_))
  refine e_ asn (k:=sto (k:=on_ (qn_ (ws_ (wr_ (e_ mv (k:=e_ mv (k:=e_ fla (k:=e_ ldv (k:=e_ mv (k:=e_ isb (k:=?_))))))))))))
  refine e_ (evq isb (congrArg (Value.int .i64) (show _=((d - e8 nb (ps.take i):Nat):Int)from a8))) (k:=?_)
  refine go ?_
  refine s_ (fo (i:=i) rfl rfl rfl (a8)) (k:=?_)
  rintro _ _ ⟨rfl,rfl⟩
  refine on_ (qn_ (ws_ (wr_ (e_ fla (k:=e_ ldv (k:=e_ asn (k:=on_ (qn_ (wr_ (e_ mv (k:=e_ mv (k:=e_ fla (k:=e_ ldv (k:=?_))))))))))))))
  refine e_ lnn (k:=?_)
  refine e_ (evq isb (congrArg (Value.int .i64) (show _=((pos.length - 1:Nat):Int)from a8))) (k:=?_)
  refine go ?_
  refine s_ (fo (i:=i) rfl rfl rfl (a8)) (k:=?_)
  rintro _ _ ⟨rfl,rfl⟩
  refine on_ (bn_ (qn_ (wr_ (?_))))
  rw[qq hg1,qq hf1]
  have hlast:e8 nb (ps.take (i+1))=d+1:=mZ hpi
  have hda:((d:Nat):Int)=((e8 nb (ps.take (i+1)):Nat):Int) - 1:=by rw[hlast];omega
  rw[hda]
  refine go ?_
  refine ln_ (i+1) (k:=?_)
  try dsimp only
  omega
 obtain rfl:i=l.length:=a8
 rw[show gb (dg (gB nb ps)) 0 l.length=dg (gB nb ps)from by rw[←hgl,nX],show gb (dg (iQ ps)) 0 l.length=dg (iQ ps)from by rw[←hfl,nX]]
 refine go ?_
 refine d2_ rfl (wj (aj) (cw) (fun x hx=> aU) (fun _=> cw)) (k:=go ?_)
 refine d2_ rfl (wj (by have:=gl (ns:=gB nb ps) (fun x hx=> aU) (cw);rw[gP]at this;simp only[Ya,Yc];omega) (bZ) (fun x hx=> bN) (fun _=> bZ)) (k:=on_ (qn_ (ws_ (ws_ (wr_ (?_))))))
 obtain⟨pre,hpre⟩:∃pre,pre= []++fB (gB nb ps)++fB (iQ ps):=⟨_,rfl⟩
 have hprl:pre.length≤1000:=by
  have h1:=gl (ns:=gB nb ps) (fun x hx=> aU) (cw)
  have h2:=gl (ns:=iQ ps) (fun x hx=> bN) (bZ)
  rw[gP]at h1
  rw[show(iQ ps).length=ps.length from by rw[iQ,Yh]]at h2
  rw[hpre];simp only[Ya,Yc];omega
 rw[←hpre,show Wr bw pre=Wr bw (pre++fD (ps.take 0))from by simp[fD]]
 refine gk (k:=dn (Nat) (fun y=> y≤l.length) (fun y=> [(54, .int .i64 ((y:Nat):Int))]) [(5,_),(52,_),(53,_)] (fun y=> [Wr bw (pre++fD (ps.take y))]) _ (fun y=> l.length - y) (0) (h0:=?_) (k:=?_))
 ·try dsimp only
  exact Yl _
 rintro i hi
 try dsimp only[Yd,Ye]at*
 refine gk (k:=wi_ (k:=fun h2=>?_) (m:=fun h2=>?_))
 ·obtain⟨sp,pos,hli,hpi,hsl⟩:=hp.get (i:=i) (a8)
  generalize (ps.getD i (0, [])).1=d at hli hpi
  have hokp:=(j4 hok hpi).2.2
  have hsmi:=hsm.2 _ (Yj hpi)
  simp only at hsmi hokp
  have hposl:=dX pos
  have hTi:=hT i
  have htl:=l7 (l:=ps.take i) (fun p hp=> (hsm.2 p (Yq hp)).2.2)
  refine gk (k:=alc (k:=fun b11=>?_))
  refine sto (k:=on_ (qn_ (ws_ (wr_ (e_ fla (k:=e_ ldv (k:=e_ lnn (k:=?_))))))))
  rw[show Wr bw (pre++fD (ps.take i))=Wr bw (pre++fD (ps.take i)++iU 0 (pos.take 0))from by simp[iU]]
  refine gk (k:=dn (Nat) (fun y=> y≤pos.length) (fun y=> [(61, .int .i64 ((y:Nat):Int))]) [(5,_),(11,_),(52,_),(53,_),(54,_),(59,_),(60,_)] (fun y=> [Wr bw (pre++fD (ps.take i)++iU 0 (pos.take y))]) _ (fun y=> pos.length - y) (0) (h0:=?_) (k:=?_))
  ·try dsimp only
   exact Yl _
  rintro j hj
  try dsimp only[Yd,Ye]at*
  refine gk (k:=wi_ (k:=fun h3=>?_) (m:=fun h3=>?_))
  ·obtain⟨x,hx⟩:∃x,pos[j]? =some x:=⟨_,Yi (a8)⟩
   have hxi:=eE hx
   have hxl:=hsmi.2.2 x (Yj hx)
   have hge:=mw hokp hx
   have hstp:=pe (nb:=0) hx
   have htl2:=og (l:=pos.take j) (nb:=0) (fun y hy=> hsmi.2.2 y (Yq hy))
   rw[Yg]at htl2
   refine go ?_
   refine gk (k:=wi_ (k:=fun h4=>?_) (m:=fun h4=>?_))
   ·obtain⟨y,hy⟩:∃y,pos[j - 1]? =some y:=⟨_,Yi (a8)⟩
    have hyi:=eE hy
    rw[if_neg (a8),List.getD_eq_getElem?_getD,hy,Option.getD_some]at hge hstp
    refine wr_ (e_ mv (k:=e_ fla (k:=e_ ldv (k:=e_ mv (k:=e_ isb (k:=e_ ixa (k:=e_ lel (k:=e_ iad (k:=?_)))))))))
    refine e_ (evq isb (congrArg (Value.int .i64) (show _=((x - (y+1):Nat):Int)from a8))) (k:=?_)
    refine e_ asn (k:=on_ (qn_ (wr_ (e_ mv (k:=e_ mv (k:=?_))))))
    refine e_ ((ae)) (k:=?_)
    refine d2_ rfl (eC _ (a8) (ah)) (k:=?_)
    rw[Yf (pre++fD (ps.take i)),←hstp]
    refine go ?_
    refine ln_ (j+1) (k:=?_)
    try dsimp only
    omega
   rw[if_pos (a8),Nat.sub_zero]at hstp
   refine wk_ (qn_ (wr_ (e_ mv (k:=e_ mv (k:=?_)))))
   refine e_ ((ae)) (k:=?_)
   refine d2_ rfl (eC _ (a8) (ah)) (k:=?_)
   rw[Yf (pre++fD (ps.take i)),←hstp]
   refine go ?_
   refine ln_ (j+1) (k:=?_)
   try dsimp only
   omega
  obtain rfl:j=pos.length:=a8
  rw[List.take_length,Yf,show fD (ps.take i)++iU 0 pos=fD (ps.take (i+1))from(rO hpi).symm]
  refine go ?_
  refine ln_ (i+1) (k:=?_)
  try dsimp only
  omega
 obtain rfl:i=l.length:=a8
 rw[show ps.take l.length=ps from bT,show pre++fD ps=o5 nb ps from by rw[hpre];all_goals rfl]
 have hbl:=o4 (nb:=nb) hsm
 have hT0:=hT 16
 rw[List.take_of_length_le (a8)]at hT0
 refine go ?_
 refine c1_ rfl (iB (a8)) (k:=?_)
 rintro _ _ ⟨s84,rfl,rfl⟩
 refine gk (k:=rt_ Tryz.results199 (k:=?_))
 exact⟨_,hsb,s84,rfl,rfl⟩
structure PG where
 d:Nat
 s:SV
 pos:List Nat
structure EG where
 key:ByteArray
 s:SV
 l:List PG
def pgV (p:PG):Nat×SV:=(p.d,p.s)
def pgP (p:PG):Po:=(p.d,p.pos)
def pgH (p:PG):cG:= [Row p.s eI (dg p.pos)]
def egH (e:EG):cG:= [Row e.s ePo (e.l.map pgV),Cl pgH e.l]
def kvs (es:List EG):List (ByteArray×Value):=es.map fun e=> (e.key,e.s.val)
def mK (es:List EG):List (List Nat×List Po):=es.map fun e=> (cF e.key,e.l.map pgP)
def iX (r:Nat) (ts:List Tri):Hp:=fun L=> ∃es,fW (mK es) ts∧Sep [Cl egH es,Mv r (kvs es)] L
theorem pN {r:Nat}{ts:List Tri}{es:List EG}{R:cG}(h:fW (mK es) ts):cK (Cl egH es::Mv r (kvs es)::R) (iX r ts::R):=fun L hL=> by
 obtain⟨L1,L2,rfl,h1,L3,L4,rfl,h2,h3⟩:=hL
 exact⟨(L1++L3)++L4, [],⟨L1++L3,L4,rfl,⟨es,h,L1,L3,rfl,h1,L3, [],aj,h2,rfl⟩,h3⟩,aj⟩
theorem Ce {G:cM}{H R:cG}{r:Nat}{ts:List Tri}(hr:Rem H iX r ts R) {w:World}(hw:Sat G w H):∃es,fW (mK es) ts∧Sat G w (Cl egH es::Mv r (kvs es)::R):=by
 obtain⟨hS,L,⟨L1,L2,rfl,⟨es,h,L3,L4,rfl,h1,L5,L6,rfl,h2,h3⟩,h4⟩,hl⟩:=hr.sat hw
 obtain rfl:L6= []:=h3
 exact⟨es,h,hS,_,⟨L3,L5++L2,aj,h1,L5,L2,rfl,h2,h4⟩,hl⟩
theorem Bj {G:cM}{P:Program}{N:Nat}{Q:fY}{t:Tm}{ops:Array Oper}{l:List Oper}{H R:cG}{r:Nat}{ts:List Tri}(hr:Rem H iX r ts R) (h:∀es,fW (mK es) ts→O G P N ops l Q t (Cl egH es::Mv r (kvs es)::R)):O G P N ops l Q t H:=
 ⟨fun a w ha hw=> by
   obtain⟨es,hk,hw2⟩:=Ce hr hw
   exact(h es hk).go a w ha hw2⟩
theorem wL {es:List EG}{i:Nat}{e:EG}(h:es[i]? =some e):(kvs es)[i]? =some (e.key,e.s.val):=by rw[kvs,Xd,h];all_goals rfl
theorem Bp (es:List EG) (i:Nat) (e:EG):kvs (es.set i e)=(kvs es).set i (e.key,e.s.val):=by rw[kvs,kvs,List.map_set]
theorem xN {α:Type}{l:List α}{i:Nat}{a:α}(h:l[i]? =some a):l.set i a=l:=by
 apply List.ext_getElem?
 intro j
 rw[List.getElem?_set]
 split
 ·rename_i hj;subst hj;rw[h];simp[(Yk.1 h).1]
 ·rfl
theorem Fl {es:List EG}{i:Nat}{e e':EG}(h:es[i]? =some e) (hk:e'.key=e.key) (hs:e'.s=e.s):kvs (es.set i e')=kvs es:=by
 rw[Bp,hk,hs]
 exact xN (wL h)
theorem qM {es:List EG}{i:Nat}{e:EG}(h:es[i]? =some e):(mK es)[i]? =some (cF e.key,e.l.map pgP):=by rw[mK,Xd,h];all_goals rfl
theorem zc (es:List EG) (i:Nat) (e:EG):mK (es.set i e)=(mK es).set i (cF e.key,e.l.map pgP):=by rw[mK,mK,List.map_set]
theorem oK (es:List EG):(mK es).map (·.1)=(kvs es).map fun p=> cF p.1:=by simp[mK,kvs]
theorem rn {es:List EG}{ts:List Tri}(h:fW (mK es) ts):((kvs es).map (·.1)).Nodup:=by
 have h1:=h.nodup
 rw[oK,show(fun p:ByteArray×Value=> cF p.1)=cF∘(·.1)from rfl,←List.map_map]at h1
 exact yl h1
theorem Ik {es:List EG}{q:ByteArray}:q∈(kvs es).map (·.1)↔cF q∈(mK es).map (·.1):=by
 rw[oK,List.mem_map,List.mem_map]
 constructor
 ·rintro⟨p,hp,rfl⟩;exact⟨p,hp,rfl⟩
 ·rintro⟨p,hp,he⟩;exact⟨p,hp,iH.1 he⟩
theorem xF {G:cM}{P:Program}{t:Tm}{H:cG}{dst:Option Tmp}{ty:TypeId}{pos:String}{after:Array Edge}{g:Option (Nat×Bool)}{T K E:TypeId}{x y:Operand}{r sz bb:Nat}{es:List EG}{s:ByteArray}{C:Hp→cG}(hx:evo t x=some (.map (some r))) (hy:evo t y=some (.string s)) [hT:Und P T (.map K E)] [hK:Und P K .string] [hE:Inf P E sz bb (.slice none 0 0)] [hf:Foc H Mv r (kvs es) C]:
 St G P ⟨dst, .lookup T x y false,ty,pos,after,g⟩ t H (fun u H'=> H'=H∧((∃(i:Nat) (e:EG),es[i]? =some e∧e.key=s∧u=e.s.val)∨(s ∉(kvs es).map (·.1)∧u=SV.nil.val))):=
 AW (AX (ok:=false) hx hy) fun v H' ⟨h1,h2⟩=> ⟨h1,by
  rcases h2 with⟨i,u,hi,hu⟩|⟨hno,hu⟩
  ·obtain rfl:v=u:=hu
   obtain⟨e,he,heq⟩:∃e,es[i]? =some e∧(e.key,e.s.val)=(s,v):=by
    rw[kvs,Xd]at hi
    cases he:es[i]? with
    |none=> rw[he]at hi;cases hi
    |some e=> rw[he]at hi;exact⟨e,rfl,Option.some.inj hi⟩
   cases heq
   exact .inl ⟨i,e,he,rfl,rfl⟩
  ·exact .inr ⟨hno,hu⟩⟩
theorem AB {l:List PG}{n:Nat}{p:PG}{x:Nat}(s:SV) (h:l[n]? =some p) (hn:n+1=l.length):ev (l.map pgP) p.d x=(l.set n ⟨p.d,s,p.pos++ [x]⟩).map pgP:=by
 obtain⟨a,rfl⟩:∃a,l=a++ [p]:=by
  rcases List.eq_nil_or_concat l with rfl|⟨a,q,hq⟩
  ·cases h
  ·obtain rfl:l=a++ [q]:=by simpa using hq
   have:n=a.length:=by simp at hn;omega
   subst this
   simp at h;subst h;exact⟨a,rfl⟩
 have:n=a.length:=by simp at hn;omega
 subst this
 simp[ev,pgP]
theorem w8 {l:List Po}{d x:Nat}(h:∀q,l.getLast? =some q→q.1≠d):ev l d x=l++ [(d, [x])]:=by
 unfold ev
 split
 ·rename_i q hq;rw[if_neg (h q hq)]
 ·rename_i hn
  rw[List.getLast?_eq_none_iff]at hn;subst hn;rfl
theorem ox (ts:List (Nat×Nat)):dx (jf ts)=ts.length∧(jf ts).length≤ts.length:=by
 have key:∀(r:List (Nat×Nat)),dx (jf r.reverse)=r.length∧(jf r.reverse).length≤r.length:=by
  intro r
  induction r with
  |nil=> simp[jf,dx]
  |cons t r ih=>
   obtain⟨h1,h2⟩:=ih
   rw[List.reverse_cons,show [t]= [(t.1,t.2)]from rfl,l3]
   generalize jf r.reverse=l at*
   rcases List.eq_nil_or_concat l with rfl|⟨a,q,hq⟩
   ·have h3:r.length=0:=by simpa [dx] using h1.symm
    simp[ev,dx,h3]
   ·obtain rfl:l=a++ [q]:=by simpa using hq
    by_cases he:q.1=t.1
    ·rw[show ev (a++ [q]) t.1 t.2=a++ [(t.1,q.2++ [t.2])]from by simp[ev,he]]
     simp[dx]at*;omega
    ·rw[show ev (a++ [q]) t.1 t.2=a++ [q]++ [(t.1, [t.2])]from by simp[ev,he]]
     simp[dx]at*;omega
 have:=key ts.reverse
 rw[List.reverse_reverse,List.length_reverse]at this
 exact this
theorem wH (ts:List Tri) (k:List Nat):(ofK ts k).length≤ts.length:=by rw[ofK,Yh];exact List.length_filter_le _ _
theorem BW {es:List EG}{ts:List Tri}(h:fW (mK es) ts) {i:Nat}{e:EG}(he:es[i]? =some e):e.l.length≤ts.length∧∀p∈e.l,p.pos.length≤ts.length:=by
 have h1:=h.vals _ (Yj (qM he))
 simp only at h1
 obtain⟨h2,h3⟩:=ox (ofK ts (cF e.key))
 have h4:=wH ts (cF e.key)
 rw[←h1]at h2 h3
 rw[Yh]at h3
 refine⟨a8,fun p hp=> ?_⟩
 have:p.pos.length≤dx (e.l.map pgP):=by
  generalize e.l=l at hp
  induction l with
  |nil=> simp at hp
  |cons q l ih=>
   simp only[dx,List.map_cons,List.sum_cons]at ih⊢
   rcases List.mem_cons.1 hp with rfl|hp
   ·show p.pos.length≤p.pos.length+_;omega
   ·have:=ih hp;omega
 omega
def sE (f:Nat) (s:ByteArray):ByteArray:=dO [f % 256]++s
theorem l5 (f:Nat) (s:ByteArray):cF (sE f s)=f % 256::cF s:=by
 rw[sE,ej,dK (au)];all_goals rfl
theorem MN {G:cM}{H:cG}{f:Nat}{s:ByteArray}(hs:s.size≤1000000000):SC G Tryz.prog 153 [.int .i64 ((f:Nat):Int), .string s] H (fun v H'=> v= .string (sE f s)∧H'=H):=by
 refine sWk Tryz.func153 Tryz.ntmps153 ?_
 refine ws_ (wr_ (e_ asn (k:=on_ (qn_ (ws_ (wr_ (e_ mv (k:=?_))))))))
 refine e_ (dd 256 rfl rfl rfl f rfl) (k:=?_)
 refine dD eB (k:=fun s7=>?_)
 refine e_ (cV rfl) (k:=?_)
 refine e_ mv (k:=?_)
 refine e_ (gz rfl rfl (by rw[fg];simp;omega)) (k:=?_)
 refine gk (k:=rt_ Tryz.results153 (k:=?_))
 exact⟨_,hsb,rfl,rfl⟩
theorem wX {es:List EG}{i:Nat}{e:EG}{H:cG}(h:es[i]? =some e):cK (Cl egH es::H) (Row e.s ePo (e.l.map pgV)::Cl pgH e.l::Cl egH (es.take i)::Cl egH (es.drop (i+1))::H):=km (f:=egH) h
theorem wF {l:List PG}{i:Nat}{p:PG}{H:cG}(h:l[i]? =some p):cK (Cl pgH l::H) (Row p.s eI (dg p.pos)::Cl pgH (l.take i)::Cl pgH (l.drop (i+1))::H):=km (f:=pgH) h
theorem yO {es:List EG}{i:Nat}(e:EG) {H:cG}(hi:i<es.length):cK (Row e.s ePo (e.l.map pgV)::Cl pgH e.l::Cl egH (es.take i)::Cl egH (es.drop (i+1))::H) (Cl egH (es.set i e)::H):=qE (f:=egH) e hi
theorem EB {l:List PG}{i:Nat}(p:PG) {H:cG}(hi:i<l.length):cK (Row p.s eI (dg p.pos)::Cl pgH (l.take i)::Cl pgH (l.drop (i+1))::H) (Cl pgH (l.set i p)::H):=qE (f:=pgH) p hi
theorem wE {l:List PG}(p:PG) {H:cG}:cK (Row p.s eI (dg p.pos)::Cl pgH l::H) (Cl pgH (l++ [p])::H):=lW (f:=pgH) p
theorem IS {l:List EG}(e:EG) {H:cG}:cK (Row e.s ePo (e.l.map pgV)::Cl pgH e.l::Cl egH l::H) (Cl egH (l++ [e])::H):=lW (f:=egH) e
theorem Ep {r i n d p:Nat}{es:List EG}{e:EG}{lp:PG}{s':SV}{ts:List Tri}{R:cG}(hok:fW (mK es) ts) (he:es[i]? =some e) (hp:e.l[n]? =some lp) (hn:n+1=e.l.length) (hd:lp.d=d):
 cK (Row e.s ePo ((e.l.map pgV).set n (lp.d,s'))::Row s' eI (dg (lp.pos++ [p]))::Cl pgH (e.l.take n)::Cl pgH (e.l.drop (n+1))::Cl egH (es.take i)::Cl egH (es.drop (i+1))::Mv r (kvs es)::R) (iX r (ts++ [(cF e.key,d,p)])::R):=by
 subst hd
 have h1:(e.l.map pgV).set n (lp.d,s')=(e.l.set n ⟨lp.d,s',lp.pos++ [p]⟩).map pgV:=by rw[List.map_set];all_goals rfl
 have h2:kvs (es.set i ⟨e.key,e.s,e.l.set n ⟨lp.d,s',lp.pos++ [p]⟩⟩)=kvs es:=Fl he rfl rfl
 rw[h1,←h2]
 refine(cK.keep (EB ⟨lp.d,s',lp.pos++ [p]⟩ (Yk.1 hp).1)).trans ((yO ⟨e.key,e.s,e.l.set n ⟨lp.d,s',lp.pos++ [p]⟩⟩ (Yk.1 he).1).trans (pN ?_))
 rw[zc]
 have:=hok.old (d:=lp.d) (p:=p) (qM he)
 rwa [AB s' hp hn]at this
theorem y9 {r i d p:Nat}{es:List EG}{e:EG}{s' u:SV}{ts:List Tri}{R:cG}(hok:fW (mK es) ts) (he:es[i]? =some e) (hd:∀q,e.l.getLast? =some q→q.d≠d):
 cK (Row s' ePo (e.l.map pgV++ [(d,u)])::Row u eI (dg [p])::Cl pgH e.l::Cl egH (es.take i)::Cl egH (es.drop (i+1))::Mv r ((kvs es).set i (e.key,s'.val))::R) (iX r (ts++ [(cF e.key,d,p)])::R):=by
 have h1:e.l.map pgV++ [(d,u)]=(e.l++ [(⟨d,u, [p]⟩:PG)]).map pgV:=by simp[pgV]
 have h2:kvs (es.set i ⟨e.key,s',e.l++ [⟨d,u, [p]⟩]⟩)=(kvs es).set i (e.key,s'.val):=Bp _ _ _
 rw[h1,←h2]
 refine(cK.keep (wE ⟨d,u, [p]⟩)).trans ((yO ⟨e.key,s',e.l++ [⟨d,u, [p]⟩]⟩ (Yk.1 he).1).trans (pN ?_))
 rw[zc]
 have:=hok.old (d:=d) (p:=p) (qM he)
 rw[w8 (fun q hq=> by
  rw[List.getLast?_map]at hq
  cases hl:e.l.getLast? with
  |none=> rw[hl]at hq;cases hq
  |some x=> rw[hl]at hq;obtain rfl:=Option.some.inj hq;exact hd x hl)]at this
 simpa [pgP] using this
theorem Cu {r d p:Nat}{es:List EG}{q:ByteArray}{s' u:SV}{ts:List Tri}{R:cG}(hok:fW (mK es) ts) (hno:q ∉(kvs es).map (·.1)):
 cK (Row s' ePo [(d,u)]::Row u eI (dg [p])::Cl egH es::Mv r (kvs es++ [(q,s'.val)])::R) (iX r (ts++ [(cF q,d,p)])::R):=by
 have h2:kvs (es++ [⟨q,s', [⟨d,u, [p]⟩]⟩])=kvs es++ [(q,s'.val)]:=by simp[kvs]
 rw[←h2]
 refine(cK.keep ((eA cK.refl).trans (cK.trans (H':=Row u eI (dg [p])::Cl pgH []::Cl egH es::Mv r (kvs (es++ [⟨q,s', [⟨d,u, [p]⟩]⟩]))::R) hsb (wE ⟨d,u, [p]⟩)))).trans ((IS ⟨q,s', [⟨d,u, [p]⟩]⟩).trans (pN ?_))
 have:=hok.new (d:=d) (p:=p) (fun h=> hno (Ik.2 h))
 simpa [mK,pgP] using this
theorem ML {G:cM}{H R:cG}{g r d p:Nat}{q:ByteArray}{v1 v2 v3:Value}{ts:List Tri} [hv:dh R g [v1,v2,v3, .map (some r)]] [hr:Rem H iX r ts R] (hn:ts.length≤1000000000):SC G Tryz.prog 152 [.pointer (some ⟨g,0,none⟩), .string q, .int .i64 ((d:Nat):Int), .int .i64 ((p:Nat):Int)] H (fun v H'=> v= .tuple #[]∧H'=iX r (ts++ [(cF q,d,p)])::R):=by
 refine sWk Tryz.func152 Tryz.ntmps152 ?_
 refine go ?_
 refine Bj hr fun es hok=> ?_
 refine go ?_
 refine s_ (xF rfl rfl) (k:=?_)
 rintro _ _ ⟨rfl,(⟨i,e,he,rfl,rfl⟩|⟨hno,rfl⟩)⟩
 ·obtain⟨hel,hpl⟩:=BW hok he
  have hmap:(e.l.map pgV).length=e.l.length:=Yh ..
  refine dE (wX he) ?_
  refine e_ asn (k:=on_ (qn_ (ws_ (ws_ (wr_ (e_ mv (k:=e_ lnn (k:=e_ asn (k:=on_ (qn_ (ws_ (wr_ (e_ mv (k:=?_))))))))))))))
  refine e_ igt (k:=sp_ (mv) (k:=fun h1=>?_) (m:=fun h1=>?_))
  ·obtain⟨lp,hlp⟩:∃lp,e.l[e.l.length - 1]? =some lp:=⟨_,Yi (a8)⟩
   have hlv:(e.l.map pgV)[(e.l.map pgV).length - 1]? =some (lp.d,lp.s):=by rw[Xd,hmap,hlp];all_goals rfl
   have hlpl:=hpl lp (Yj hlp)
   have hlast:∀q,e.l.getLast? =some q→q=lp:=fun q hq=> by rw[List.getLast?_eq_getElem?,hlp]at hq;exact(Option.some.inj hq).symm
   have hil:=dX lp.pos
   refine gk (k:=wi_ (k:=fun h2=>?_) (m:=fun h2=>?_))
   ·refine go ?_
    refine dE (cK.keep (wF hlp)) ?_
    refine gk (k:=dD eI (k:=fun s40=>?_))
    refine app (k:=fun s41=>?_)
    rw[show dg lp.pos++ [((p:Nat):Int)]=dg (lp.pos++ [p])from by simp[dg]]
    refine go ?_
    rw[hmap]
    refine s_ (nM (i:=e.l.length - 1) (o:=1) rfl rfl rfl (lp.d,lp.s) (hmap ▸ hlv) (ag) (a:=(lp.d,s41)) rfl) (k:=?_)
    rintro _ _ ⟨rfl,rfl⟩
    refine gk (k:=rt_ Tryz.results152 (k:=?_))
    exact⟨_,cK.trans (hsb) (Ep (d:=d) hok he hlp (a8) (a8)),rfl,rfl⟩
   have hlast2:∀q,e.l.getLast? =some q→q.d≠d:=fun q hq=> by rw[hlast q hq];omega
   refine go ?_
   refine di cL (fun i=> [8,10,11,12].contains i) (fun k H=> (k=2→dh H g [v1,v2,v3, .map (some r)])∧(k=3→dh H g [v1,v2,v3, .map (some r)])) (af_ 0 (q:=cE fun H hH=>mv) (k:=af_ 1 (q:=cE fun H hH=>nck) (k:=?_)))
   refine cH 2 rfl rfl (aa) rfl (cE fun H hH=>bm) (?_)
   refine cH 3 rfl rfl (aa) rfl (cE fun H hH=>aK) (?_)
   refine af_ 4 (q:=cE fun H hH=>mv) (k:=af_ 5 (q:=cE fun H hH=>mv) (k:=af_ 6 (q:=cE fun H hH=>mv) (k:=af_ 7 (q:=cE fun H hH=>mv) (k:=?_))))
   refine cQ 8 rfl (aa) rfl (fun k hk=> ⟨fun hi=> ab,fun hi=> ab⟩) (dW eI rfl rfl) ?_
   rintro _ _ ⟨s52,rfl,rfl⟩
   rw[show Row s52 eI [((p:Nat):Int)]=Row s52 eI (dg [p])from rfl]
   refine af_ 9 (q:=cE fun H hH=>bld [(0,_),(1,_)]) (k:=?_)
   refine cQ 10 rfl (aa) rfl (fun k hk=> ⟨fun hi=> ab,fun hi=> ab⟩) (dW ePo rfl rfl) ?_
   rintro _ _ ⟨s54,rfl,rfl⟩
   refine cQ 11 rfl (aa) rfl (fun k hk=> ⟨fun hi=> ab,fun hi=> ab⟩) (ek rfl rfl rfl rfl (af) (af)) ?_
   rintro _ _ ⟨s55,rfl,rfl⟩
   refine cQ 12 rfl (aa) rfl (fun k hk=> ⟨fun hi=> ab,fun hi=> ab⟩) (xD rfl rfl rfl (wL he) (rn hok)) ?_
   rintro _ _ ⟨rfl,rfl⟩
   refine db (aa) (fun k hk=> ⟨fun hi=> absurd hk (ad),fun hi=> absurd hk (ad)⟩) (rt_ Tryz.results152 (k:=?_))
   exact⟨_,cK.trans (hsb) (y9 (s':=s55) (u:=s52) hok he hlast2),rfl,rfl⟩
  have hlast:∀q,e.l.getLast? =some q→q.d≠d:=fun q hq=> by
   have:=List.mem_of_getLast? hq
   have:=List.length_pos_of_mem this
   omega
  refine gk (k:=dw (k:=go ?_))
  refine di cL (fun i=> [8,10,11,12].contains i) (fun k H=> (k=2→dh H g [v1,v2,v3, .map (some r)])∧(k=3→dh H g [v1,v2,v3, .map (some r)])) (af_ 0 (q:=cE fun H hH=>mv) (k:=af_ 1 (q:=cE fun H hH=>nck) (k:=?_)))
  refine cH 2 rfl rfl (aa) rfl (cE fun H hH=>bm) (?_)
  refine cH 3 rfl rfl (aa) rfl (cE fun H hH=>aK) (?_)
  refine af_ 4 (q:=cE fun H hH=>mv) (k:=af_ 5 (q:=cE fun H hH=>mv) (k:=af_ 6 (q:=cE fun H hH=>mv) (k:=af_ 7 (q:=cE fun H hH=>mv) (k:=?_))))
  refine cQ 8 rfl (aa) rfl (fun k hk=> ⟨fun hi=> ab,fun hi=> ab⟩) (dW eI rfl rfl) ?_
  rintro _ _ ⟨s52,rfl,rfl⟩
  rw[show Row s52 eI [((p:Nat):Int)]=Row s52 eI (dg [p])from rfl]
  refine af_ 9 (q:=cE fun H hH=>bld [(0,_),(1,_)]) (k:=?_)
  refine cQ 10 rfl (aa) rfl (fun k hk=> ⟨fun hi=> ab,fun hi=> ab⟩) (dW ePo rfl rfl) ?_
  rintro _ _ ⟨s54,rfl,rfl⟩
  refine cQ 11 rfl (aa) rfl (fun k hk=> ⟨fun hi=> ab,fun hi=> ab⟩) (ek rfl rfl rfl rfl (af) (af)) ?_
  rintro _ _ ⟨s55,rfl,rfl⟩
  refine cQ 12 rfl (aa) rfl (fun k hk=> ⟨fun hi=> ab,fun hi=> ab⟩) (xD rfl rfl rfl (wL he) (rn hok)) ?_
  rintro _ _ ⟨rfl,rfl⟩
  refine db (aa) (fun k hk=> ⟨fun hi=> absurd hk (ad),fun hi=> absurd hk (ad)⟩) (rt_ Tryz.results152 (k:=?_))
  exact⟨_,cK.trans (hsb) (y9 (s':=s55) (u:=s52) hok he hlast),rfl,rfl⟩
 refine dE (cK.nilRow (e:=ePo) cK.refl) ?_
 have hmap:([]:List (Nat×SV)).length=0:=rfl
 refine e_ asn (k:=on_ (qn_ (ws_ (ws_ (wr_ (e_ mv (k:=e_ lnn (k:=e_ asn (k:=on_ (qn_ (ws_ (wr_ (e_ mv (k:=?_))))))))))))))
 refine e_ igt (k:=sp_ (mv) (k:=fun h3=>?_) (m:=fun h3=>?_))
 ·exact absurd h3 (a8)
 refine gk (k:=dw (k:=go ?_))
 refine di cL (fun i=> [8,10,11,12].contains i) (fun k H=> (k=2→dh H g [v1,v2,v3, .map (some r)])∧(k=3→dh H g [v1,v2,v3, .map (some r)])) (af_ 0 (q:=cE fun H hH=>mv) (k:=af_ 1 (q:=cE fun H hH=>nck) (k:=?_)))
 refine cH 2 rfl rfl (aa) rfl (cE fun H hH=>bm) (?_)
 refine cH 3 rfl rfl (aa) rfl (cE fun H hH=>aK) (?_)
 refine af_ 4 (q:=cE fun H hH=>mv) (k:=af_ 5 (q:=cE fun H hH=>mv) (k:=af_ 6 (q:=cE fun H hH=>mv) (k:=af_ 7 (q:=cE fun H hH=>mv) (k:=?_))))
 refine cQ 8 rfl (aa) rfl (fun k hk=> ⟨fun hi=> ab,fun hi=> ab⟩) (dW eI rfl rfl) ?_
 rintro _ _ ⟨s52,rfl,rfl⟩
 rw[show Row s52 eI [((p:Nat):Int)]=Row s52 eI (dg [p])from rfl]
 refine af_ 9 (q:=cE fun H hH=>bld [(0,_),(1,_)]) (k:=?_)
 refine cQ 10 rfl (aa) rfl (fun k hk=> ⟨fun hi=> ab,fun hi=> ab⟩) (dW ePo rfl rfl) ?_
 rintro _ _ ⟨s54,rfl,rfl⟩
 refine cQ 11 rfl (aa) rfl (fun k hk=> ⟨fun hi=> ab,fun hi=> ab⟩) (ek rfl rfl rfl rfl (af) (af)) ?_
 rintro _ _ ⟨s55,rfl,rfl⟩
 refine cQ 12 rfl (aa) rfl (fun k hk=> ⟨fun hi=> ab,fun hi=> ab⟩) (xE rfl rfl rfl hno) ?_
 rintro _ _ ⟨rfl,rfl⟩
 refine db (aa) (fun k hk=> ⟨fun hi=> absurd hk (ad),fun hi=> absurd hk (ad)⟩) (rt_ Tryz.results152 (k:=?_))
 exact⟨_,cK.trans (hsb) (Cu (s':=s55) (u:=s52) hok hno),rfl,rfl⟩
end Go.Sx
