import Derived.Test.YtcbidldebfibkaaGreatDoorQ26
set_option linter.unusedVariables false
set_option linter.unusedSimpArgs false
set_option linter.unusedSectionVars false
set_option linter.unnecessarySimpa false
set_option maxHeartbeats 0
namespace Go.Sx
open Go Go.Proofs
set_option maxRecDepth 100000
theorem HK {G:cM}{H:cG}{s:SV}{d nb:Nat}{pos:List Nat} [hs:Sl H s eI (dg pos)] (hd:d≤1000000) (hnb:nb≤d) (hne:pos≠ []) (hok:oW 0 pos) (hl:pos.length≤100000000):SC G Tryz.prog 163 [.agg [.int .i64 ((d:Nat):Int),s.val].toArray, .int .i64 (((nb:Nat):Int) - 1)] H (fun v H'=> v= .int .i64 0∧H'=H):=by
 have hlen:=dX pos
 have hpos:0<pos.length:=List.length_pos_iff.2 hne
 refine sWk Tryz.func163 Tryz.ntmps163 ?_
 refine ws_ (wr_ (bxx (k:=fun b2=>?_)))
 refine e_ asn (k:=on_ (qn_ (ws_ (ws_ (wr_ (e_ fla (k:=e_ ldv (k:=e_ ilt (k:=e_ mv (k:=dQ 4 15 (k:=fun h1=>eg_ fla (k:=eg_ ldv (k:=eg_ ige (k:=e_ pkf (k:=on_ (edq)))))) (q:=on_ (qn_ (wi_ (k:=fun h2=>?_) (m:=fun h2=>?_))))))))))))))
 ·exact absurd h2 (a8)
 refine wk_ (qn_ (ws_ (ws_ (wr_ (e_ fla (k:=e_ ldv (k:=e_ mv (k:=e_ ile (k:=on_ (qn_ (wi_ (k:=fun h3=>?_) (m:=fun h3=>?_))))))))))))
 ·exact absurd h3 (a8)
 refine wk_ (qn_ (ws_ (ws_ (wr_ (e_ fla (k:=e_ ldv (k:=e_ lnn (k:=e_ ieq (k:=on_ (qn_ (wi_ (k:=fun h4=>?_) (m:=fun h4=>?_))))))))))))
 ·exact absurd h4 (a8)
 refine wk_ (qn_ (ws_ (ws_ (wr_ (e_ fla (k:=e_ ldv (k:=e_ lnn (k:=e_ mv (k:=on_ (qn_ (wb_ (dn (Nat) (fun y=> True) (fun y=> [(27, .int .i64 ((y:Nat):Int))]) [(2,_),(25,_),(26,_)] (fun y=> []) _ (fun y=> pos.length - y) (0) (h0:=?_) (k:=?_)))))))))))))
 ·try dsimp only
  all_goals trivial
 rintro i -
 try dsimp only[Yd,Ye]at*
 refine ws_ (wr_ (e_ ilt (k:=on_ (qn_ (ws_ (wi_ (k:=fun h5=>?_) (m:=fun h5=>?_)))))))
 ·obtain⟨x,hx⟩:∃x,pos[i]? =some x:=⟨_,Yi (a8)⟩
  have hxi:=eE hx
  refine wk_ (qn_ (ws_ (wb_ (ws_ (wr_ (e_ ixa (k:=e_ lel (k:=e_ asn (k:=on_ (qn_ (ws_ (wr_ (e_ mv (k:=?_))))))))))))))
  refine e_ ilt (k:=on_ (qn_ (wi_ (k:=fun h6=>?_) (m:=fun h6=>?_))))
  ·exact absurd h6 (a8)
  refine wk_ (bn_ (qn_ (wr_ (e_ iad (k:=e_ mv (k:=on_ (?_)))))))
  refine ln_ (i+1) (k:=?_)
  try dsimp only
  all_goals trivial
 refine we_ (qe_ (le_ (bh_ (qn_ (ws_ (ws_ (wr_ (e_ asn (k:=on_ (qn_ (wb_ (dn (Nat) (fun y=> 1≤y) (fun y=> [(7, .int .i64 ((y:Nat):Int))]) [(2,_)] (fun y=> []) _ (fun y=> pos.length - y) (1) (h0:=?_) (k:=?_)))))))))))))
 ·try dsimp only
  exact Nat.le_refl _
 rintro j hj
 try dsimp only[Yd,Ye]at*
 refine ws_ (ws_ (wr_ (e_ mv (k:=e_ fla (k:=e_ ldv (k:=e_ lnn (k:=e_ ilt (k:=on_ (qn_ (wi_ (k:=fun h7=>?_) (m:=fun h7=>?_)))))))))))
 ·obtain⟨x,hx⟩:∃x,pos[j]? =some x:=⟨_,Yi (a8)⟩
  obtain⟨y,hy⟩:∃y,pos[j - 1]? =some y:=⟨_,Yi (a8)⟩
  have hxi:=eE hx
  have hyi:=eE hy
  have hge:=mw hok hx
  rw[if_neg (a8),List.getD_eq_getElem?_getD,hy,Option.getD_some]at hge
  refine wk_ (qn_ (ws_ (wb_ (ws_ (?_)))))
  refine cW cL (as_ 0 (q:=fla) (k:=as_ 1 (q:=ldv) (k:=as_ 2 (q:=mv) (k:=as_ 3 (q:=ixa) (k:=as_ 4 (q:=lel) (k:=as_ 5 (q:=fla) (k:=as_ 6 (q:=ldv) (k:=as_ 7 (q:=mv) (k:=as_ 8 (q:=isb) (k:=as_ 9 (q:=ixa) (k:=as_ 10 (q:=lel) (k:=as_ 11 (q:=ile) (k:=az_ (k:=?_))))))))))))))
  refine qn_ (wi_ (k:=fun h8=>?_) (m:=fun h8=>?_))
  ·exact absurd h8 (a8)
  refine wk_ (bn_ (qn_ (wr_ (e_ mv (k:=e_ iad (k:=e_ asn (k:=on_ (?_))))))))
  refine ln_ (j+1) (k:=?_)
  try dsimp only
  omega
 refine we_ (qe_ (le_ (bh_ (qn_ (ws_ (wr_ (e_ asn (k:=on_ (qn_ (wt_ (rt_ Tryz.results163 (k:=?_))))))))))))
 exact⟨_,hsb,rfl,rfl⟩
theorem Ej {G:cM}{H:cG}{s:SV}{l:List (Nat×SV)}{ps:List Po} [hs:Sl H s ePo l] (hp:lI H l ps) (hok:jI 0 ps) (hsm:fx ps):SC G Tryz.prog 137 [s.val] H (fun v H'=> v= .int .i64 0∧H'=H):=by
 have hpl:=hp.1
 have hpn:=hsm.1
 refine sWk Tryz.func137 Tryz.ntmps137 ?_
 refine go ?_
 refine gk (k:=dn (Nat) (fun y=> y≤l.length) (fun y=> [(3, .int .i64 (((e8 0 (ps.take y):Nat):Int) - 1)),(9, .int .i64 ((y:Nat):Int))]) [(7,_),(8,_)] (fun y=> []) _ (fun y=> l.length - y) (0) (h0:=?_) (k:=?_))
 ·try dsimp only
  exact Yl _
 rintro i hi
 try dsimp only[Yd,Ye]at*
 refine gk (k:=wi_ (k:=fun h1=>?_) (m:=fun h1=>?_))
 ·obtain⟨sp,pos,hli,hpi,hsl⟩:=hp.get (i:=i) (a8)
  generalize (ps.getD i (0, [])).1=d at hli hpi
  obtain⟨hge,hne,hokp⟩:=j4 hok hpi
  have hsmi:=hsm.2 _ (Yj hpi)
  simp only at hge hsmi hne hokp
  refine gk (k:=alc (k:=fun b5=>?_))
  refine go ?_
  refine d2_ rfl (HK hsmi.1 hge hne hokp hsmi.2.1) (k:=gk (k:=wi_ (k:=fun h2=>?_) (m:=fun h2=>?_)))
  ·exact absurd h2 (aj)
  refine wk_ (qn_ (wr_ (e_ fla (k:=e_ ldv (k:=e_ asn (k:=on_ (bn_ (qn_ (wr_ (?_))))))))))
  have hlast:e8 0 (ps.take (i+1))=d+1:=mZ hpi
  rw[show((d:Nat):Int)=((e8 0 (ps.take (i+1)):Nat):Int) - 1 from by rw[hlast];omega]
  refine go ?_
  refine ln_ (i+1) (k:=?_)
  try dsimp only
  omega
 refine gk (k:=rt_ Tryz.results137 (k:=?_))
 exact⟨_,hsb,rfl,rfl⟩
theorem Kd {G:cM}{H:cG}{s:SV}{l:List (Nat×SV)}{ps:List Po} [hs:Sl H s ePo l] (hp:lI H l ps) (hm:ps.length≤100000000) (ht:dx ps≤1000000000000):SC G Tryz.prog 166 [s.val] H (fun v H'=> v= .int .i64 ((dx ps:Nat):Int)∧H'=H):=by
 have hpl:=hp.1
 have hT:∀i,dx (ps.take i)≤dx ps:=fun i=> by
  conv=> rhs;rw[←List.take_append_drop i ps,j3]
  omega
 refine sWk Tryz.func166 Tryz.ntmps166 ?_
 refine go ?_
 refine gk (k:=dn (Nat) (fun y=> y≤l.length) (fun y=> [(3, .int .i64 ((dx (ps.take y):Nat):Int)),(8, .int .i64 ((y:Nat):Int))]) [(6,_),(7,_)] (fun y=> []) _ (fun y=> l.length - y) (0) (h0:=?_) (k:=?_))
 ·try dsimp only
  exact Yl _
 rintro i hi
 try dsimp only[Yd,Ye]at*
 refine gk (k:=wi_ (k:=fun h1=>?_) (m:=fun h1=>?_))
 ·obtain⟨sp,pos,hli,hpi,hsl⟩:=hp.get (i:=i) (a8)
  generalize (ps.getD i (0, [])).1=d at hli hpi
  have hposl:=dX pos
  have htk:=oe hpi
  have hTi:=hT (i+1)
  simp only at htk
  refine gk (k:=alc (k:=fun b5=>?_))
  refine sto (k:=on_ (qn_ (wr_ (e_ mv (k:=e_ fla (k:=e_ ldv (k:=e_ lnn (k:=e_ iad (k:=e_ asn (k:=on_ (bn_ (qn_ (wr_ (?_))))))))))))))
  rw[show((dx (ps.take i):Nat):Int)+(((dg pos).length:Nat):Int)=((dx (ps.take (i+1)):Nat):Int)from a8]
  refine go ?_
  refine ln_ (i+1) (k:=?_)
  try dsimp only
  omega
 obtain rfl:i=l.length:=a8
 rw[show ps.take l.length=ps from bT]
 refine gk (k:=rt_ Tryz.results166 (k:=?_))
 exact⟨_,hsb,rfl,rfl⟩
theorem pZ {G:cM}{H:cG}(x:Nat) (hx:x<9223372036854775808):SC G Tryz.prog 165 [.int .i64 ((x:Nat):Int)] H (fun v H'=> ∃s':SV,v=s'.val∧H'=Row s' eB (uv x)::H):=by
 refine sWk Tryz.func165 Tryz.ntmps165 ?_
 refine ws_ (wr_ (e_ asn (k:=on_ (qn_ (ws_ (wr_ (e_ mv (k:=?_))))))))
 refine e_ (cS 18446744073709551616 rfl rfl rfl x rfl (a8)) (k:=?_)
 refine c1_ rfl (mT x (a8)) (k:=?_)
 rintro _ _ ⟨s5,rfl,rfl⟩
 refine gk (k:=rt_ Tryz.results165 (k:=?_))
 exact⟨_,hsb,s5,rfl,rfl⟩
theorem El {G:cM}{H:cG}{s:SV}{l:List (Nat×SV)}{ps:List Po}{nb:Nat} [hs:Sl H s ePo l] (hp:lI H l ps) (hok:jI nb ps) (hsm:fx ps) (hn:ps.length≤16) (hnb:nb≤1000001):SC G Tryz.prog 164 [s.val, .int .i64 (((nb:Nat):Int) - 1)] H (fun v H'=> ∃s':SV,v=s'.val∧H'=Row s' eB (o5 nb ps)::H):=by
 have hpl:=hp.1
 have hgl:=gP ps nb
 have hfl:(iQ ps).length=ps.length:=by rw[iQ,Yh]
 have hT:∀i,dx (ps.take i)≤1600000000:=fun i=> by
  have:=wh (pR hsm i)
  rw[Yg]at this;omega
 refine sWk Tryz.func164 Tryz.ntmps164 ?_
 refine go ?_
 refine s_ (cZ eI rfl) (k:=?_)
 rintro _ _ ⟨s17,rfl,rfl⟩
 refine go ?_
 refine s_ (cZ eI rfl) (k:=?_)
 rintro _ _ ⟨s18,rfl,rfl⟩
 refine go ?_
 refine s_ (cZ eB rfl) (k:=?_)
 rintro _ _ ⟨s19,rfl,rfl⟩
 refine e_ asn (k:=on_ (qn_ (ws_ (ws_ (wr_ (?_))))))
 rw[show Row s17 eI ([]:List Int)=Row s17 eI (dg ((gB nb ps).take 0))from rfl,show Row s18 eI ([]:List Int)=Row s18 eI (dg ((iQ ps).take 0))from rfl,show Row s19 eB ([]:List Nat)=Row s19 eB (fD (ps.take 0))from rfl]
 refine gk (k:=dn (Nat×SV×SV×SV) (fun y=> y.1≤l.length) (fun y=> [(1, .int .i64 (((e8 nb (ps.take y.1):Nat):Int) - 1)),(5,y.2.1.val),(6,y.2.2.1.val),(7,y.2.2.2.val),(22, .int .i64 ((y.1:Nat):Int))]) [(20,_),(21,_)] (fun y=> [Row y.2.1 eI (dg ((gB nb ps).take y.1)),Row y.2.2.1 eI (dg ((iQ ps).take y.1)),Row y.2.2.2 eB (fD (ps.take y.1))]) _ (fun y=> l.length - y.1) ((0,s17,s18,s19)) (h0:=?_) (k:=?_))
 ·try dsimp only
  exact Yl _
 rintro⟨i,g,f,u⟩ hi
 try dsimp only[Yd,Ye]at*
 refine gk (k:=wi_ (k:=fun h1=>?_) (m:=fun h1=>?_))
 ·obtain⟨sp,pos,hli,hpi,hsl⟩:=hp.get (i:=i) (a8)
  generalize (ps.getD i (0, [])).1=d at hli hpi
  obtain⟨hge,hne,hokp⟩:=j4 hok hpi
  have hpos:0<pos.length:=List.length_pos_iff.2 hne
  have hsmi:=hsm.2 _ (Yj hpi)
  simp only at hge hsmi hokp
  have hposl:=dX pos
  have hTi:=hT i
  have htl:=l7 (l:=ps.take i) (fun p hp=> (hsm.2 p (Yq hp)).2.2)
  have hg1:=lQ (f:=fun n:Nat=> (n:Int)) (ru (nb:=nb) hpi)
  have hf1:=lQ (f:=fun n:Nat=> (n:Int)) (show(iQ ps)[i]? =some (pos.length - 1)from by rw[iQ,Xd,hpi];all_goals rfl)
  have hl1:(dg ((gB nb ps).take i)).length≤16:=by rw[dX,Yg];omega
  have hl2:(dg ((iQ ps).take i)).length≤16:=by rw[dX,Yg];omega
  refine gk (k:=alc (k:=fun b9=>?_))
  refine sto (k:=on_ (qn_ (ws_ (wr_ (e_ mv (k:=e_ fla (k:=e_ ldv (k:=e_ mv (k:=e_ isb (k:=?_))))))))))
  refine e_ (evq isb (congrArg (Value.int .i64) (show _=((d - e8 nb (ps.take i):Nat):Int)from a8))) (k:=?_)
  refine dD eI (k:=fun s32=>?_)
  refine app (k:=fun s33=>?_)
  rw[show dg ((gB nb ps).take i)++ [((d - e8 nb (ps.take i):Nat):Int)]=dg ((gB nb ps).take (i+1))from hg1.symm]
  refine e_ asn (k:=on_ (qn_ (ws_ (wr_ (e_ mv (k:=e_ fla (k:=e_ ldv (k:=e_ lnn (k:=?_)))))))))
  refine e_ (evq isb (congrArg (Value.int .i64) (show _=((pos.length - 1:Nat):Int)from a8))) (k:=?_)
  refine dD eI (k:=fun s39=>?_)
  refine app (k:=fun s40=>?_)
  rw[show dg ((iQ ps).take i)++ [((pos.length - 1:Nat):Int)]=dg ((iQ ps).take (i+1))from hf1.symm]
  refine e_ asn (k:=on_ (qn_ (ws_ (wr_ (e_ fla (k:=e_ ldv (k:=e_ asn (k:=on_ (qn_ (ws_ (wr_ (e_ asn (k:=on_ (?_))))))))))))))
  refine qn_ (ws_ (wr_ (e_ fla (k:=e_ ldv (k:=e_ lnn (k:=?_))))))
  rw[show Row u eB (fD (ps.take i))=Row u eB (fD (ps.take i)++iU 0 (pos.take 0))from by simp[iU]]
  refine gk (k:=dn (Nat×SV) (fun y=> y.1≤pos.length) (fun y=> [(7,y.2.val),(10, .int .i64 (((if y.1=0 then 0 else pos.getD (y.1 - 1) 0+1:Nat):Int) - 1)),(46, .int .i64 ((y.1:Nat):Int))]) [(1,_),(5,_),(6,_),(20,_),(21,_),(22,_),(44,_),(45,_)] (fun y=> [Row y.2 eB (fD (ps.take i)++iU 0 (pos.take y.1))]) _ (fun y=> pos.length - y.1) ((0,u)) (h0:=?_) (k:=?_))
  ·try dsimp only
   exact Yl _
  rintro⟨j,u⟩ hj
  try dsimp only[Yd,Ye]at*
  refine gk (k:=wi_ (k:=fun h2=>?_) (m:=fun h2=>?_))
  ·obtain⟨x,hx⟩:∃x,pos[j]? =some x:=⟨_,Yi (a8)⟩
   have hxi:=eE hx
   have hxl:=hsmi.2.2 x (Yj hx)
   have hge2:=mw hokp hx
   have hstp:=pe (nb:=0) hx
   have htl2:=og (l:=pos.take j) (nb:=0) (fun y hy=> hsmi.2.2 y (Yq hy))
   rw[Yg]at htl2
   have hnx:((x:Nat):Int)=((if j+1=0 then 0 else pos.getD (j+1 - 1) 0+1:Nat):Int) - 1:=by
    rw[if_neg (a8),Nat.add_sub_cancel,List.getD_eq_getElem?_getD,hx,Option.getD_some];omega
   generalize hnb2:(if j=0 then 0 else pos.getD (j - 1) 0+1)=nb2 at hge2 hstp
   have hu:=dM (n:=x - nb2) (k:=6) (a8) (a8)
   refine wk_ (qn_ (ws_ (wb_ (ws_ (wr_ (e_ ixa (k:=e_ lel (k:=e_ asn (k:=on_ (qn_ (ws_ (wr_ (e_ mv (k:=?_))))))))))))))
   refine e_ mv (k:=e_ mv (k:=e_ isb (k:=?_)))
   refine e_ (evq isb (congrArg (Value.int .i64) (show _=((x - nb2:Nat):Int)from a8))) (k:=?_)
   refine c1_ rfl (pZ _ (a8)) (k:=?_)
   rintro _ _ ⟨s55,rfl,rfl⟩
   refine app (k:=fun s56=>?_)
   rw[Yf,←hstp]
   refine e_ asn (k:=on_ (qn_ (wr_ (e_ mv (k:=e_ asn (k:=on_ (bn_ (qn_ (wr_ (?_))))))))))
   rw[hnx]
   refine go ?_
   refine ln_ ((j+1,s56)) (k:=?_)
   try dsimp only
   omega
  obtain rfl:j=pos.length:=a8
  rw[List.take_length,show fD (ps.take i)++iU 0 pos=fD (ps.take (i+1))from(rO hpi).symm]
  have hlast:e8 nb (ps.take (i+1))=d+1:=mZ hpi
  rw[show((d:Nat):Int)=((e8 nb (ps.take (i+1)):Nat):Int) - 1 from by rw[hlast];omega]
  refine go ?_
  refine ln_ ((i+1,s33,s40,u)) (k:=?_)
  try dsimp only
  omega
 obtain rfl:i=l.length:=a8
 rw[show(gB nb ps).take l.length=gB nb ps from by rw[hpl,←hgl,List.take_length],show(iQ ps).take l.length=iQ ps from by rw[hpl,←hfl,List.take_length],show ps.take l.length=ps from bT]
 have hg9:∀x∈gB nb ps,x<1099511627776:=fun x hx=> aU
 have hf9:∀x∈iQ ps,x<1099511627776:=fun x hx=> bN
 have hr1:=gl hg9 (a8)
 have hr2:=gl hf9 (a8)
 have htl:=l7 (l:=ps) (fun p hp=> (hsm.2 p hp).2.2)
 have hT0:=hT 16
 rw[List.take_of_length_le (a8)]at hT0
 refine go ?_
 refine c1_ rfl (pt (a8) hg9 (fun _=> a8)) (k:=?_)
 rintro _ _ ⟨s62,rfl,rfl⟩
 refine go ?_
 refine c1_ rfl (pt (a8) hf9 (fun _=> a8)) (k:=?_)
 rintro _ _ ⟨s67,rfl,rfl⟩
 refine gk (k:=app (k:=fun s72=>?_))
 refine gk (k:=app (k:=fun s75=>?_))
 refine gk (k:=rt_ Tryz.results164 (k:=?_))
 exact⟨_,hsb,s75,rfl,rfl⟩
def eSk:Enc (Nat×Nat×Nat×Nat):=⟨fun p=> [.int .i64 ((p.1:Nat):Int), .int .i64 ((p.2.1:Nat):Int), .int .i64 ((p.2.2.1:Nat):Int), .int .i64 ((p.2.2.2:Nat):Int)],4,true,fun _=> rfl,fun p v h=> by simp at h;rcases h with rfl|rfl|rfl|rfl <;> rfl,ag,fun h=> aR,ag⟩
instance {p:Nat×Nat×Nat×Nat}:kK eSk p (.agg [.int .i64 ((p.1:Nat):Int), .int .i64 ((p.2.1:Nat):Int), .int .i64 ((p.2.2.1:Nat):Int), .int .i64 ((p.2.2.2:Nat):Int)].toArray):=⟨rfl⟩
instance {a b c d:Nat}:fH eSk (.agg [.int .i64 ((a:Nat):Int), .int .i64 ((b:Nat):Int), .int .i64 ((c:Nat):Int), .int .i64 ((d:Nat):Int)].toArray) (a,b,c,d):=⟨rfl⟩
def skP (ps:List Po) (j:Nat):Nat×Nat×Nat×Nat:=((cU ps (j+1)).1 - 1,(dN ps j).length,(cU ps j).2.2.length,(o5 (cU ps j).1 (dN ps j)).length)
def r8 (ps:List Po) (k:Nat):List (Nat×Nat×Nat×Nat):=(List.range k).map (skP ps)
theorem Cc (ps:List Po) (k:Nat):r8 ps (k+1)=r8 ps k++ [skP ps k]:=by simp[r8,List.range_succ]
theorem xK (ps:List Po) (k:Nat):(r8 ps k).length=k:=by simp[r8]
theorem w4 {ps:List Po}(hok:jI 0 ps) (hsm:fx ps) {k:Nat}(hlt:16*k<ps.length):∃q,(dN ps k).getLast? =some q∧(dN ps k)[(dN ps k).length - 1]? =some q∧(cU ps (k+1)).1=q.1+1∧(cU ps k).1≤q.1∧q.1≤1000000∧ps[min (16*k+16) ps.length - 1]? =some q:=by
 have hblen:=kc ps k
 have hbs:=l6 hsm k
 obtain⟨q,hq⟩:∃q,(dN ps k).getLast? =some q:=by
  rcases List.eq_nil_or_concat (dN ps k)with h|⟨c,q,h⟩
  ·rw[h]at hblen;simp at hblen;omega
  ·exact⟨q,by rw[h];simp⟩
 have hq2:(dN ps k)[(dN ps k).length - 1]? =some q:=by rw[←List.getLast?_eq_getElem?];exact hq
 refine⟨q,hq,hq2,?_,wG (mH hok k) q (List.mem_of_getLast? hq),(hbs.2 q (List.mem_of_getLast? hq)).1,?_⟩
 ·show e8 (cU ps k).1 (dN ps k)=_
  rw[e8,hq]
 ·rw[dN,Xh,List.getElem?_take,if_pos (by rw[←dN,hblen];omega)]at hq2
  rw[←hq2];congr 1;rw[←dN,hblen];omega
theorem Kg {G:cM}{H:cG}{s:SV}{l:List (Nat×SV)}{ps:List Po} [hs:Sl H s ePo l] (hp:lI H l ps) (hok:jI 0 ps) (hsm:fx ps) (ht:dx ps≤1000000000):SC G Tryz.prog 138 [s.val] H (fun v H'=> ∃g u:SV,v= .tuple #[g.val,u.val]∧H'=Row g eSk (r8 ps (et ps))::Row u eB (cU ps (et ps)).2.2::H):=by
 have hpl:=hp.1
 have hpn:=hsm.1
 have hST:=jU hsm
 have hbk:16*et ps≤ps.length+15:=bG
 have hT:∀i,dx (ps.take i)≤dx ps:=fun i=> by
  conv=> rhs;rw[←List.take_append_drop i ps,j3]
  omega
 refine sWk Tryz.func138 Tryz.ntmps138 ?_
 refine go ?_
 refine s_ (cZ eSk rfl) (k:=?_)
 rintro _ _ ⟨s10,rfl,rfl⟩
 refine go ?_
 refine s_ (cZ eB rfl) (k:=?_)
 rintro _ _ ⟨s11,rfl,rfl⟩
 refine e_ asn (k:=on_ (qn_ (ws_ (wr_ (?_)))))
 rw[show Row s10 eSk ([]:List (Nat×Nat×Nat×Nat))=Row s10 eSk (r8 ps 0)from rfl,show Row s11 eB ([]:List Nat)=Row s11 eB (cU ps 0).2.2 from rfl]
 refine gk (k:=dn (Nat×SV×SV) (fun y=> y.1≤et ps) (fun y=> [(4,y.2.1.val),(5,y.2.2.val),(6, .int .i64 ((((cU ps y.1).1:Nat):Int) - 1)),(7, .int .i64 ((16*y.1:Nat):Int))]) [(0,_)] (fun y=> [Row y.2.1 eSk (r8 ps y.1),Row y.2.2 eB (cU ps y.1).2.2]) _ (fun y=> et ps - y.1) ((0,s10,s11)) (h0:=?_) (k:=?_))
 ·try dsimp only
  exact Yl _
 rintro⟨k,g,u⟩ hk
 try dsimp only[Yd,Ye]at*
 refine gk (k:=wi_ (k:=fun h1=>?_) (m:=fun h1=>?_))
 ·have hlt:16*k<ps.length:=by omega
  have hkb:k<et ps:=bG
  obtain⟨hS1,hS2,hS3⟩:=hST k
  have htk:=hT (16*k)
  have hlk:(ps.take (16*k)).length≤ps.length:=ax
  have hblen:=kc ps k
  have hbs:=l6 hsm k
  have hbT:dx (dN ps k)≤dx ps:=by
   have:=hT (16*(k+1))
   rw[←k9,j3]at this;omega
  have hbl:=o4 (nb:=(cU ps k).1) hbs
  have hcut:=hp.cut (16*k) (16*k+16)
  rw[show(ps.take (16*k+16)).drop (16*k)=dN ps k from rfl]at hcut
  have hcl:=hcut.1
  obtain⟨q,hq,hq2,hqn,hqge,hqs,hqi⟩:=w4 hok hsm hlt
  obtain⟨pl,hpl2⟩:∃p,l[min (16*k+16) l.length - 1]? =some p:=⟨_,Yi (a8)⟩
  have hpq:=(hp.2 _ _ _ hpl2 (by rw[hpl];exact hqi)).1
  have hsl:=xK ps k
  have hsk:=Cc ps k
  refine wk_ (qn_ (ws_ (wb_ (ws_ (wr_ (e_ mv (k:=e_ iad (k:=e_ mv (k:=e_ lnn (k:=?_))))))))))
  refine e_ (uD rfl rfl) (k:=?_)
  refine go ?_
  refine iP H rfl (16*k) (min (16*k+16) l.length) ⟨_,_,rfl,(aG)⟩ ⟨_,_,rfl,(aG)⟩ (a8) (aE) rfl (fun sb ib=>?_)
  rw[tr]at ib
  refine go ?_
  refine c2_ rfl (El hcut.tail.tail (mH hok k) hbs (a8) (a8)) (k:=?_)
  rintro _ _ ⟨s28,rfl,rfl⟩
  refine e_ asn (k:=on_ (qn_ (ws_ (wr_ (e_ mv (k:=e_ mv (k:=e_ isb (k:=e_ (ixa (i:=min (16*k+16) l.length - 1) (hj:=by omega)) (k:=e_ fle (k:=e_ lfl (k:=?_)))))))))))
  refine e_ (asv rfl (show _=Value.int .i64 ((((cU ps (k+1)).1 - 1:Nat):Int))from congrArg (Value.int .i64) (a8))) (k:=?_)
  refine on_ (qn_ (ws_ (wr_ (e_ mv (k:=e_ mv (k:=e_ mv (k:=e_ mv (k:=?_))))))))
  refine e_ (evq isb (congrArg (Value.int .i64) (show _=(((dN ps k).length:Nat):Int)from a8))) (k:=?_)
  refine e_ mv (k:=e_ lnn (k:=e_ mv (k:=e_ lnn (k:=e_ (bld [(0,_),(1,_),(2,_),(3,_)]) (k:=dD eSk (k:=fun s45=>?_))))))
  refine app (k:=fun s46=>?_)
  rw[show r8 ps k++ [((cU ps (k+1)).1 - 1,(dN ps k).length,(cU ps k).2.2.length,(o5 (cU ps k).1 (dN ps k)).length)]=r8 ps (k+1)from hsk.symm]
  refine gk (k:=app (k:=fun s49=>?_))
  refine e_ asn (k:=on_ (bn_ (qn_ (wr_ (?_)))))
  rw[show(cU ps k).2.2++o5 (cU ps k).1 (dN ps k)=(cU ps (k+1)).2.2 from rfl,show(((cU ps (k+1)).1 - 1:Nat):Int)=(((cU ps (k+1)).1:Nat):Int) - 1 from a8,show((16*k:Nat):Int)+16=((16*(k+1):Nat):Int)from a8]
  refine go ?_
  refine ln_ ((k+1,s46,s49)) (k:=?_)
  try dsimp only
  omega
 obtain rfl:k=et ps:=by unfold et at*;omega
 refine go ?_
 refine rt_ Tryz.results138 (k:=?_)
 exact⟨_,hsb,g,u,rfl,rfl⟩
theorem M8 {G:cM}{H:cG}{s g:SV}{l:List (Nat×SV)}{ps:List Po} [hs:Sl H s ePo l] [hg:Sl H g eSk (r8 ps (et ps))] (hp:lI H l ps) (hok:jI 0 ps) (hsm:fx ps) (ht:dx ps≤1000000000):SC G Tryz.prog 139 [s.val,g.val] H (fun v H'=> ∃s':SV,v=s'.val∧H'=Row s' eB (uv ps.length++uv (dx ps)++(cU ps (et ps)).2.1)::H):=by
 have hpl:=hp.1
 have hpn:=hsm.1
 have hST:=jU hsm
 have hbk:16*et ps≤ps.length+15:=bG
 have hsl:=xK ps (et ps)
 have hT:∀i,dx (ps.take i)≤dx ps:=fun i=> by
  conv=> rhs;rw[←List.take_append_drop i ps,j3]
  omega
 have hu1:=dM (n:=ps.length) (k:=6) (a8) (a8)
 have hu2:=dM (n:=dx ps) (k:=6) (a8) (a8)
 refine sWk Tryz.func139 Tryz.ntmps139 ?_
 refine go ?_
 refine c1_ rfl (pZ _ (a8)) (k:=?_)
 rintro _ _ ⟨s11,rfl,rfl⟩
 rw[hpl]
 refine go ?_
 refine d1_ rfl (Kd hp.tail (a8) (a8)) (k:=?_)
 refine c1_ rfl (pZ _ (a8)) (k:=?_)
 rintro _ _ ⟨s14,rfl,rfl⟩
 refine app (k:=fun s15=>?_)
 rw[show Row s15 eB (uv ps.length++uv (dx ps))=Row s15 eB (uv ps.length++uv (dx ps)++(cU ps 0).2.1)from by simp[cU]]
 refine go ?_
 refine gk (k:=dn (Nat×SV) (fun y=> y.1≤et ps) (fun y=> [(5,y.2.val),(6, .int .i64 ((((cU ps y.1).1:Nat):Int) - 1)),(18, .int .i64 ((y.1:Nat):Int))]) [(16,_),(17,_)] (fun y=> [Row y.2 eB (uv ps.length++uv (dx ps)++(cU ps y.1).2.1)]) _ (fun y=> et ps - y.1) ((0,s15)) (h0:=?_) (k:=?_))
 ·try dsimp only
  exact Yl _
 rintro⟨k,u⟩ hk
 try dsimp only[Yd,Ye]at*
 refine gk (k:=wi_ (k:=fun h1=>?_) (m:=fun h1=>?_))
 ·have hlt:16*k<ps.length:=by omega
  obtain⟨hS1,hS2,hS3⟩:=hST k
  have hbs:=l6 hsm k
  have hbT:dx (dN ps k)≤dx ps:=by
   have:=hT (16*(k+1))
   rw[←k9,j3]at this;omega
  have hblen:=kc ps k
  have hbl:=o4 (nb:=(cU ps k).1) hbs
  obtain⟨q,hq,hq2,hqn,hqge,hqs,hqi⟩:=w4 hok hsm hlt
  have hski:(r8 ps (et ps))[k]? =some (skP ps k):=by rw[r8,Xd,List.getElem?_range (a8)];all_goals rfl
  have hn1:=dM (n:=(cU ps (k+1)).1 - 1 - (cU ps k).1) (k:=6) (a8) (a8)
  have hn2:=dM (n:=(o5 (cU ps k).1 (dN ps k)).length) (k:=6) (a8) (a8)
  rw[skP]at hski
  refine gk (k:=alc (k:=fun b8=>?_))
  refine sto (k:=on_ (qn_ (ws_ (wr_ (e_ mv (k:=e_ fla (k:=e_ ldv (k:=e_ mv (k:=e_ isb (k:=?_))))))))))
  refine e_ (evq isb (congrArg (Value.int .i64) (show _=(((cU ps (k+1)).1 - 1 - (cU ps k).1:Nat):Int)from a8))) (k:=?_)
  refine c1_ rfl (pZ _ (a8)) (k:=?_)
  rintro _ _ ⟨s28,rfl,rfl⟩
  refine app (k:=fun s29=>?_)
  refine go ?_
  refine c1_ rfl (pZ (o5 (cU ps k).1 (dN ps k)).length (a8)) (k:=?_)
  rintro _ _ ⟨s33,rfl,rfl⟩
  refine app (k:=fun s34=>?_)
  refine e_ asn (k:=on_ (qn_ (wr_ (e_ fla (k:=e_ ldv (k:=e_ asn (k:=on_ (bn_ (qn_ (wr_ (?_)))))))))))
  rw[show uv ps.length++uv (dx ps)++(cU ps k).2.1++uv ((cU ps (k+1)).1 - 1 - (cU ps k).1)++uv (o5 (cU ps k).1 (dN ps k)).length=uv ps.length++uv (dx ps)++(cU ps (k+1)).2.1 from by simp[cU],show(((cU ps (k+1)).1 - 1:Nat):Int)=(((cU ps (k+1)).1:Nat):Int) - 1 from a8]
  refine go ?_
  refine ln_ ((k+1,s34)) (k:=?_)
  try dsimp only
  omega
 obtain rfl:k=et ps:=a8
 refine gk (k:=rt_ Tryz.results139 (k:=?_))
 exact⟨_,hsb,u,rfl,rfl⟩
theorem Kk {G:cM}{H:cG}{s:SV}{l:List (Nat×SV)}{ps:List Po} [hs:Sl H s ePo l] (hp:lI H l ps) (hok:jI 0 ps) (hsm:fx ps) (ht:dx ps≤1000000000):SC G Tryz.prog 107 [s.val] H (fun v H'=> ∃s':SV,v= .tuple #[s'.val, .int .i64 0]∧H'=Row s' eB (j7 ps)::H):=by
 have hpn:=hsm.1
 obtain⟨hS1,hS2,hS3⟩:=jU hsm (et ps)
 rw[pF]at hS2
 have hbk:16*et ps≤ps.length+15:=bG
 have hu1:=dM (n:=ps.length) (k:=6) (a8) (a8)
 have hu2:=dM (n:=dx ps) (k:=6) (a8) (a8)
 refine sWk Tryz.func107 Tryz.ntmps107 ?_
 refine go ?_
 refine d1_ rfl (Ej hp hok hsm) (k:=gk (k:=wi_ (k:=fun h1=>?_) (m:=fun h1=>?_)))
 ·exact absurd h1 (aj)
 refine go ?_
 refine c1_ rfl (Kg hp hok hsm ht) (k:=?_)
 rintro _ _ ⟨g,u,rfl,rfl⟩
 refine go ?_
 refine c2_ rfl (M8 hp.tail.tail hok hsm ht) (k:=?_)
 rintro _ _ ⟨s19,rfl,rfl⟩
 refine gk (k:=app (k:=fun s21=>?_))
 refine gk (k:=rt_ Tryz.results107 (k:=?_))
 exact⟨Row s21 eB (j7 ps)::H,by rw[j7];exact hsb,s21,rfl,rfl⟩
def eEn:Enc En:=⟨fun e=> [.string e.key, .int .i64 ((e.docs:Nat):Int), .int .i64 ((e.tot:Nat):Int), .int .i64 ((e.at_:Nat):Int), .int .i64 ((e.size:Nat):Int)],5,true,fun _=> rfl,fun p v h=> by simp at h;rcases h with rfl|rfl|rfl|rfl|rfl <;> rfl,ag,fun h=> aR,ag⟩
instance {e:En}:kK eEn e (.agg [.string e.key, .int .i64 ((e.docs:Nat):Int), .int .i64 ((e.tot:Nat):Int), .int .i64 ((e.at_:Nat):Int), .int .i64 ((e.size:Nat):Int)].toArray):=⟨rfl⟩
instance {s:ByteArray}{a b c d:Nat}:fH eEn (.agg [.string s, .int .i64 ((a:Nat):Int), .int .i64 ((b:Nat):Int), .int .i64 ((c:Nat):Int), .int .i64 ((d:Nat):Int)].toArray) ⟨s,a,b,c,d⟩:=⟨rfl⟩
def iw (e:En):List Nat:= [e.docs,e.tot,e.at_,e.size]
def EO (e:En):List Value:=(iw e).map fun n=> Value.int .i64 ((n:Nat):Int)
theorem vD {e:En}{i x:Nat}(h:(iw e)[i]? =some x):(EO e)[i]? =some (.int .i64 ((x:Nat):Int)):=by rw[EO,Xd,h];all_goals rfl
theorem Jc {G:cM}{H:cG}{s:ByteArray}{a b c d:Nat}:SC G Tryz.prog 200 [.agg [.string s, .int .i64 ((a:Nat):Int), .int .i64 ((b:Nat):Int), .int .i64 ((c:Nat):Int), .int .i64 ((d:Nat):Int)].toArray] H (fun v H'=> v= .agg (EO ⟨s,a,b,c,d⟩).toArray∧H'=H):=by
 refine sWk Tryz.func200 Tryz.ntmps200 ?_
 refine gk (k:=bxx (k:=fun b1=>?_))
 refine alc (k:=fun b2=>?_)
 refine on_ (qn_ (ws_ (wr_ (e_ fla (k:=e_ ldv (k:=e_ fla (k:=e_ ldv (k:=e_ fla (k:=e_ ldv (k:=e_ fla (k:=e_ ldv (k:=?_))))))))))))
 refine e_ (CS [.int .i64 ((a:Nat):Int), .int .i64 ((b:Nat):Int), .int .i64 ((c:Nat):Int), .int .i64 ((d:Nat):Int)] rfl rfl) (k:=?_)
 refine gk (k:=rt_ Tryz.results200 (k:=?_))
 exact⟨_,hsb,rfl,rfl⟩
theorem AS {G:cM}{H:cG}{a b:ByteArray}(ha:a.size≤1000000000000) (hb:b.size≤1000000000000):SC G Tryz.prog 209 [.string a, .string b] H (fun v H'=> v= .int .i64 ((dC (cF a) (cF b):Nat):Int)∧H'=H):=by
 have hal:=cJ a
 have hbl:=cJ b
 refine sWk Tryz.func209 Tryz.ntmps209 ?_
 refine gk (k:=dn (Nat) (fun y=> y≤a.size∧y≤b.size∧∀j,j<y→at0 (cF a) j=at0 (cF b) j) (fun y=> [(5, .int .i64 ((y:Nat):Int))]) [(0,_),(1,_)] (fun y=> []) _ (fun y=> a.size - y) (0) (h0:=?_) (k:=?_))
 ·try dsimp only
  exact⟨Yl _,Yl _,fun j h=> a8⟩
 rintro k ⟨hk1,hk2,hkj⟩
 try dsimp only[Yd,Ye]at*
 refine go ?_
 refine cW cL (as_ 0 (q:=mv) (k:=as_ 1 (q:=mv) (k:=as_ 2 (q:=jA) (k:=as_ 3 (q:=ilt) (k:=?_)))))
 refine gp 4 rfl rfl (aa) rfl (du (mv)) (fun h1=> ?_) (fun h1=> ?_)
 ·replace h1:=nrm h1
  refine at2 5 (q:=mv) (k:=at2 6 (q:=mv) (k:=at2 7 (q:=jA) (k:=at2 8 (q:=ilt) (k:=as_ 9 (q:=pkt) (k:=?_)))))
  refine gp 10 rfl rfl (aa) rfl (du (mv)) (fun h2=> ?_) (fun h2=> ?_)
  ·replace h2:=nrm h2
   refine at2 11 (q:=mv) (k:=at2 12 (q:=mv) (k:=at2 13 (q:=ixs) (k:=at2 14 (q:=mv) (k:=at2 15 (q:=mv) (k:=at2 16 (q:=ixs) (k:=at2 17 (q:=ieq) (k:=as_ 18 (q:=pkt) (k:=az_ (k:=gk (k:=wi_ (k:=fun h3=>?_) (m:=fun h3=>?_)))))))))))
   ·have hnx:∀j,j<k+1→at0 (cF a) j=at0 (cF b) j:=fun j hj=> by
     by_cases h9:j<k
     ·exact hkj j h9
     ·obtain rfl:j=k:=by omega
      omega
    refine go ?_
    refine ln_ (k+1) (k:=?_)
    try dsimp only
    exact⟨a8,a8,hnx⟩
   have hend:k=(cF a).length∨k=(cF b).length∨at0 (cF a) k≠at0 (cF b) k:= .inr (.inr (a8))
   refine gk (k:=rt_ Tryz.results209 (k:=?_))
   exact⟨_,hsb,aN,rfl⟩
  replace h2:=nrm h2
  have hend:k=(cF a).length∨k=(cF b).length∨at0 (cF a) k≠at0 (cF b) k:= .inr (.inl (a8))
  refine ao_ 11 (k:=ao_ 12 (k:=ao_ 13 (k:=ao_ 14 (k:=ao_ 15 (k:=ao_ 16 (k:=ao_ 17 (k:=as_ 18 (q:=pkf) (k:=az_ (k:=gk (k:=dw (k:=go ?_)))))))))))
  refine gk (k:=rt_ Tryz.results209 (k:=?_))
  exact⟨_,hsb,aN,rfl⟩
 replace h1:=nrm h1
 have hend:k=(cF a).length∨k=(cF b).length∨at0 (cF a) k≠at0 (cF b) k:= .inl (a8)
 refine ao_ 5 (k:=ao_ 6 (k:=ao_ 7 (k:=ao_ 8 (k:=as_ 9 (q:=pkf) (k:=as_ 10 (q:=mv) (k:=ao_ 11 (k:=ao_ 12 (k:=ao_ 13 (k:=ao_ 14 (k:=ao_ 15 (k:=ao_ 16 (k:=ao_ 17 (k:=as_ 18 (q:=pkf) (k:=?_))))))))))))))
 refine az_ (k:=gk (k:=dw (k:=go ?_)))
 refine gk (k:=rt_ Tryz.results209 (k:=?_))
 exact⟨_,hsb,aN,rfl⟩
theorem Hc {G:cM}{H:cG}{s:SV}{l:List En} [hs:Sl H s eEn l] (hl:l.length≤16) (hsm:j8 l):SC G Tryz.prog 201 [s.val] H (fun v H'=> ∃s':SV,v=s'.val∧H'=Row s' eB (dB [] l)::H):=by
 refine sWk Tryz.func201 Tryz.ntmps201 ?_
 refine go ?_
 refine c0_ rfl (fC) (k:=?_)
 rintro _ _ ⟨bw,rfl,rfl⟩
 refine e_ asn (k:=on_ (qn_ (ws_ (wr_ (e_ asn (k:=on_ (qn_ (ws_ (ws_ (wr_ (?_)))))))))))
 rw[show Wr bw []=Wr bw (dB [] (l.take 0))from rfl]
 refine gk (k:=dn (Nat×ByteArray) (fun y=> y.1≤l.length∧cF y.2=jB [] (l.take y.1)∧y.2.size≤1000) (fun y=> [(4, .string y.2),(13, .int .i64 ((y.1:Nat):Int))]) [(3,_),(11,_),(12,_)] (fun y=> [Wr bw (dB [] (l.take y.1))]) _ (fun y=> l.length - y.1) ((0,⟨#[]⟩)) (h0:=?_) (k:=?_))
 ·try dsimp only
  exact⟨Yl _,rfl,Yl _⟩
 rintro⟨i,q⟩ ⟨hi,hq,hqs⟩
 try dsimp only[Yd,Ye]at*
 refine gk (k:=wi_ (k:=fun h1=>?_) (m:=fun h1=>?_))
 ·obtain⟨e,he⟩:∃e,l[i]? =some e:=⟨_,Yi (a8)⟩
  have hse:=hsm e (Yj he)
  have hsh:=jP (cF q) (cF e.key)
  have hbl:=cJ e.key
  have hpl:=jZ (p:= []) (pS hsm i)
  rw[Yg]at hpl
  have hen:=yM (prev:=cF q) hse
  obtain⟨pre,hpre⟩:∃pre,pre=dB [] (l.take i):=⟨_,rfl⟩
  rw[←hpre]
  rw[←hpre]at hpl
  have hu1:=dM (n:=dC (cF q) (cF e.key)) (k:=6) (a8) (a8)
  have hu2:=dM (n:=(cF e.key).length - dC (cF q) (cF e.key)) (k:=6) (a8) (a8)
  refine gk (k:=alc (k:=fun b6=>?_))
  refine go ?_
  refine d2_ rfl (AS (a8) (a8)) (k:=e_ asn (k:=on_ (qn_ (ws_ (wr_ (e_ mv (k:=e_ mv (k:=?_))))))))
  refine e_ ((ae)) (k:=?_)
  refine d2_ rfl (eC _ (a8) (a8)) (k:=on_ (qn_ (ws_ (wr_ (e_ mv (k:=e_ fla (k:=e_ ldv (k:=e_ mv (k:=e_ (zB (a:=dC (cF q) (cF e.key))) (k:=?_))))))))))
  refine d2_ rfl (Dh _ (ah) (by rw[ByteArray.size_extract];omega)) (k:=?_)
  rw[show uv (e.key.extract (dC (cF q) (cF e.key)) e.key.size).size++cF (e.key.extract (dC (cF q) (cF e.key)) e.key.size)=uv ((cF e.key).length - dC (cF q) (cF e.key))++(cF e.key).drop (dC (cF q) (cF e.key))from by rw[oI,ByteArray.size_extract,hbl,Nat.min_self]]
  obtain⟨p2,hp2⟩:∃p2,p2=pre++uv (dC (cF q) (cF e.key))++(uv ((cF e.key).length - dC (cF q) (cF e.key))++(cF e.key).drop (dC (cF q) (cF e.key))):=⟨_,rfl⟩
  have hp2l:p2.length≤pre.length+1100:=by rw[hp2];simp only[Ya,Yo];omega
  rw[←hp2]
  refine go ?_
  refine d1_ rfl (Jc) (k:=?_)
  rw[show Wr bw p2=Wr bw (p2++((iw e).take 0).flatMap uv)from aj]
  refine gk (k:=dn (Nat) (fun y=> y≤4) (fun y=> [(33, .int .i64 ((y:Nat):Int))]) [(3,_),(6,_),(11,_),(12,_),(13,_),(32,_)] (fun y=> [Wr bw (p2++((iw e).take y).flatMap uv)]) _ (fun y=> 4 - y) (0) (h0:=?_) (k:=?_))
  ·try dsimp only
   exact Yl _
  rintro m hm
  try dsimp only[Yd,Ye]at*
  refine gk (k:=wi_ (k:=fun h2=>?_) (m:=fun h2=>?_))
  ·obtain⟨x,hx⟩:∃x,(iw e)[m]? =some x:=⟨_,Yi (by show _<4;omega)⟩
   have hxv:=vD hx
   have hxl:x<1099511627776:=by
    have:=Yj hx
    simp only[iw,List.mem_cons,List.not_mem_nil,or_false]at this
    rcases this with rfl|rfl|rfl|rfl <;> omega
   have hstp:((iw e).take (m+1)).flatMap uv=((iw e).take m).flatMap uv++uv x:=by rw[cP hx];simp
   have hfl:(((iw e).take m).flatMap uv).length≤24:=by
    have h4:∀y∈iw e,(uv y).length≤6:=fun y hy=> by
     simp only[iw,List.mem_cons,List.not_mem_nil,or_false]at hy
     rcases hy with rfl|rfl|rfl|rfl <;> exact dM (a8) (a8)
    have h5:∀z:List Nat,(∀y∈z,(uv y).length≤6)→(z.flatMap uv).length≤6*z.length:=by
     intro z
     induction z with
     |nil=> intro _;simp
     |cons y z ih=> intro hz;have:=ih (fun w hw=> hz w (Xa _ hw));have:=hz y (aj);simp only[List.flatMap_cons,Ya,Yb];omega
    have:=h5 ((iw e).take m) (fun y hy=> h4 y (Yq hy))
    rw[Yg]at this;omega
   refine wk_ (qn_ (ws_ (wb_ (ws_ (wr_ (?_))))))
   refine e_ (vR m rfl rfl rfl (a8) hxv) (k:=?_)
   refine e_ asn (k:=on_ (qn_ (wr_ (e_ mv (k:=e_ mv (k:=?_))))))
   refine e_ ((ae)) (k:=?_)
   refine d2_ rfl (eC x (a8) (ah)) (k:=?_)
   rw[Yf,←hstp]
   refine go ?_
   refine ln_ (m+1) (k:=?_)
   try dsimp only
   omega
  obtain rfl:m=4:=a8
  rw[show p2++((iw e).take 4).flatMap uv=dB [] (l.take (i+1))from by rw[lC he,←hq,m9,hp2,hpre];simp[iw]]
  refine go ?_
  refine go ?_
  refine ln_ ((i+1,e.key)) (k:=?_)
  try dsimp only
  exact⟨a8,(n7 he _).symm,a8⟩
 obtain rfl:i=l.length:=a8
 rw[List.take_length]
 have hpl:=jZ (p:= []) hsm
 refine go ?_
 refine c1_ rfl (iB (a8)) (k:=?_)
 rintro _ _ ⟨s45,rfl,rfl⟩
 refine gk (k:=rt_ Tryz.results201 (k:=?_))
 exact⟨_,hsb,s45,rfl,rfl⟩
theorem LL {G:cM}{H:cG}{s:SV}{l:List En} [hs:Sl H s eEn l] (hl:l.length≤100000000) (hok:uV l):SC G Tryz.prog 180 [s.val] H (fun v H'=> ∃s':SV,v= .tuple #[s'.val, .nilIface]∧H'=Row s' eB (fU l)::H):=by
 have hsm:=pz hok
 have hST:=lE hsm
 have hbk:16*eg l≤l.length+15:=bH
 refine sWk Tryz.func180 Tryz.ntmps180 ?_
 refine go ?_
 refine gk (k:=dn (Nat) (fun y=> y≤l.length) (fun y=> [(15, .int .i64 ((y:Nat):Int))]) [(0,_),(13,_),(14,_)] (fun y=> []) _ (fun y=> l.length - y) (0) (h0:=?_) (k:=?_))
 ·try dsimp only
  exact Yl _
 rintro i hi
 try dsimp only[Yd,Ye]at*
 refine gk (k:=wi_ (k:=fun h1=>?_) (m:=fun h1=>?_))
 ·obtain⟨e,he⟩:∃e,l[i]? =some e:=⟨_,Yi (a8)⟩
  obtain⟨k1,k2,k3,k4,k5,k6⟩:=hok.1 e (Yj he)
  refine gk (k:=alc (k:=fun b5=>?_))
  refine gk (k:=dQ 5 28 (k:=fun h2=>gk (k:=edq)) (q:=go ?_))
  refine wi_ (k:=fun h3=>?_) (m:=fun h3=>?_)
  ·exact absurd h3 (a8)
  refine go ?_
  refine d1_ rfl (Jc) (k:=gk (k:=dn (Nat) (fun y=> y≤4) (fun y=> [(32, .int .i64 ((y:Nat):Int))]) [(0,_),(13,_),(14,_),(15,_),(31,_)] (fun y=> []) _ (fun y=> 4 - y) (0) (h0:=?_) (k:=?_)))
  ·try dsimp only
   exact Yl _
  rintro m hm
  try dsimp only[Yd,Ye]at*
  refine gk (k:=wi_ (k:=fun h4=>?_) (m:=fun h4=>?_))
  ·obtain⟨x,hx⟩:∃x,(iw e)[m]? =some x:=⟨_,Yi (by show _<4;omega)⟩
   have hxv:=vD hx
   have hxl:x≤2147483647:=by
    have:=Yj hx
    simp only[iw,List.mem_cons,List.not_mem_nil,or_false]at this
    rcases this with rfl|rfl|rfl|rfl <;> omega
   refine wk_ (qn_ (ws_ (wb_ (ws_ (wr_ (?_))))))
   refine e_ (vR m rfl rfl rfl (a8) hxv) (k:=?_)
   refine e_ asn (k:=on_ (qn_ (ws_ (wr_ (e_ mv (k:=e_ ilt (k:=e_ mv (k:=dQ 3 40 (k:=fun h5=>eg_ mv (k:=eg_ igt (k:=e_ pkf (k:=on_ (edq))))) (q:=on_ (qn_ (wi_ (k:=fun h6=>?_) (m:=fun h6=>?_))))))))))))
   ·exact absurd h6 (a8)
   refine go ?_
   refine ln_ (m+1) (k:=?_)
   try dsimp only
   omega
  refine go ?_
  refine ln_ (i+1) (k:=?_)
  try dsimp only
  omega
 refine gk (k:=dn (Nat) (fun y=> 1≤y) (fun y=> [(8, .int .i64 ((y:Nat):Int))]) [(0,_)] (fun y=> []) _ (fun y=> l.length - y) (1) (h0:=?_) (k:=?_))
 ·try dsimp only
  exact Nat.le_refl _
 rintro i hi
 try dsimp only[Yd,Ye]at*
 refine gk (k:=wi_ (k:=fun h7=>?_) (m:=fun h7=>?_))
 ·obtain⟨e,he⟩:∃e,l[i]? =some e:=⟨_,Yi (a8)⟩
  obtain⟨d,hd⟩:∃d,l[i - 1]? =some d:=⟨_,Yi (a8)⟩
  have hlt:=hok.2 (i - 1) d e hd (by rw[Nat.sub_add_cancel hi];exact he)
  refine go ?_
  refine cW cL (as_ 0 (q:=mv) (k:=as_ 1 (q:=mv) (k:=as_ 2 (q:=ixa) (k:=as_ 3 (q:=fle) (k:=as_ 4 (q:=lfl) (k:=as_ 5 (q:=mv) (k:=as_ 6 (q:=mv) (k:=as_ 7 (q:=isb) (k:=as_ 8 (q:=ixa) (k:=as_ 9 (q:=fle) (k:=as_ 10 (q:=lfl) (k:=?_))))))))))))
  refine cH 11 rfl rfl (aa) rfl (du (MR)) (?_)
  refine az_ (k:=gk (k:=wi_ (k:=fun h8=>?_) (m:=fun h8=>?_)))
  ·exact absurd hlt h8
  refine go ?_
  refine ln_ (i+1) (k:=?_)
  try dsimp only
  omega
 refine go ?_
 refine c0_ rfl (fC) (k:=?_)
 rintro _ _ ⟨bo,rfl,rfl⟩
 refine e_ asn (k:=on_ (qn_ (ws_ (wr_ (e_ mv (k:=e_ mv (k:=e_ lnn (k:=?_))))))))
 refine e_ ((ae)) (k:=?_)
 refine d2_ rfl (eC l.length (a8) (aj)) (k:=go ?_)
 refine c0_ rfl (fC) (k:=?_)
 rintro _ _ ⟨bb,rfl,rfl⟩
 refine e_ asn (k:=on_ (qn_ (ws_ (ws_ (wr_ (?_))))))
 obtain⟨hd,hhd⟩:∃hd,hd= []++uv l.length:=⟨_,rfl⟩
 have hhl:hd.length≤6:=by rw[hhd];exact dM (a8) (a8)
 rw[←hhd,show Wr bo hd=Wr bo (hd++(dj l 0).1)from by simp[dj],show Wr bb []=Wr bb (dj l 0).2 from rfl]
 refine gk (k:=dn (Nat) (fun y=> y≤eg l) (fun y=> [(11, .int .i64 ((16*y:Nat):Int))]) [(0,_),(9,_),(10,_)] (fun y=> [Wr bo (hd++(dj l y).1),Wr bb (dj l y).2]) _ (fun y=> eg l - y) (0) (h0:=?_) (k:=?_))
 ·try dsimp only
  exact Yl _
 rintro k hk
 try dsimp only[Yd,Ye]at*
 refine gk (k:=wi_ (k:=fun h9=>?_) (m:=fun h9=>?_))
 ·have hlt:16*k<l.length:=by omega
  have hkb:k<eg l:=bH
  obtain⟨hS1,hS2⟩:=hST k
  have hblen:=lG l k
  have hbs:=kt hsm k
  have hbl:=jZ (p:= []) hbs
  have hu:=dM (n:=(dB [] (eJ l k)).length) (k:=6) (a8) (a8)
  refine wk_ (qn_ (ws_ (wb_ (ws_ (wr_ (e_ mv (k:=e_ mv (k:=e_ mv (k:=e_ iad (k:=e_ mv (k:=e_ lnn (k:=?_))))))))))))
  refine e_ (uD rfl rfl) (k:=?_)
  refine iP H rfl (16*k) (min (16*k+16) l.length) ⟨_,_,rfl,(aG)⟩ ⟨_,_,rfl,(aG)⟩ (a8) (aE) rfl (fun sb ib=>?_)
  rw[tr]at ib
  haveI ib2:Sl H sb eEn (eJ l k):=ib
  refine c1_ rfl (Hc (l:=eJ l k) (a8) hbs) (k:=?_)
  rintro _ _ ⟨s84,rfl,rfl⟩
  refine e_ asn (k:=on_ (qn_ (ws_ (wr_ (e_ mv (k:=e_ mv (k:=e_ lnn (k:=?_))))))))
  refine e_ ((ae)) (k:=?_)
  refine d2_ rfl (eC _ (a8) (ah)) (k:=go ?_)
  refine d2_ rfl (zn (a8) (a8)) (k:=on_ (bn_ (qn_ (wr_ (?_)))))
  rw[show hd++(dj l k).1++uv (dB [] (eJ l k)).length=hd++(dj l (k+1)).1 from by simp[dj],show(dj l k).2++dB [] (eJ l k)=(dj l (k+1)).2 from rfl,show((16*k:Nat):Int)+16=((16*(k+1):Nat):Int)from a8]
  refine go ?_
  refine ln_ (k+1) (k:=?_)
  try dsimp only
  omega
 obtain rfl:k=eg l:=by unfold eg at*;omega
 obtain⟨hS1,hS2⟩:=hST (eg l)
 refine go ?_
 refine c1_ rfl (iB (a8)) (k:=?_)
 rintro _ _ ⟨s95,rfl,rfl⟩
 refine d2_ rfl (zn (ah) (a8)) (k:=?_)
 rw[show hd++(dj l (eg l)).1++(dj l (eg l)).2=fU l from by rw[hhd];simp[fU]]
 have hDl:=CW hsm (a8)
 refine go ?_
 refine c1_ rfl (iB (a8)) (k:=?_)
 rintro _ _ ⟨s98,rfl,rfl⟩
 refine gk (k:=rt_ Tryz.results180 (k:=?_))
 exact⟨_,hsb,s98,rfl,rfl⟩
end Go.Sx
