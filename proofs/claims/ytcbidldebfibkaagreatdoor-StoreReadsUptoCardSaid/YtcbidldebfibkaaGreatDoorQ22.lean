import Derived.Test.YtcbidldebfibkaaGreatDoorQ21
set_option linter.unusedVariables false
set_option linter.unusedSimpArgs false
set_option linter.unusedSectionVars false
set_option linter.unnecessarySimpa false
set_option maxHeartbeats 0
namespace Go.Sx
open Go Go.Proofs
set_option maxRecDepth 100000
theorem JP {G:cM}{H:cG}{fv vv:SV}{fs:List FV}{k:Nat}{vs:List (ByteArray×ByteArray)} [hf:Sl H fv eF fs] [hv:Sl H vv eVl vs] [Spc H] (hS:gE G) (hk:k≤1000000) (hfl:fs.length≤1000000) (hn:vs.length≤100000000) (hq:∀v∈vs,v.2.size≤3000000) (hz:vsz vs≤1000000000):SC G Tryz.prog 151 [.agg [fv.val].toArray, .int .i64 (k:Int),vv.val] H (fun v H'=> ∃s:SV,v=s.val∧H'=Row s eT (dF fs k vs)::H):=by
 refine sWk Tryz.func151 Tryz.ntmps151 ?_
 refine ws_ (wr_ (bxx (k:=fun b3=>?_)))
 refine e_ asn (k:=on_ (qn_ (ws_ (ws_ (wr_ (e_ mv (k:=e_ ilt (k:=e_ mv (k:=dQ 6 23 (k:=fun h1=>eg_ mv (k:=eg_ fla (k:=eg_ ldv (k:=eg_ lnn (k:=eg_ ige (k:=e_ pkf (k:=on_ (edq)))))))) (q:=on_ (qn_ (wi_ (k:=fun h2=>?_) (m:=fun h2=>?_)))))))))))))
 ·have hT:dF fs k vs= []:=by rw[dF,List.getElem?_eq_none (a8)]
  refine ws_ (wr_ (e_ asn (k:=on_ (qn_ (wt_ (qr_ (rt_ Tryz.results151 (k:=?_))))))))
  rw[hT]
  exact⟨_,hsb,SV.nil,rfl,rfl⟩
 obtain⟨p,hp⟩:∃p,fs[k]? =some p:=⟨_,Yi (a8)⟩
 have hT:dF fs k vs=(fm p vs vs.length).2:=by rw[dF,hp]
 refine wk_ (qn_ (ws_ (wr_ (e_ fla (k:=e_ ldv (k:=e_ mv (k:=e_ ixa (k:=e_ Mn (k:=alc (k:=fun b7=>?_))))))))))
 refine sto (k:=on_ (qn_ (ws_ (wr_ (e_ asn (k:=on_ (qn_ (ws_ (wr_ (e_ asn (k:=on_ (qn_ (ws_ (?_))))))))))))))
 refine ws_ (wr_ (e_ mv (k:=e_ lnn (k:=e_ mv (k:=on_ (qn_ (wb_ (dn (SV×Nat×Nat×(List Tok)) (fun y=> y.2.1≤vs.length∧fm p vs y.2.1=(y.2.2.1,y.2.2.2)) (fun y=> [(8,y.1.val),(9, .int .i64 ((y.2.2.1:Nat):Int)),(31, .int .i64 ((y.2.1:Nat):Int))]) [(7,_),(29,_),(30,_)] (fun y=> [Row y.1 eT y.2.2.2]) _ (fun y=> vs.length - y.2.1) ((SV.nil,0,0, [])) (h0:=?_) (k:=?_)))))))))
 ·try dsimp only
  exact⟨Yl _,rfl⟩
 rintro⟨s,i,b,out⟩ ⟨hi,hst⟩
 try dsimp only[Yd,Ye]at*
 refine ws_ (wr_ (e_ ilt (k:=on_ (qn_ (ws_ (wi_ (k:=fun h3=>?_) (m:=fun h3=>?_)))))))
 ·obtain⟨v,hvi⟩:∃v,vs[i]? =some v:=⟨_,Yi (a8)⟩
  have hvq:=hq v (Yj hvi)
  have hvl:=cJ v.2
  have hle:=wP p vs i b out hst
  have hzi:=qU vs i
  have hzt:=qU vs (i+1)
  rw[tl hvi]at hzt
  refine wk_ (qn_ (ws_ (wb_ (ws_ (wr_ (e_ mv (k:=e_ ixa (k:=e_ Mn (k:=alc (k:=fun b11=>?_))))))))))
  refine e_ asn (k:=sto (k:=on_ (qn_ (ws_ (ws_ (wr_ (e_ fla (k:=e_ ldv (k:=e_ fla (k:=e_ ldv (k:=e_ zx (k:=on_ (qn_ (?_))))))))))))))
  refine wi_ (k:=fun h4=>?_) (m:=fun h4=>?_)
  ·have hno:=wO hst hvi h4
   refine we_ (qe_ (bh_ (qn_ (wr_ (e_ iad (k:=e_ mv (k:=on_ (?_))))))))
   refine ln_ ((s,i+1,b,out)) (k:=?_)
   try dsimp only
   exact⟨a8,hno⟩
  have hye:=sX hst hvi (by have h:=h4;simpa using h)
  have htl:=pM p (cF v.2)
  refine wk_ (qn_ (ws_ (ws_ (wr_ (e_ lds (k:=e_ fla (k:=e_ ldv (k:=?_))))))))
  refine c2_ rfl (tOf p hS (a8)) (k:=?_)
  rintro _ _ ⟨s44,rfl,rfl⟩
  refine e_ lnn (k:=e_ mv (k:=on_ (qn_ (wb_ (dn (SV×Nat×(List Tok)) (fun y=> y.2.1≤(dY p (cF v.2)).length∧y.2.2=out++((dY p (cF v.2)).take y.2.1).map (sj i b)) (fun y=> [(8,y.1.val),(46, .int .i64 ((y.2.1:Nat):Int))]) [(7,_),(9,_),(10,_),(11,_),(29,_),(30,_),(31,_),(44,_),(45,_)] (fun y=> [Row y.1 eT y.2.2]) _ (fun y=> (dY p (cF v.2)).length - y.2.1) ((s,0,out)) (h0:=?_) (k:=?_))))))
  ·try dsimp only
   exact⟨Yl _,aj⟩
  rintro⟨s2,j,o2⟩ ⟨hj,ho2⟩
  try dsimp only[Yd,Ye]at*
  refine ws_ (wr_ (e_ ilt (k:=on_ (qn_ (ws_ (wi_ (k:=fun h5=>?_) (m:=fun h5=>?_)))))))
  ·obtain⟨t,ht⟩:∃t,(dY p (cF v.2))[j]? =some t:=⟨_,Yi (a8)⟩
   have htp:=xr (Yj ht)
   have hmt:=lQ (f:=sj i b) ht
   have hol:o2.length≤out.length+j:=by rw[ho2,Ya,Yh,Yg];omega
   refine wk_ (qn_ (ws_ (wb_ (ws_ (wr_ (e_ ixa (k:=e_ Mn (k:=alc (k:=fun b13=>?_)))))))))
   refine sto (k:=on_ (qn_ (ws_ (wr_ (e_ mv (k:=e_ fla (k:=sto (k:=on_ (qn_ (ws_ (wr_ (e_ fla (k:=e_ ldv (k:=?_))))))))))))))
   refine e_ mv (k:=?_)
   refine e_ (evq iad (congrArg (Value.int .i64) (show _=((t.pos+b:Nat):Int)from a8))) (k:=?_)
   refine e_ fla (k:=sto (k:=on_ (qn_ (wr_ (e_ mv (k:=e_ lds (k:=dD eT (k:=fun s59=>?_))))))))
   refine app (k:=fun s60=>?_)
   refine e_ asn (k:=on_ (bn_ (qn_ (wr_ (e_ iad (k:=e_ mv (k:=on_ (?_))))))))
   refine ln_ ((s60,j+1,o2++ [sj i b t])) (k:=?_)
   try dsimp only
   exact⟨a8,by rw[hmt,←Yf,←ho2]⟩
  obtain rfl:j=(dY p (cF v.2)).length:=a8
  rw[List.take_length]at ho2
  rw[←ho2]at hye
  have hwl:=tj p (cF v.2)
  refine we_ (qe_ (le_ (bh_ (qn_ (ws_ (wr_ (e_ asn (k:=on_ (qn_ (ws_ (ws_ (wr_ (e_ fla (k:=?_))))))))))))))
  refine e_ ldv (k:=e_ ieq (k:=on_ (qn_ (wi_ (k:=fun h6=>?_) (m:=fun h6=>?_)))))
  ·have hw:fR p (cF v.2)=(fe (cF v.2)).length:=by rw[fR,if_pos (cy)]
   refine wr_ (e_ fla (k:=e_ ldv (k:=?_)))
   refine c1_ rfl (Du (a8)) (k:=?_)
   rintro _ _ ⟨s67,rfl,rfl⟩
   refine e_ lnn (k:=e_ asn (k:=on_ (qn_ (wr_ (e_ mv (k:=e_ mv (k:=e_ iad (k:=?_))))))))
   refine e_ (evq iad (congrArg (Value.int .i64) (show _=((b+(fR p (cF v.2)+16):Nat):Int)from a8))) (k:=?_)
   refine e_ asn (k:=on_ (bn_ (qn_ (wr_ (e_ iad (k:=e_ mv (k:=on_ (?_))))))))
   refine ln_ ((s2,i+1,b+(fR p (cF v.2)+16),o2)) (k:=?_)
   try dsimp only
   exact⟨a8,hye⟩
  have hw:fR p (cF v.2)=1:=by rw[fR,if_neg (cy)]
  refine wk_ (qn_ (wr_ (e_ mv (k:=e_ mv (k:=e_ iad (k:=?_))))))
  refine e_ (evq iad (congrArg (Value.int .i64) (show _=((b+(fR p (cF v.2)+16):Nat):Int)from a8))) (k:=?_)
  refine e_ asn (k:=on_ (bn_ (qn_ (wr_ (e_ iad (k:=e_ mv (k:=on_ (?_))))))))
  refine ln_ ((s2,i+1,b+(fR p (cF v.2)+16),o2)) (k:=?_)
  try dsimp only
  exact⟨a8,hye⟩
 obtain rfl:i=vs.length:=a8
 rw[hst]at hT
 refine we_ (qe_ (le_ (bh_ (qn_ (ws_ (wr_ (e_ mv (k:=e_ asn (k:=on_ (qn_ (wt_ (rt_ Tryz.results151 (k:=?_)))))))))))))
 rw[hT]
 exact⟨_,hsb,s,rfl,rfl⟩
theorem Ei {G:cM}{H:cG}{fv vv:SV}{fs:List FV}{k:Nat}{vs:List (ByteArray×ByteArray)} [hf:Sl H fv eF fs] [hv:Sl H vv eVl vs] (hk:k≤1000000) (hfl:fs.length≤1000000) (hn:vs.length≤100000000) (hq:∀v∈vs,v.2.size≤3000000) (hz:vsz vs≤1000000000):SC G Tryz.prog 134 [.agg [fv.val].toArray, .int .i64 (k:Int),vv.val] H (fun v H'=> ∃s:SV,v=s.val∧H'=Row s eT (dF fs k vs)::H):=by
 refine sWk Tryz.func134 Tryz.ntmps134 ?_
 refine ws_ (wr_ (bxx (k:=fun b3=>?_)))
 refine e_ asn (k:=on_ (qn_ (ws_ (wr_ (?_)))))
 refine s_ (cZ eT rfl) (k:=?_)
 rintro _ _ ⟨s15,rfl,rfl⟩
 refine e_ asn (k:=on_ (qn_ (ws_ (ws_ (wr_ (e_ mv (k:=e_ ilt (k:=e_ mv (k:=dQ 6 24 (k:=fun h1=>eg_ mv (k:=eg_ fla (k:=eg_ ldv (k:=eg_ lnn (k:=eg_ ige (k:=e_ pkf (k:=on_ (edq)))))))) (q:=on_ (qn_ (wi_ (k:=fun h2=>?_) (m:=fun h2=>?_)))))))))))))
 ·have hT:dF fs k vs= []:=by rw[dF,List.getElem?_eq_none (a8)]
  refine ws_ (wr_ (e_ mv (k:=e_ asn (k:=on_ (qn_ (wt_ (qr_ (rt_ Tryz.results134 (k:=?_)))))))))
  rw[hT]
  exact⟨_,hsb,_,rfl,rfl⟩
 obtain⟨p,hp⟩:∃p,fs[k]? =some p:=⟨_,Yi (a8)⟩
 have hT:dF fs k vs=(fm p vs vs.length).2:=by rw[dF,hp]
 refine wk_ (qn_ (ws_ (wr_ (e_ fla (k:=e_ ldv (k:=e_ mv (k:=e_ ixa (k:=e_ Mn (k:=alc (k:=fun b8=>?_))))))))))
 refine sto (k:=on_ (qn_ (ws_ (wr_ (e_ asn (k:=on_ (qn_ (ws_ (ws_ (wr_ (e_ mv (k:=e_ lnn (k:=e_ mv (k:=?_))))))))))))))
 refine on_ (qn_ (wb_ (dn (SV×Nat×Nat×(List Tok)) (fun y=> y.2.1≤vs.length∧fm p vs y.2.1=(y.2.2.1,y.2.2.2)) (fun y=> [(7,y.1.val),(9, .int .i64 ((y.2.2.1:Nat):Int)),(33, .int .i64 ((y.2.1:Nat):Int))]) [(8,_),(31,_),(32,_)] (fun y=> [Row y.1 eT y.2.2.2]) _ (fun y=> vs.length - y.2.1) ((s15,0,0, [])) (h0:=?_) (k:=?_))))
 ·try dsimp only
  exact⟨Yl _,rfl⟩
 rintro⟨s,i,b,out⟩ ⟨hi,hst⟩
 try dsimp only[Yd,Ye]at*
 refine ws_ (wr_ (e_ ilt (k:=on_ (qn_ (ws_ (wi_ (k:=fun h3=>?_) (m:=fun h3=>?_)))))))
 ·obtain⟨v,hvi⟩:∃v,vs[i]? =some v:=⟨_,Yi (a8)⟩
  have hvq:=hq v (Yj hvi)
  have hvl:=cJ v.2
  have hle:=wP p vs i b out hst
  have hzi:=qU vs i
  have hzt:=qU vs (i+1)
  rw[tl hvi]at hzt
  refine wk_ (qn_ (ws_ (wb_ (ws_ (wr_ (e_ mv (k:=e_ ixa (k:=e_ Mn (k:=alc (k:=fun b11=>?_))))))))))
  refine e_ asn (k:=sto (k:=on_ (qn_ (ws_ (ws_ (wr_ (e_ fla (k:=e_ ldv (k:=e_ fla (k:=e_ ldv (k:=e_ zx (k:=on_ (qn_ (?_))))))))))))))
  refine wi_ (k:=fun h4=>?_) (m:=fun h4=>?_)
  ·have hno:=wO hst hvi h4
   refine we_ (qe_ (bh_ (qn_ (wr_ (e_ iad (k:=e_ mv (k:=on_ (?_))))))))
   refine ln_ ((s,i+1,b,out)) (k:=?_)
   try dsimp only
   exact⟨a8,hno⟩
  have hye:=sX hst hvi (by have h:=h4;simpa using h)
  have htl:=pM p (cF v.2)
  refine wk_ (qn_ (ws_ (ws_ (wr_ (e_ lds (k:=e_ fla (k:=e_ ldv (k:=?_))))))))
  refine c2_ rfl (rOf p (a8)) (k:=?_)
  rintro _ _ ⟨s46,rfl,rfl⟩
  refine e_ lnn (k:=e_ mv (k:=on_ (qn_ (wb_ (dn (SV×Nat×(List Tok)) (fun y=> y.2.1≤(dY p (cF v.2)).length∧y.2.2=out++((dY p (cF v.2)).take y.2.1).map (sj i b)) (fun y=> [(7,y.1.val),(48, .int .i64 ((y.2.1:Nat):Int))]) [(8,_),(9,_),(10,_),(11,_),(31,_),(32,_),(33,_),(46,_),(47,_)] (fun y=> [Row y.1 eT y.2.2]) _ (fun y=> (dY p (cF v.2)).length - y.2.1) ((s,0,out)) (h0:=?_) (k:=?_))))))
  ·try dsimp only
   exact⟨Yl _,aj⟩
  rintro⟨s2,j,o2⟩ ⟨hj,ho2⟩
  try dsimp only[Yd,Ye]at*
  refine ws_ (wr_ (e_ ilt (k:=on_ (qn_ (ws_ (wi_ (k:=fun h5=>?_) (m:=fun h5=>?_)))))))
  ·obtain⟨t,ht⟩:∃t,(dY p (cF v.2))[j]? =some t:=⟨_,Yi (a8)⟩
   have htp:=xr (Yj ht)
   have hmt:=lQ (f:=sj i b) ht
   have hol:o2.length≤out.length+j:=by rw[ho2,Ya,Yh,Yg];omega
   refine wk_ (qn_ (ws_ (wb_ (ws_ (wr_ (e_ ixa (k:=e_ Mn (k:=alc (k:=fun b13=>?_)))))))))
   refine sto (k:=on_ (qn_ (ws_ (wr_ (e_ mv (k:=e_ fla (k:=sto (k:=on_ (qn_ (ws_ (wr_ (e_ fla (k:=e_ ldv (k:=?_))))))))))))))
   refine e_ mv (k:=?_)
   refine e_ (evq iad (congrArg (Value.int .i64) (show _=((t.pos+b:Nat):Int)from a8))) (k:=?_)
   refine e_ fla (k:=sto (k:=on_ (qn_ (wr_ (e_ mv (k:=e_ lds (k:=dD eT (k:=fun s61=>?_))))))))
   refine app (k:=fun s62=>?_)
   refine e_ asn (k:=on_ (bn_ (qn_ (wr_ (e_ iad (k:=e_ mv (k:=on_ (?_))))))))
   refine ln_ ((s62,j+1,o2++ [sj i b t])) (k:=?_)
   try dsimp only
   exact⟨a8,by rw[hmt,←Yf,←ho2]⟩
  obtain rfl:j=(dY p (cF v.2)).length:=a8
  rw[List.take_length]at ho2
  rw[←ho2]at hye
  have hwl:=tj p (cF v.2)
  refine we_ (qe_ (le_ (bh_ (qn_ (ws_ (wr_ (e_ asn (k:=on_ (qn_ (ws_ (ws_ (wr_ (e_ fla (k:=?_))))))))))))))
  refine e_ ldv (k:=e_ ieq (k:=on_ (qn_ (wi_ (k:=fun h6=>?_) (m:=fun h6=>?_)))))
  ·have hw:fR p (cF v.2)=(fe (cF v.2)).length:=by rw[fR,if_pos (cy)]
   refine wr_ (e_ fla (k:=e_ ldv (k:=?_)))
   refine c1_ rfl (Ec (a8)) (k:=?_)
   rintro _ _ ⟨s69,rfl,rfl⟩
   refine e_ lnn (k:=e_ asn (k:=on_ (qn_ (wr_ (e_ mv (k:=e_ mv (k:=e_ iad (k:=?_))))))))
   refine e_ (evq iad (congrArg (Value.int .i64) (show _=((b+(fR p (cF v.2)+16):Nat):Int)from a8))) (k:=?_)
   refine e_ asn (k:=on_ (bn_ (qn_ (wr_ (e_ iad (k:=e_ mv (k:=on_ (?_))))))))
   refine ln_ ((s2,i+1,b+(fR p (cF v.2)+16),o2)) (k:=?_)
   try dsimp only
   exact⟨a8,hye⟩
  have hw:fR p (cF v.2)=1:=by rw[fR,if_neg (cy)]
  refine wk_ (qn_ (wr_ (e_ mv (k:=e_ mv (k:=e_ iad (k:=?_))))))
  refine e_ (evq iad (congrArg (Value.int .i64) (show _=((b+(fR p (cF v.2)+16):Nat):Int)from a8))) (k:=?_)
  refine e_ asn (k:=on_ (bn_ (qn_ (wr_ (e_ iad (k:=e_ mv (k:=on_ (?_))))))))
  refine ln_ ((s2,i+1,b+(fR p (cF v.2)+16),o2)) (k:=?_)
  try dsimp only
  exact⟨a8,hye⟩
 obtain rfl:i=vs.length:=a8
 rw[hst]at hT
 refine we_ (qe_ (le_ (bh_ (qn_ (ws_ (wr_ (e_ mv (k:=e_ asn (k:=on_ (qn_ (wt_ (rt_ Tryz.results134 (k:=?_)))))))))))))
 rw[hT]
 exact⟨_,hsb,s,rfl,rfl⟩
def ja (k:Int) (w:List Nat):Bool:=
 if k=2 then !decide (w= []) && decide (w.length≤64)else if k=3 then(gh w).isSome else true
theorem JD {G:cM}{H:cG}{k:Int}{q:ByteArray}(hq:q.size≤1000000000):SC G Tryz.prog 150 [.int .i64 k, .string q] H (fun v H'=> v= .bool (ja k (cF q))∧H'=H):=by
 have hl:=cJ q
 refine sWk Tryz.func150 Tryz.ntmps150 ?_
 refine go ?_
 refine gk (k:=wi_ (k:=fun h1=>?_) (m:=fun h1=>?_))
 ·have hk:k=2:=h1
  refine ws_ (wr_ (e_ mv (k:=e_ zx (k:=gk (k:=cY 4 16 (k:=fun h2=>gk (k:=edq)) (q:=gk (k:=rt_ Tryz.results150 (k:=?_))))))))
  refine⟨_,hsb,vb ?_,rfl⟩
  rw[ja,if_pos hk,hl]
  simp only[Bool.and_eq_true,Bool.not_eq_true',decide_eq_false_iff_not,decide_eq_true_eq]
  constructor
  ·rintro⟨h1,h2⟩;exact⟨h1,a8⟩
  ·rintro⟨h1,h2⟩;exact⟨h1,a8⟩
 have hk2:¬k=2:=h1
 refine gk (k:=wi_ (k:=fun h3=>?_) (m:=fun h3=>?_))
 ·have hk3:k=3:=h3
  refine go ?_
  refine c1_ rfl (AT (a8)) (k:=?_)
  rintro _ _ ⟨n,b,rfl,hnb,rfl⟩
  refine go ?_
  refine gk (k:=rt_ Tryz.results150 (k:=?_))
  refine⟨_,hsb,?_,rfl⟩
  rw[ja,if_neg hk2,if_pos hk3]
  rcases hnb with⟨h1,h2,_⟩|⟨h1,h2⟩ <;> rw[h1,h2] <;> rfl
 have hk3:¬k=3:=h3
 refine gk (k:=rt_ Tryz.results150 (k:=?_))
 refine⟨_,hsb,?_,rfl⟩
 rw[ja,if_neg hk2,if_neg hk3];all_goals rfl
def ga (fs:List FV) (w:List Nat):Option Nat:=fs.findIdx? fun p=> decide (cF p.name=w)
theorem wT {fs:List FV}{w:List Nat}{i:Nat}{p:FV}(h:fs[i]? =some p) (hn:cF p.name=w) (hb:∀j p',j<i→fs[j]? =some p'→¬cF p'.name=w):ga fs w=some i:=by
 have hi:=(Yk.1 h).1
 have e:fs[i]=p:=(Yk.1 h).2
 rw[ga,List.findIdx?_eq_some_iff_getElem]
 refine⟨hi,by simp[e,hn],fun j hj=> ?_⟩
 have:=hb j fs[j] hj (Yi (a8))
 simpa using this
theorem ry {fs:List FV}{w:List Nat}(hb:∀j p',j<fs.length→fs[j]? =some p'→¬cF p'.name=w):ga fs w=none:=by
 rw[ga,List.findIdx?_eq_none_iff]
 intro p hp
 obtain⟨j,hj⟩:=List.mem_iff_getElem?.1 hp
 simpa using hb j p (Yk.1 hj).1 hj
theorem Jm {G:cM}{H:cG}{s:SV}{fs:List FV}{q:ByteArray} [hs:Sl H s eF fs] (hn:fs.length≤1000000000):SC G Tryz.prog 102 [.agg [s.val].toArray, .string q] H (fun v H'=> ∃(k:Nat) (b:Bool),v= .tuple #[.int .i64 (k:Int), .bool b]∧((b=true∧ga fs (cF q)=some k)∨(b=false∧ga fs (cF q)=none))∧H'=H):=by
 refine sWk Tryz.func102 Tryz.ntmps102 ?_
 refine gk (k:=bxx (k:=fun b2=>?_))
 refine go ?_
 refine dn (Nat) (fun y=> y≤fs.length∧∀j p,j<y→fs[j]? =some p→¬cF p.name=cF q) (fun y=> [(11, .int .i64 ((y:Nat):Int))]) [(1,_),(9,_),(10,_)] (fun y=> []) _ (fun y=> fs.length - y) (0) (h0:=?_) (k:=?_)
 ·try dsimp only
  exact⟨Yl _,fun j e hj=> absurd hj (Nat.not_lt_zero _)⟩
 rintro i ⟨hi,hall⟩
 try dsimp only[Yd,Ye]at*
 refine gk (k:=wi_ (k:=fun h1=>?_) (m:=fun h1=>?_))
 ·obtain⟨p,hp⟩:∃p,fs[i]? =some p:=⟨_,Yi (a8)⟩
  refine gk (k:=alc (k:=fun b7=>?_))
  refine e_ asn (k:=sto (k:=on_ (qn_ (ws_ (wr_ (e_ fla (k:=e_ ldv (k:=e_ mv (k:=e_ sC (k:=gk (k:=wi_ (k:=fun h2=>?_) (m:=fun h2=>?_))))))))))))
  ·have hf:=wT hp h2 hall
   refine gk (k:=rt_ Tryz.results102 (k:=?_))
   exact⟨_,hsb,i,true,rfl, .inl ⟨rfl,hf⟩,rfl⟩
  have hno:=h2
  refine go ?_
  refine ln_ (i+1) (k:=?_)
  try dsimp only
  refine⟨a8,fun j e' hj hje=> ?_⟩
  by_cases e0:j=i
  ·subst e0;rw[hp]at hje;cases hje;exact hno
  ·exact hall j e' (a8) hje
 have hf:ga fs (cF q)=none:=ry fun j p hj=> hall j p (a8)
 refine gk (k:=rt_ Tryz.results102 (k:=?_))
 exact⟨_,hsb,0,false,rfl, .inr ⟨rfl,hf⟩,rfl⟩
theorem LJ {G:cM}{H:cG}{s:SV}{fs:List FV}{q:ByteArray} [hs:Sl H s eF fs] (hn:fs.length≤1000000000):SC G Tryz.prog 183 [.agg [s.val].toArray, .string q] H (fun v H'=> ∃(k:Nat) (b:Bool),v= .tuple #[.int .i64 (k:Int), .bool b]∧((b=true∧ga fs (cF q)=some k)∨(b=false∧ga fs (cF q)=none))∧H'=H):=by
 refine sWk Tryz.func183 Tryz.ntmps183 ?_
 refine gk (k:=bxx (k:=fun b2=>?_))
 refine go ?_
 refine dn (Nat) (fun y=> y≤fs.length∧∀j p,j<y→fs[j]? =some p→¬cF p.name=cF q) (fun y=> [(11, .int .i64 ((y:Nat):Int))]) [(1,_),(9,_),(10,_)] (fun y=> []) _ (fun y=> fs.length - y) (0) (h0:=?_) (k:=?_)
 ·try dsimp only
  exact⟨Yl _,fun j e hj=> absurd hj (Nat.not_lt_zero _)⟩
 rintro i ⟨hi,hall⟩
 try dsimp only[Yd,Ye]at*
 refine gk (k:=wi_ (k:=fun h1=>?_) (m:=fun h1=>?_))
 ·obtain⟨p,hp⟩:∃p,fs[i]? =some p:=⟨_,Yi (a8)⟩
  refine gk (k:=alc (k:=fun b7=>?_))
  refine e_ asn (k:=sto (k:=on_ (qn_ (ws_ (wr_ (e_ fla (k:=e_ ldv (k:=e_ mv (k:=e_ sC (k:=gk (k:=wi_ (k:=fun h2=>?_) (m:=fun h2=>?_))))))))))))
  ·have hf:=wT hp h2 hall
   refine gk (k:=rt_ Tryz.results183 (k:=?_))
   exact⟨_,hsb,i,true,rfl, .inl ⟨rfl,hf⟩,rfl⟩
  have hno:=h2
  refine go ?_
  refine ln_ (i+1) (k:=?_)
  try dsimp only
  refine⟨a8,fun j e' hj hje=> ?_⟩
  by_cases e0:j=i
  ·subst e0;rw[hp]at hje;cases hje;exact hno
  ·exact hall j e' (a8) hje
 have hf:ga fs (cF q)=none:=ry fun j p hj=> hall j p (a8)
 refine gk (k:=rt_ Tryz.results183 (k:=?_))
 exact⟨_,hsb,0,false,rfl, .inr ⟨rfl,hf⟩,rfl⟩
section
variable {G:cM}{P:Program}{t:Tm}{H:cG}{dst:Option Tmp}{ty:TypeId}{pos:String}{after:Array Edge}{g:Option (Nat×Bool)}
theorem xE {T K E:TypeId}{x y v:Operand}{r:Nat}{u:Value}{kv:List (ByteArray×Value)}{s:ByteArray}{C:Hp→cG}(hx:evo t x=some (.map (some r))) (hy:evo t y=some (.string s)) (hv:evo t v=some u) (hno:s ∉ kv.map (·.1)) [hT:Und P T (.map K E)] [hK:Und P K .string] [hf:Foc H Mv r kv C]:
 St G P ⟨dst, .mapUpdate T x y v,ty,pos,after,g⟩ t H (fun u' H'=> u'=undef∧H'=C (Mv r (kv++ [(s,u)]))):=
 fun ρ hρ w hw=> by
  obtain⟨hS,L,hL,hl⟩:=hw
  obtain⟨L1,M,L2,rfl,⟨es,clock,rfl,hk⟩,hB⟩:=hf.foc _ hL
  have hb:w.heap[r]? =some (.map es.toArray clock):=hl.at_ (r, .map es.toArray clock) (aj)
  have hg:=MapKept.run_getObj_map (P:=P) hb
  have hck:=MapKept.run_checkKey (P:=P) (w:=w) hK.out (mA s)
  rcases nd s kv es 0 hk.keys hk.vals with⟨j,v',h1,_⟩|⟨h1,h2⟩
  ·exact absurd (List.mem_map.2 ⟨_,Yj h1,rfl⟩) hno
  ·have h3:=MapKept.run_findKey (P:=P) (w:=w) hK.out h2
   have hso:=MapKept.run_setObj_map (P:=P) (.map (es.toArray.push {key:= .string s,val:=u,born:=clock}) (clock+1)) hb
   have hr:(execOp ρ ⟨dst, .mapUpdate T x y v,ty,pos,after,g⟩).run P w= .ok .skip (er w r (.map (es.toArray.push {key:= .string s,val:=u,born:=clock}) (clock+1))):=by
    simp only[execOp,hρ _ _ hx,hρ _ _ hy,hρ _ _ hv,Instr.mapUpdate,Sem.run_bind,df (T:=T),Result.andThen_ok,hg,hck,h3,hso,Sem.run_pure]
    rfl
   have hst:MapKept.Stamped (es++ [({key:= .string s,val:=u,born:=clock}:MapEntry)]).toArray (clock+1):=by
    have:=MapKept.stamped_push (key:= .string s) (val:=u) hk.stamped (fun e he=> by
     intro heq
     apply hno
     have h5:e.key∈es.map (·.key):=List.mem_map_of_mem (by simpa using he)
     rw[hk.keys,heq]at h5
     obtain⟨p,hp,hps⟩:=List.mem_map.1 h5
     cases hps
     exact List.mem_map_of_mem hp)
    simpa using this
   rw[hr]
   refine⟨C (Mv r (kv++ [(s,u)])),⟨⟨hS.os,hS.tape,hS.output⟩,_,hB _ [(r, .map (es.toArray.push {key:= .string s,val:=u,born:=clock}) (clock+1))] ⟨es++ [{key:= .string s,val:=u,born:=clock}],clock+1,aj,⟨hst,by simp[hk.keys],by simp[hk.vals]⟩⟩,?_⟩,rfl,rfl⟩
   have:=kD.change (w':=er w r (.map (es.toArray.push {key:= .string s,val:=u,born:=clock}) (clock+1))) (L1:=L1) (L2:=L2) (b:=r) (o:= .map es.toArray clock) (o':= .map (es.toArray.push {key:= .string s,val:=u,born:=clock}) (clock+1)) (bA) (gu hb) (fun i hi _=> fI hi)
   simpa using this
end
def sk (fs:List FV) (v:ByteArray×ByteArray):Nat:=match ga fs (cF v.1)with
 |none=> 12
 |some i=> if 4096<v.2.size then 3 else match fs[i]? with
  |some p=> bif ja p.kind (cF v.2)then 0 else 13
  |none=> 0
def jX (fs:List FV):List (ByteArray×ByteArray)→Nat
 | []=> 0
 |v::l=> if sk fs v=0 then jX fs l else sk fs v
def iE (fs:List FV) (vs:List (ByteArray×ByteArray)):Nat:=if e7 fs=false then 11 else if 64<vs.length then 3 else jX fs vs
theorem uu {fs:List FV}{vs:List (ByteArray×ByteArray)}{i:Nat}{v:ByteArray×ByteArray}(h:vs[i]? =some v):jX fs (vs.drop i)=if sk fs v=0 then jX fs (vs.drop (i+1))else sk fs v:=by
 have hi:=(Yk.1 h).1
 have e:vs[i]=v:=(Yk.1 h).2
 rw[List.drop_eq_getElem_cons hi,jX,e]
theorem mE {fs:List FV}{w:List Nat}{i:Nat}(h:ga fs w=some i):∃p,fs[i]? =some p∧cF p.name=w:=by
 rw[ga,List.findIdx?_eq_some_iff_getElem]at h
 obtain⟨hi,h1,_⟩:=h
 exact⟨fs[i],Yi hi,cx⟩
theorem om {G:cM}{H:cG}{s:SV}{fs:List FV} [hs:Sl H s eF fs] (hn:fs.length≤1000000000) (hf:∀f∈fs,f.name.size≤1000000000000):SC G Tryz.prog 64 [.agg [s.val].toArray] H (fun v H'=> ∃c:Int,v= .int .i64 c∧((e7 fs=false∧c=11)∨(e7 fs=true∧c=0))∧H'=H):=
 (tK hn hf).mono fun v H' h=> by
   obtain⟨h1,⟨h2,h3⟩|⟨h2,h3⟩⟩:=h
   ·exact⟨11,h3, .inl ⟨h2,rfl⟩,h1⟩
   ·exact⟨0,h3, .inr ⟨h2,rfl⟩,h1⟩
theorem M9 {G:cM}{H:cG}{s vv:SV}{fs:List FV}{vs:List (ByteArray×ByteArray)} [hf:Sl H s eF fs] [hv:Sl H vv eVl vs] (hn:fs.length≤1000000) (hfn:∀f∈fs,f.name.size≤1000000000) (hvn:vs.length≤1000000000) (hq:∀v∈vs,v.2.size≤1000000000):SC G Tryz.prog 132 [.agg [s.val].toArray,vv.val] H (fun v H'=> v= .int .i64 ((iE fs vs:Nat):Int)∧H'=H):=by
 refine sWk Tryz.func132 Tryz.ntmps132 ?_
 refine gk (k:=bxx (k:=fun b2=>?_))
 refine go ?_
 refine c1_ rfl (om (a8) (fun f hf=> cg)) (k:=?_)
 rintro _ _ ⟨c,rfl,hK,rfl⟩
 refine gk (k:=wi_ (k:=fun h1=>?_) (m:=fun h1=>?_))
 ·obtain⟨hc,rfl⟩:e7 fs=false∧c=11:=by
   rcases hK with hK|⟨_,h⟩
   ·exact hK
   ·exact absurd h h1
  have hT:iE fs vs=11:=by rw[iE,if_pos hc]
  refine gk (k:=rt_ Tryz.results132 (k:=?_))
  exact⟨_,hsb,by rw[hT];all_goals rfl,rfl⟩
 have hc:e7 fs=true:=by
  rcases hK with⟨_,h⟩|⟨h,_⟩
  ·have h2:=h1;rw[h]at h2;exact absurd h2 (ag)
  ·exact h
 have hc2:¬e7 fs=false:=bW
 refine gk (k:=wi_ (k:=fun h2=>?_) (m:=fun h2=>?_))
 ·have hT:iE fs vs=3:=by rw[iE,if_neg hc2,if_pos (a8)]
  refine gk (k:=rt_ Tryz.results132 (k:=?_))
  exact⟨_,hsb,by rw[hT];all_goals rfl,rfl⟩
 have hT:iE fs vs=jX fs vs:=by rw[iE,if_neg hc2,if_neg (a8)]
 refine gk (k:=dn (Nat) (fun y=> y≤vs.length∧jX fs vs=jX fs (vs.drop y)) (fun y=> [(23, .int .i64 ((y:Nat):Int))]) [(2,_),(21,_),(22,_)] (fun y=> []) _ (fun y=> vs.length - y) (0) (h0:=?_) (k:=?_))
 ·try dsimp only
  exact⟨Yl _,rfl⟩
 rintro i ⟨hi,hth⟩
 try dsimp only[Yd,Ye]at*
 refine gk (k:=wi_ (k:=fun h3=>?_) (m:=fun h3=>?_))
 ·obtain⟨v,hvi⟩:∃v,vs[i]? =some v:=⟨_,Yi (a8)⟩
  have hvq:=hq v (Yj hvi)
  have hvl:=cJ v.2
  rw[uu hvi]at hth
  have hG:sk fs v=match ga fs (cF v.1)with
   |none=> 12
   |some i=> if 4096<v.2.size then 3 else match fs[i]? with
    |some p=> bif ja p.kind (cF v.2)then 0 else 13
    |none=> 0:=rfl
  refine gk (k:=alc (k:=fun b7=>?_))
  refine go ?_
  refine c2_ rfl (Jm (a8)) (k:=?_)
  rintro _ _ ⟨k,b,rfl,hkb,rfl⟩
  refine go ?_
  refine wi_ (k:=fun h4=>?_) (m:=fun h4=>?_)
  ·obtain⟨hb,hF⟩:b=false∧ga fs (cF v.1)=none:=by
    rcases hkb with⟨h1,_⟩|h1
    ·rw[h1]at h4;exact absurd h4 (ag)
    ·exact h1
   rw[hF]at hG
   dsimp only at hG
   rw[hG,if_neg (ag)]at hth
   refine gk (k:=rt_ Tryz.results132 (k:=?_))
   exact⟨_,hsb,bF,rfl⟩
  obtain⟨hb,hF⟩:b=true∧ga fs (cF v.1)=some k:=by
   rcases hkb with h1|⟨h1,_⟩
   ·exact h1
   ·rw[h1]at h4;exact absurd h4 (ag)
  obtain⟨p,hp,_⟩:=mE hF
  have hkl:=(Yk.1 hp).1
  rw[hF]at hG
  dsimp only at hG
  rw[hp]at hG
  dsimp only at hG
  refine gk (k:=wi_ (k:=fun h5=>?_) (m:=fun h5=>?_))
  ·rw[if_pos (a8)]at hG
   rw[hG,if_neg (ag)]at hth
   refine gk (k:=rt_ Tryz.results132 (k:=?_))
   exact⟨_,hsb,bF,rfl⟩
  rw[if_neg (a8)]at hG
  refine go ?_
  refine gk (k:=cY 11 59 (k:=fun h6=>gk (k:=dQ 5 58 (k:=fun h7=>gk (k:=edq)) (q:=gk (k:=edq)))) (q:=gk (k:=wi_ (k:=fun h8=>?_) (m:=fun h8=>?_))))
  ·have hbad:ja p.kind (cF v.2)=false:=by
    obtain⟨c1,c2⟩:=h8
    rw[ja,if_pos c1]
    rcases c2 with c2|c2
    ·simp[List.eq_nil_of_length_eq_zero (show(cF v.2).length=0 from a8)]
    ·rw[Yr (show ¬(cF v.2).length≤64 from a8)];simp
   rw[hbad]at hG
   rw[hG]at hth
   refine gk (k:=rt_ Tryz.results132 (k:=?_))
   exact⟨_,hsb,bF,rfl⟩
  have h2:=h8
  refine go ?_
  refine c1_ rfl (Ba (a8)) (k:=?_)
  rintro _ _ ⟨n,b2,rfl,hnb,rfl⟩
  refine gk (k:=cY 3 71 (k:=fun h9=>gk (k:=edq)) (q:=go ?_))
  refine gk (k:=wi_ (k:=fun h10=>?_) (m:=fun h10=>?_))
  ·obtain⟨c1,c2⟩:=h10
   have hbad:ja p.kind (cF v.2)=false:=by
    rw[ja,if_neg (a8),if_pos c1]
    rcases hnb with⟨h1,_⟩|⟨_,h1⟩
    ·rw[h1]at c2;exact absurd c2 (ag)
    ·rw[h1];all_goals rfl
   rw[hbad]at hG
   rw[hG]at hth
   refine gk (k:=rt_ Tryz.results132 (k:=?_))
   exact⟨_,hsb,bF,rfl⟩
  have h3:=h10
  have hgd:ja p.kind (cF v.2)=true:=by
   rw[ja]
   by_cases k2:p.kind=2
   ·rw[if_pos k2]
    have h4:¬(v.2.size:Int)=0∧¬(64<(v.2.size:Int)):=by
     constructor
     ·intro h;apply absurd h2;simp[k2,h]
     ·intro h;apply absurd h2;simp[k2,h]
    rw[Yr (show ¬cF v.2= []from fun h=> by rw[h]at hvl;simp at hvl;omega),Ys (show(cF v.2).length≤64 from a8)];all_goals rfl
   ·rw[if_neg k2]
    by_cases k3:p.kind=3
    ·rw[if_pos k3]
     rcases hnb with⟨_,h1,_⟩|⟨h1,_⟩
     ·rw[h1];all_goals rfl
     ·exact absurd h3 (by simp[k3,h1])
    ·rw[if_neg k3]
  rw[hgd,cond_true]at hG
  rw[hG,if_pos rfl]at hth
  refine go ?_
  refine ln_ (i+1) (k:=?_)
  try dsimp only
  exact⟨a8,hth⟩
 obtain rfl:i=vs.length:=a8
 rw[List.drop_length]at hth
 refine gk (k:=rt_ Tryz.results132 (k:=?_))
 exact⟨_,hsb,bF,rfl⟩
theorem pE:∀(fs:List FV) (seen:List (List Nat)),qF seen fs=true→(∀f∈fs,cF f.name ∉ seen)∧(fs.map fun f=> cF f.name).Nodup
 | [],seen,_=> ⟨aj,aj⟩
 |f::r,seen,h=> by
  simp only[qF,Bool.and_eq_true,Bool.not_eq_true',decide_eq_false_iff_not]at h
  obtain⟨h1,h2,h3,h4⟩:=h
  obtain⟨h5,h6⟩:=pE r _ h4
  constructor
  ·intro g hg
   rcases List.mem_cons.1 hg with rfl|hg
   ·exact h1
   ·exact fun hh=> h5 g hg (Yy _ hh)
  ·rw[List.map_cons,List.nodup_cons]
   refine⟨fun hh=> ?_,h6⟩
   obtain⟨g,hg,he⟩:=List.mem_map.1 hh
   exact h5 g hg (Yx _ (by rw[he];exact List.mem_singleton_self _))
theorem yn {fs:List FV}(hc:e7 fs=true) {i j:Nat}{p p':FV}(hi:fs[i]? =some p) (hj:fs[j]? =some p') (hn:cF p.name=cF p'.name):i=j:=by
 rw[e7,Bool.and_eq_true]at hc
 have h:=(pE fs [] hc.2).2
 have h1:=(Yk.1 hi).1
 have h2:(fs.map fun f=> cF f.name)[i]? =(fs.map fun f=> cF f.name)[j]? :=by
  rw[Xd,Xd,hi,hj];simp[hn]
 exact(List.getElem?_inj (cx) h).1 h2
def kvF (fs:List FV):List (ByteArray×Value):=(List.range fs.length).map fun i=> ((fs.getD i ⟨⟨#[]⟩,0,false,false,false⟩).name,Value.int .i64 (i:Int))
theorem Bq (fs:List FV):(kvF fs).length=fs.length:=by simp[kvF]
theorem sV {fs:List FV}{i:Nat}{p:FV}(h:fs[i]? =some p):(kvF fs)[i]? =some (p.name, .int .i64 (i:Int)):=by
 have hi:=(Yk.1 h).1
 rw[kvF,Xd,List.getElem?_range hi]
 simp[List.getD_eq_getElem?_getD,h]
theorem Fm {fs:List FV}{i:Nat}{p:FV}(h:fs[i]? =some p):(kvF fs).take (i+1)=(kvF fs).take i++ [(p.name, .int .i64 (i:Int))]:=by
 rw[List.take_add_one,sV h];all_goals rfl
theorem Il {fs:List FV}(hc:e7 fs=true) {i:Nat}{p:FV}(h:fs[i]? =some p):p.name ∉((kvF fs).take i).map (·.1):=by
 intro hm
 obtain⟨e,he,hn⟩:=List.mem_map.1 hm
 obtain⟨j,hj⟩:=List.mem_iff_getElem?.1 he
 rw[List.getElem?_take]at hj
 split at hj
 ·rename_i hji
  have hi:=(Yk.1 h).1
  have hp':fs[j]? =some fs[j]:=Yi (a8)
  rw[sV hp']at hj
  cases hj
  have:=yn hc h hp' (by rw[←hn])
  omega
 ·cases hj
theorem It {fs:List FV}(hc:e7 fs=true) {i:Nat}{s:ByteArray}{v:Value}(h:(kvF fs)[i]? =some (s,v)):ga fs (cF s)=some i∧v= .int .i64 (i:Int):=by
 have hi:i<fs.length:=by have:=(Yk.1 h).1;rwa [Bq]at this
 have hp:fs[i]? =some fs[i]:=Yi hi
 rw[sV hp]at h
 cases h
 exact⟨wT hp rfl fun j p' hj hp' he=> by have:=yn hc hp' hp he;omega,rfl⟩
theorem FM {fs:List FV}{s:ByteArray}(h:s ∉(kvF fs).map (·.1)):ga fs (cF s)=none:=
 ry fun j p hj hp he=> h (List.mem_map.2 ⟨_,Yj (sV hp),iH.1 he⟩)
theorem mc.mono {G:cM}{P:Program}{R R':Value→cG→Prop}{r:Result Next}(h:mc G P R r) (hk:∀v H',R v H'→R' v H'):mc G P R' r:=by
 cases r with
 |ok n w'=>
  cases n <;> simp only[mc]at h⊢
  case value v=> obtain⟨H',h1,h2⟩:=h;exact⟨H',h1,hk _ _ h2⟩
  case skip=> obtain⟨H',h1,h2⟩:=h;exact⟨H',h1,hk _ _ h2⟩
  case enter f args=>
   refine h.mono fun e w'' he=> ?_
   cases e with
   |returned v=> obtain⟨H',h1,h2⟩:=he;exact⟨H',h1,hk _ _ h2⟩
   |_=> exact he.elim
 |halt x w'=> simp only[mc]at h
theorem AW {G:cM}{P:Program}{o:Oper}{t:Tm}{H:cG}{R R':Value→cG→Prop}(h:St G P o t H R) (hk:∀v H',R v H'→R' v H'):St G P o t H R':=
 fun ρ hρ w hw=> mc.mono (h ρ hρ w hw) hk
section
variable {G:cM}{P:Program}{t:Tm}{H:cG}{dst:Option Tmp}{ty:TypeId}{pos:String}{after:Array Edge}{g:Option (Nat×Bool)}
theorem DH {T K E:TypeId}{x y:Operand}{r sz bb:Nat}{fs:List FV}{s:ByteArray}{C:Hp→cG}(hc:e7 fs=true) (hx:evo t x=some (.map (some r))) (hy:evo t y=some (.string s)) [hT:Und P T (.map K E)] [hK:Und P K .string] [hE:Inf P E sz bb (.int .i64 0)] [hf:Foc H Mv r (kvF fs) C]:
 St G P ⟨dst, .lookup T x y true,ty,pos,after,g⟩ t H (fun u H'=> ∃(k:Nat) (b:Bool),u= .tuple #[.int .i64 (k:Int), .bool b]∧((b=true∧ga fs (cF s)=some k)∨(b=false∧ga fs (cF s)=none))∧H'=H):=
 AW (AX (ok:=true) hx hy) fun u H' h=> by
  obtain⟨h1,⟨i,v,h2,h3⟩|⟨h2,h3⟩⟩:=h
  ·obtain⟨h4,h5⟩:=It hc h2
   exact⟨i,true,by rw[h3,h5];all_goals rfl, .inl ⟨rfl,h4⟩,h1⟩
  ·exact⟨0,false,by rw[h3];all_goals rfl, .inr ⟨rfl,FM h2⟩,h1⟩
end
def MG (G:cM) (n:Nat):Value:=if n=0 then .nilIface else if n=11 then G.err 0 else if n=3 then G.err 4 else if n=12 then G.err 11 else G.err 12
theorem LH {G:cM}{H:cG}{s vv:SV}{fs:List FV}{vs:List (ByteArray×ByteArray)} [hg:Glb G H] [hf:Sl H s eF fs] [hv:Sl H vv eVl vs] (hn:fs.length≤1000000) (hfn:∀f∈fs,f.name.size≤1000000000) (hvn:vs.length≤1000000000) (hq:∀v∈vs,v.2.size≤1000000000):SC G Tryz.prog 127 [.agg [s.val].toArray,vv.val] H (fun v H'=> v=MG G (iE fs vs)∧H'=H):=by
 refine sWk Tryz.func127 Tryz.ntmps127 ?_
 refine gk (k:=bxx (k:=fun b2=>?_))
 refine go ?_
 refine c1_ rfl (po (a8) (fun f hf=> cg)) (k:=?_)
 rintro v1 H1 ⟨rfl,hK⟩
 rcases hK with⟨hc,rfl⟩|⟨hc,rfl⟩
 ·have hT:iE fs vs=11:=by rw[iE,if_pos hc]
  refine e_ asn (k:=on_ (qn_ (ws_ (wr_ (e_ mv (k:=?_))))))
  refine e_ (cR rfl) (k:=?_)
  refine gk (k:=ift (k:=gk (k:=rt_ Tryz.results127 (k:=?_))))
  exact⟨_,hsb,by rw[hT];all_goals rfl,rfl⟩
 have hc2:¬e7 fs=false:=bW
 refine e_ asn (k:=on_ (qn_ (ws_ (wr_ (e_ mv (k:=?_))))))
 refine e_ (cN rfl) (k:=?_)
 refine gk (k:=dw (k:=gk (k:=wi_ (k:=fun h1=>?_) (m:=fun h1=>?_))))
 ·have hT:iE fs vs=3:=by rw[iE,if_neg hc2,if_pos (a8)]
  refine gk (k:=rt_ Tryz.results127 (k:=?_))
  exact⟨_,hsb,by rw[hT];all_goals rfl,rfl⟩
 have hT:iE fs vs=jX fs vs:=by rw[iE,if_neg hc2,if_neg (a8)]
 refine go ?_
 refine s_ (C6 rfl) (k:=?_)
 rintro _ _ ⟨r25,rfl,rfl⟩
 refine gk (k:=dn (Nat) (fun y=> y≤fs.length) (fun y=> [(29, .int .i64 ((y:Nat):Int))]) [(1,_),(2,_),(6,_),(27,_),(28,_)] (fun y=> [Mv r25 ((kvF fs).take y)]) _ (fun y=> fs.length - y) (0) (h0:=?_) (k:=?_))
 ·try dsimp only
  exact Yl _
 rintro i hi
 try dsimp only[Yd,Ye]at*
 refine gk (k:=wi_ (k:=fun h2=>?_) (m:=fun h2=>?_))
 ·obtain⟨p,hp⟩:∃p,fs[i]? =some p:=⟨_,Yi (a8)⟩
  have hnew:=Il hc hp
  have hkt:=Fm hp
  refine gk (k:=alc (k:=fun b8=>?_))
  refine go ?_
  refine s_ (xE rfl rfl rfl hnew) (k:=?_)
  rintro _ _ ⟨rfl,rfl⟩
  rw[←hkt]
  refine go ?_
  refine ln_ (i+1) (k:=?_)
  try dsimp only
  omega
 obtain rfl:i=fs.length:=a8
 have hall:(kvF fs).take fs.length=kvF fs:=List.take_of_length_le (by rw[Bq];exact Nat.le_refl _)
 rw[hall]
 refine go ?_
 refine dn (Nat) (fun y=> y≤vs.length∧jX fs vs=jX fs (vs.drop y)) (fun y=> [(41, .int .i64 ((y:Nat):Int))]) [(2,_),(6,_),(39,_),(40,_)] (fun y=> []) _ (fun y=> vs.length - y) (0) (h0:=?_) (k:=?_)
 ·try dsimp only
  exact⟨Yl _,rfl⟩
 rintro i ⟨hi,hth⟩
 try dsimp only[Yd,Ye]at*
 refine gk (k:=wi_ (k:=fun h3=>?_) (m:=fun h3=>?_))
 ·obtain⟨v,hvi⟩:∃v,vs[i]? =some v:=⟨_,Yi (a8)⟩
  have hvq:=hq v (Yj hvi)
  have hvl:=cJ v.2
  rw[uu hvi]at hth
  have hG:sk fs v=match ga fs (cF v.1)with
   |none=> 12
   |some i=> if 4096<v.2.size then 3 else match fs[i]? with
    |some p=> bif ja p.kind (cF v.2)then 0 else 13
    |none=> 0:=rfl
  refine gk (k:=alc (k:=fun b10=>?_))
  refine go ?_
  refine s_ (DH hc rfl rfl) (k:=?_)
  rintro _ _ ⟨k,b,rfl,hkb,rfl⟩
  refine go ?_
  refine wi_ (k:=fun h4=>?_) (m:=fun h4=>?_)
  ·obtain⟨hb,hF⟩:b=false∧ga fs (cF v.1)=none:=by
    rcases hkb with⟨h1,_⟩|h1
    ·rw[h1]at h4;exact absurd h4 (ag)
    ·exact h1
   rw[hF]at hG
   dsimp only at hG
   rw[hG,if_neg (ag)]at hth
   refine gk (k:=rt_ Tryz.results127 (k:=?_))
   exact⟨_,hsb,bF,rfl⟩
  obtain⟨hb,hF⟩:b=true∧ga fs (cF v.1)=some k:=by
   rcases hkb with h1|⟨h1,_⟩
   ·exact h1
   ·rw[h1]at h4;exact absurd h4 (ag)
  obtain⟨p,hp,_⟩:=mE hF
  have hkl:=(Yk.1 hp).1
  rw[hF]at hG
  dsimp only at hG
  rw[hp]at hG
  dsimp only at hG
  refine gk (k:=wi_ (k:=fun h5=>?_) (m:=fun h5=>?_))
  ·rw[if_pos (a8)]at hG
   rw[hG,if_neg (ag)]at hth
   refine gk (k:=rt_ Tryz.results127 (k:=?_))
   exact⟨_,hsb,bF,rfl⟩
  rw[if_neg (a8)]at hG
  refine go ?_
  refine cW cL (as_ 0 (q:=fla) (k:=as_ 1 (q:=ldv) (k:=as_ 2 (q:=mv) (k:=as_ 3 (q:=ixa) (k:=as_ 4 (q:=fle) (k:=as_ 5 (q:=lfl) (k:=as_ 6 (q:=fla) (k:=as_ 7 (q:=ldv) (k:=?_)))))))))
  refine cH 8 rfl rfl (aa) rfl (j9 (vs:= [_,_]) rfl (JD (a8))) (?_)
  refine as_ 9 (q:=oQ) (k:=az_ (k:=gk (k:=wi_ (k:=fun h6=>?_) (m:=fun h6=>?_))))
  ·have hbad:ja p.kind (cF v.2)=false:=h6
   rw[hbad]at hG
   rw[hG]at hth
   refine gk (k:=rt_ Tryz.results127 (k:=?_))
   exact⟨_,hsb,bF,rfl⟩
  have hgd:ja p.kind (cF v.2)=true:=h6
  rw[hgd,cond_true]at hG
  rw[hG,if_pos rfl]at hth
  refine go ?_
  refine ln_ (i+1) (k:=?_)
  try dsimp only
  exact⟨a8,hth⟩
 obtain rfl:i=vs.length:=a8
 rw[List.drop_length]at hth
 refine gk (k:=rt_ Tryz.results127 (k:=?_))
 exact⟨_,hsb,bF,rfl⟩
def vt (l:List Int) (i:Nat):Int:=if i=0 then -1 else l.getD (i - 1) 0
theorem zM {G:cM}{H:cG}{s:SV}{l:List Int} [hs:Sl H s eI l] (hm:l.length≤1000000000) (hbl:iW l=false) (hri:rise l=true) (hl:∀x∈l,x≤9223372036854775807):SC G Tryz.prog 103 [s.val] H (fun v H'=> ∃s':SV,v= .tuple #[s'.val, .int .i64 0]∧H'=Row s' eB (uv l.length++dz (-1) l)::H):=by
 have hb:=(il l).1 hbl
 have hr:=(gJ l).1 hri
 refine sWk Tryz.func103 Tryz.ntmps103 ?_
 refine go ?_
 refine gk (k:=dn (Nat) (fun y=> y≤l.length) (fun y=> [(11, .int .i64 ((y:Nat):Int))]) [(0,_),(9,_),(10,_)] (fun y=> []) _ (fun y=> l.length - y) (0) (h0:=?_) (k:=?_))
 ·try dsimp only
  exact Yl _
 rintro i hi
 try dsimp only[Yd,Ye]at*
 refine gk (k:=wi_ (k:=fun h1=>?_) (m:=fun h1=>?_))
 ·obtain⟨x,hx⟩:∃x,l[i]? =some x:=⟨_,Yi (a8)⟩
  have hx0:=hb i x hx
  refine go ?_
  refine gk (k:=wi_ (k:=fun h2=>?_) (m:=fun h2=>?_))
  ·exact absurd h2 (a8)
  refine go ?_
  refine ln_ (i+1) (k:=?_)
  try dsimp only
  omega
 refine we_ (qe_ (le_ (bh_ (qn_ (ws_ (wr_ (e_ mv (k:=e_ lnn (k:=?_)))))))))
 refine e_ ((ae)) (k:=?_)
 refine c1_ rfl (mT l.length (a8)) (k:=?_)
 rintro _ _ ⟨s22,rfl,rfl⟩
 have hul:=dc (n:=l.length) (a8)
 refine gk (k:=dn (SV×Nat×(List Nat)) (fun y=> y.2.1≤l.length∧y.2.2++dz (vt l y.2.1) (l.drop y.2.1)=uv l.length++dz (-1) l∧y.2.2.length≤10+10*y.2.1) (fun y=> [(6,y.1.val),(25, .int .i64 ((y.2.1:Nat):Int))]) [(0,_),(23,_),(24,_)] (fun y=> [Row y.1 eB y.2.2]) _ (fun y=> l.length - y.2.1) ((s22,0,uv l.length)) (h0:=?_) (k:=?_))
 ·try dsimp only
  exact⟨Yl _,rfl,a8⟩
 rintro⟨s6,i,out⟩ ⟨hi,hth,hol⟩
 try dsimp only[Yd,Ye]at*
 refine gk (k:=wi_ (k:=fun h3=>?_) (m:=fun h3=>?_))
 ·obtain⟨x,hx⟩:∃x,l[i]? =some x:=⟨_,Yi (a8)⟩
  have hx0:=hb i x hx
  have hxm:=hl x (Yj hx)
  obtain⟨n,rfl⟩:∃n:Nat,x=(n:Int):=⟨x.toNat,a8⟩
  have hnx:vt l (i+1)=(n:Int):=by rw[vt,if_neg (a8),Nat.add_sub_cancel,List.getD_eq_getElem?_getD,hx];all_goals rfl
  rw[dV hx,dz,←Yf]at hth
  refine go ?_
  refine gk (k:=wi_ (k:=fun h4=>?_) (m:=fun h4=>?_))
  ·obtain rfl:i=0:=by omega
   have hun:=dc (n:=n) (a8)
   rw[show vt l 0= -1 from rfl,show((n:Int) - -1 - 1).toNat=n from a8]at hth
   refine ws_ (wr_ (e_ mv (k:=e_ mv (k:=?_))))
   refine e_ ((ae)) (k:=?_)
   refine c1_ rfl (mT n (a8)) (k:=?_)
   rintro _ _ ⟨s35,rfl,rfl⟩
   refine app (k:=fun s36=>?_)
   refine go ?_
   refine ln_ ((s36,0+1,out++uv n)) (k:=?_)
   try dsimp only
   refine⟨a8,by rw[hnx];exact hth,?_⟩
   rw[Ya];omega
  obtain⟨y,hy⟩:∃y,l[i - 1]? =some y:=⟨_,Yi (a8)⟩
  have hy0:=hb (i - 1) y hy
  obtain⟨m,rfl⟩:∃m:Nat,y=(m:Int):=⟨y.toNat,a8⟩
  have hlt:=hr (i - 1) m n hy (by rw[show i - 1+1=i from a8];exact hx)
  have hpv:vt l i=(m:Int):=by rw[vt,if_neg (a8),List.getD_eq_getElem?_getD,hy];all_goals rfl
  have hun:=dc (n:=n - m - 1) (a8)
  rw[hpv,show((n:Int) - (m:Int) - 1).toNat=n - m - 1 from a8]at hth
  refine go ?_
  refine wi_ (k:=fun h5=>?_) (m:=fun h5=>?_)
  ·exact absurd h5 (a8)
  refine wk_ (qn_ (wr_ (e_ mv (k:=e_ mv (k:=e_ mv (k:=e_ mv (k:=e_ isb (k:=e_ ixa (k:=e_ lel (k:=e_ isb (k:=?_)))))))))))
  refine e_ (cS 18446744073709551616 rfl rfl rfl (n - m) (a8) (a8)) (k:=?_)
  refine e_ (qv 18446744073709551616 rfl rfl rfl rfl _ 1 rfl rfl (a8) (a8)) (k:=?_)
  refine c1_ rfl (mT (n - m - 1) (a8)) (k:=?_)
  rintro _ _ ⟨s55,rfl,rfl⟩
  refine app (k:=fun s56=>?_)
  refine go ?_
  refine ln_ ((s56,i+1,out++uv (n - m - 1))) (k:=?_)
  try dsimp only
  refine⟨a8,by rw[hnx];exact hth,?_⟩
  rw[Ya];omega
 obtain rfl:i=l.length:=a8
 rw[List.drop_length,dz,Ym]at hth
 refine gk (k:=rt_ Tryz.results103 (k:=?_))
 exact⟨_,hsb,s6,rfl,by rw[hth]⟩
end Go.Sx
