import Derived.Test.YtefgpomabdplbaaGreatDoorQ19
set_option linter.unusedVariables false
set_option linter.unusedSimpArgs false
set_option linter.unusedSectionVars false
set_option linter.unnecessarySimpa false
set_option maxHeartbeats 0
namespace Go.Sx
open Go Go.Proofs
set_option maxRecDepth 100000
theorem tOf {G:cK}{H:cG}{q:ByteArray}(p:FV) [Spc H] (hS:gU G) (hq:q.size≤3000000):SC G Tryz.prog 170 [.agg [.string p.name, .int .i64 p.kind, .bool p.fold, .bool p.stop, .bool p.stem].toArray, .string q] H (fun v H'=> ∃s:SV,v=s.val∧H'=Row s eT (fO p (cF q))::H):=by
 have hl:=cL q
 refine sWk Tryz.func170 Tryz.ntmps170 ?_
 refine gk (k:=bxx (k:=fun b2=>?_))
 refine e_ asn (k:=on_ (qn_ (ws_ (wr_ (e_ mv (k:=e_ mv (k:=e_ nT (k:=e_ (bld [(0,_),(4,_)]) (k:=alc (k:=fun b5=>?_))))))))))
 refine go ?_
 refine gk (k:=wi_ (k:=fun h1=>?_) (m:=fun h1=>?_))
 ·have hk:p.kind=1:=h1
  have hT:fO p (cF q)=(gC (cF q)).filterMap (lR p):=by rw[fO,if_pos hk]
  refine go ?_
  refine c1_ rfl (Mg p hS) (k:=?_)
  rintro _ _ ⟨c7,s0,rfl,rfl⟩
  refine go ?_
  refine c1_ rfl (EM (aa)) (k:=?_)
  rintro _ _ ⟨s25,rfl,rfl⟩
  have hwn:=o8 (cF q)
  refine gk (k:=dt (SV×Nat) (fun y=> y.2≤(gC (cF q)).length) (fun y=> [(6,y.1.val),(27, .int .i64 ((y.2:Nat):Int))]) [(7,_),(25,_),(26,_)] (fun y=> [Row y.1 eT (((gC (cF q)).take y.2).filterMap (lR p))]) _ (fun y=> (gC (cF q)).length - y.2) ((SV.nil,0)) (h0:=?_) (k:=?_))
  ·try dsimp only
   exact Yl _
  rintro⟨s,i⟩ hi
  try dsimp only[Yd,Ye]at*
  refine gk (k:=wi_ (k:=fun h2=>?_) (m:=fun h2=>?_))
  ·obtain⟨t,ht⟩:∃t,(gC (cF q))[i]? =some t:=⟨_,Yi (aa)⟩
   obtain⟨htl,htz⟩:=Eb (k7 q) (Yj ht)
   have hbt:=fa htl
   have hts:=jg t.text
   have hfm:=JV (f:=lR p) ht
   have hfl:=Nq (lR p) (gC (cF q)) i
   refine gk (k:=alc (k:=fun b9=>?_))
   refine go ?_
   refine c2_ rfl (EP (CW p s0) (aa) (fun s hm=> IT hm inferInstance)) (k:=?_)
   rintro _ _ ⟨r,b,rfl,hr,rfl⟩
   rw[A0,hbt]at hr
   refine gk (k:=wi_ (k:=fun h3=>?_) (m:=fun h3=>?_))
   ·have hk1:=Gq hr h3
    rw[hk1,Option.toList_some]at hfm
    refine gk (k:=gz eT (k:=fun s43=>?_))
    refine app (k:=fun s44=>?_)
    rw[←hfm]
    refine go ?_
    refine ln_ ((s44,i+1)) (k:=?_)
    try dsimp only
    omega
   have hk0:=JJ hr h3
   rw[hk0]at hfm
   rw[Option.toList_none,Ym]at hfm
   rw[←hfm]
   refine go ?_
   refine ln_ ((s,i+1)) (k:=?_)
   try dsimp only
   omega
  obtain rfl:i=(gC (cF q)).length:=aa
  rw[List.take_length]at*
  refine go ?_
  refine rt_ Tryz.results170 (k:=?_)
  rw[hT]
  exact⟨_,hsb,s,rfl,rfl⟩
 have hk1:¬p.kind=1:=h1
 refine gk (k:=wi_ (k:=fun h4=>?_) (m:=fun h4=>?_))
 ·have hk2:p.kind=2:=h4
  refine gk (k:=wi_ (k:=fun h5=>?_) (m:=fun h5=>?_))
  ·have hT:fO p (cF q)= [⟨cF q,0,0,0,q.size⟩]:=by rw[fO,if_neg hk1,if_pos hk2,if_pos (aa),hl]
   refine gk (k:=gz eT (k:=fun s53=>?_))
   refine gk (k:=rt_ Tryz.results170 (k:=?_))
   rw[hT]
   exact⟨_,hsb,_,rfl,rfl⟩
  have hT:fO p (cF q)= []:=by rw[fO,if_neg hk1,if_pos hk2,if_neg (aa)]
  refine gk (k:=rt_ Tryz.results170 (k:=?_))
  rw[hT]
  exact⟨_,hsb,SV.nil,rfl,rfl⟩
 have hk2:¬p.kind=2:=h4
 refine gk (k:=wi_ (k:=fun h6=>?_) (m:=fun h6=>?_))
 ·have hk3:p.kind=3:=h6
  refine go ?_
  refine c1_ rfl (BA (aa)) (k:=?_)
  rintro _ _ ⟨n,b,rfl,hnb,rfl⟩
  refine gk (k:=wi_ (k:=fun h7=>?_) (m:=fun h7=>?_))
  ·obtain⟨hP,hb⟩:gi (cF q)=some n∧(-9223372036854775808≤n∧n≤9223372036854775807):=by
    rcases hnb with⟨_,h1,h2⟩|⟨h1,_⟩
    ·exact⟨h1,h2⟩
    ·rw[h1]at h7;cases h7
   have hT:fO p (cF q)= [⟨kA n,0,0,0,q.size⟩]:=by rw[fO,if_neg hk1,if_neg hk2,if_pos hk3,hP,hl]
   refine go ?_
   refine d1_ rfl (NS hb) (k:=gk (k:=gz eT (k:=fun s66=>?_)))
   refine gk (k:=rt_ Tryz.results170 (k:=?_))
   rw[hT,fa (Jy n)]
   exact⟨_,hsb,_,rfl,rfl⟩
  have hP:gi (cF q)=none:=by
   rcases hnb with⟨h1,_⟩|⟨_,h1⟩
   ·rw[h1]at h7;cases h7
   ·exact h1
  have hT:fO p (cF q)= []:=by rw[fO,if_neg hk1,if_neg hk2,if_pos hk3,hP]
  refine gk (k:=rt_ Tryz.results170 (k:=?_))
  rw[hT]
  exact⟨_,hsb,SV.nil,rfl,rfl⟩
 have hk3:¬p.kind=3:=h6
 have hT:fO p (cF q)= []:=by rw[fO,if_neg hk1,if_neg hk2,if_neg hk3]
 refine gk (k:=rt_ Tryz.results170 (k:=?_))
 rw[hT]
 exact⟨_,hsb,SV.nil,rfl,rfl⟩
def eVl:Enc (ByteArray×ByteArray):=⟨fun p=> [.string p.1, .string p.2],2,true,fun _=> rfl,fun p v h=> by simp at h;rcases h with rfl|rfl <;> rfl,ag,fun h=> aG,ag⟩
instance {p:ByteArray×ByteArray}:jG eVl p (.agg [.string p.1, .string p.2].toArray):=⟨rfl⟩
instance {a b:ByteArray}:fK eVl (.agg [.string a, .string b].toArray) (a,b):=⟨rfl⟩
instance {l:List Nat}{a b c d:Nat}:fK eT (.agg [.string (dL l), .int .i64 ((a:Nat):Int), .int .i64 ((b:Nat):Int), .int .i64 ((c:Nat):Int), .int .i64 ((d:Nat):Int)].toArray) ⟨l,a,b,c,d⟩:=⟨rfl⟩
theorem evq {G:cK}{P:Program}{o:Oper}{t:Tm}{H:cG}{u v:Value}(h:Ev G P o t H u) (e:u=v):Ev G P o t H v:=e ▸ h
theorem I4 (w:List Nat):∀(i:Nat) (a:Option Nat) (out:List Tok),ej w i=(a,out)→∀t∈out,t.pos≤out.length:=by
 intro i
 induction i with
 |zero=> intro a out h;cases h;simp
 |succ i ih=>
  intro a out h
  obtain⟨a0,o0,h0⟩:∃a0 o0,ej w i=(a0,o0):=⟨_,_,rfl⟩
  have h1:=ih a0 o0 h0
  cases hin:inW w i <;> cases a0 with
  |none=>
   first
   |(rw[pC h0 hin]at h;cases h;exact h1)
   |(rw[lC h0 hin]at h;cases h;exact h1)
  |some a0=>
   first
   |(rw[pD h0 hin]at h;cases h
     intro t ht
     simp only[Ya,Yb,Yc]
     rcases List.mem_append.1 ht with ht|ht
     ·have:=h1 t ht;omega
     ·obtain rfl:=List.mem_singleton.1 ht
      show o0.length≤_;omega)
   |(rw[sN h0 hin]at h;cases h;exact h1)
theorem ED {p:FV}{w:List Nat}{t:Tok}(h:t∈fO p w):t.pos≤w.length+1:=by
 rw[fO]at h
 split at h
 ·obtain⟨t0,h0,hk⟩:=List.mem_filterMap.1 h
  have h1:t0.pos≤(gC w).length:=I4 w _ _ _ rfl t0 h0
  have h2:=o8 w
  rw[lR]at hk
  split at hk
  ·split at hk
   ·cases hk;show t0.pos≤_;omega
   ·cases hk
  ·cases hk
 ·split at h
  ·split at h
   ·obtain rfl:=List.mem_singleton.1 h;exact Yl _
   ·cases h
  ·split at h
   ·split at h
    ·obtain rfl:=List.mem_singleton.1 h;exact Yl _
    ·cases h
   ·cases h
theorem sR (p:FV) (w:List Nat):(fO p w).length≤w.length+1:=by
 rw[fO]
 split
 ·exact Xi (List.length_filterMap_le _ _) (o8 w)
 ·split
  ·split <;> simp
  ·split
   ·split <;> simp
   ·simp
def yv (i b:Nat) (t:Tok):Tok:=⟨t.text,i,t.pos+b,t.st,t.en⟩
def iu (p:FV) (w:List Nat):Nat:=if p.kind=1 then(gC w).length else 1
def eZ (p:FV) (vs:List (ByteArray×ByteArray)):Nat→Nat×List Tok
 | 0=> (0, [])
 |i+1=> match vs[i]? with
  |none=> eZ p vs i
  |some v=> if cF v.1=cF p.name then((eZ p vs i).1+(iu p (cF v.2)+16),(eZ p vs i).2++(fO p (cF v.2)).map (yv i (eZ p vs i).1))else eZ p vs i
def et (fs:List FV) (k:Nat) (vs:List (ByteArray×ByteArray)):List Tok:=match fs[k]? with
 |some p=> (eZ p vs vs.length).2
 |none=> []
def vsz (vs:List (ByteArray×ByteArray)):Nat:=(vs.map fun v=> v.2.size+20).sum
theorem xw {vs:List (ByteArray×ByteArray)}{i:Nat}{v:ByteArray×ByteArray}(h:vs[i]? =some v):vsz (vs.take (i+1))=vsz (vs.take i)+(v.2.size+20):=by
 simp[vsz,List.take_add_one,h]
theorem nG:∀(l:List Nat) (i:Nat),(l.take i).sum≤l.sum
 | [],i=> an
 |x::l,0=> an
 |x::l,i+1=> by
  have:=nG l i
  simp only[List.take_succ_cons,List.sum_cons];omega
theorem zY (vs:List (ByteArray×ByteArray)) (i:Nat):vsz (vs.take i)≤vsz vs:=by
 rw[vsz,vsz,List.map_take];exact nG _ _
theorem AX {p:FV}{vs:List (ByteArray×ByteArray)}{i b:Nat}{out:List Tok}{v:ByteArray×ByteArray}(h:eZ p vs i=(b,out)) (hv:vs[i]? =some v) (hn:¬cF v.1=cF p.name):eZ p vs (i+1)=(b,out):=by
 rw[eZ,hv];simp only[if_neg hn];exact h
theorem wM {p:FV}{vs:List (ByteArray×ByteArray)}{i b:Nat}{out:List Tok}{v:ByteArray×ByteArray}(h:eZ p vs i=(b,out)) (hv:vs[i]? =some v) (hn:cF v.1=cF p.name):eZ p vs (i+1)=(b+(iu p (cF v.2)+16),out++(fO p (cF v.2)).map (yv i b)):=by
 rw[eZ,hv];simp only[if_pos hn,h]
theorem xq (p:FV) (w:List Nat):iu p w≤w.length+1:=by
 rw[iu];split
 ·exact o8 w
 ·omega
theorem AY (p:FV) (vs:List (ByteArray×ByteArray)):∀(i b:Nat) (out:List Tok),eZ p vs i=(b,out)→b≤vsz (vs.take i)∧out.length≤vsz (vs.take i):=by
 intro i
 induction i with
 |zero=> intro b out h;cases h;simp
 |succ i ih=>
  intro b out h
  obtain⟨b0,o0,h0⟩:∃b0 o0,eZ p vs i=(b0,o0):=⟨_,_,rfl⟩
  obtain⟨h1,h2⟩:=ih b0 o0 h0
  cases hv:vs[i]? with
  |none=>
   have e:eZ p vs (i+1)=eZ p vs i:=by rw[eZ,hv]
   rw[e,h0]at h;cases h
   have:vs.take (i+1)=vs.take i:=by rw[List.take_add_one,hv];simp
   rw[this];exact⟨h1,h2⟩
  |some v=>
   rw[xw hv]
   have hl:=cL v.2
   by_cases hn:cF v.1=cF p.name
   ·rw[wM h0 hv hn]at h;cases h
    have h3:=xq p (cF v.2)
    have h4:=sR p (cF v.2)
    simp only[Ya,Yh]
    omega
   ·rw[AX h0 hv hn]at h;cases h;omega
theorem BY {α β:Type}{f:α→β}{l:List α}{j:Nat}{x:α}(h:l[j]? =some x):(l.take (j+1)).map f=(l.take j).map f++ [f x]:=by
 rw[List.take_add_one,h];simp
theorem M8 {G:cK}{H:cG}{fv vv:SV}{fs:List FV}{k:Nat}{vs:List (ByteArray×ByteArray)} [hf:Sl H fv eF fs] [hv:Sl H vv eVl vs] [Spc H] (hS:gU G) (hk:k≤1000000) (hfl:fs.length≤1000000) (hn:vs.length≤100000000) (hq:∀v∈vs,v.2.size≤3000000) (hz:vsz vs≤1000000000):SC G Tryz.prog 140 [.agg [fv.val].toArray, .int .i64 (k:Int),vv.val] H (fun v H'=> ∃s:SV,v=s.val∧H'=Row s eT (et fs k vs)::H):=by
 refine sWk Tryz.func140 Tryz.ntmps140 ?_
 refine ws_ (wr_ (bxx (k:=fun b3=>?_)))
 refine e_ asn (k:=on_ (qn_ (ws_ (ws_ (wr_ (e_ mv (k:=e_ ilt (k:=e_ mv (k:=dN 6 23 (k:=fun h1=>eg_ mv (k:=eg_ fla (k:=eg_ ldv (k:=eg_ lnn (k:=eg_ ige (k:=e_ pkf (k:=on_ (edq)))))))) (q:=on_ (qn_ (wi_ (k:=fun h2=>?_) (m:=fun h2=>?_)))))))))))))
 ·have hT:et fs k vs= []:=by rw[et,List.getElem?_eq_none (aa)]
  refine ws_ (wr_ (e_ asn (k:=on_ (qn_ (wt_ (qr_ (rt_ Tryz.results140 (k:=?_))))))))
  rw[hT]
  exact⟨_,hsb,SV.nil,rfl,rfl⟩
 obtain⟨p,hp⟩:∃p,fs[k]? =some p:=⟨_,Yi (aa)⟩
 have hT:et fs k vs=(eZ p vs vs.length).2:=by rw[et,hp]
 refine wk_ (qn_ (ws_ (wr_ (e_ fla (k:=e_ ldv (k:=e_ mv (k:=e_ ixa (k:=e_ jn (k:=alc (k:=fun b7=>?_))))))))))
 refine sto (k:=on_ (qn_ (ws_ (wr_ (e_ asn (k:=on_ (qn_ (ws_ (wr_ (e_ asn (k:=on_ (qn_ (ws_ (?_))))))))))))))
 refine ws_ (wr_ (e_ mv (k:=e_ lnn (k:=e_ mv (k:=on_ (qn_ (wb_ (dt (SV×Nat×Nat×(List Tok)) (fun y=> y.2.1≤vs.length∧eZ p vs y.2.1=(y.2.2.1,y.2.2.2)) (fun y=> [(8,y.1.val),(9, .int .i64 ((y.2.2.1:Nat):Int)),(31, .int .i64 ((y.2.1:Nat):Int))]) [(7,_),(29,_),(30,_)] (fun y=> [Row y.1 eT y.2.2.2]) _ (fun y=> vs.length - y.2.1) ((SV.nil,0,0, [])) (h0:=?_) (k:=?_)))))))))
 ·try dsimp only
  exact⟨Yl _,rfl⟩
 rintro⟨s,i,b,out⟩ ⟨hi,hst⟩
 try dsimp only[Yd,Ye]at*
 refine ws_ (wr_ (e_ ilt (k:=on_ (qn_ (ws_ (wi_ (k:=fun h3=>?_) (m:=fun h3=>?_)))))))
 ·obtain⟨v,hvi⟩:∃v,vs[i]? =some v:=⟨_,Yi (aa)⟩
  have hvq:=hq v (Yj hvi)
  have hvl:=cL v.2
  have hle:=AY p vs i b out hst
  have hzi:=zY vs i
  have hzt:=zY vs (i+1)
  rw[xw hvi]at hzt
  refine wk_ (qn_ (ws_ (wb_ (ws_ (wr_ (e_ mv (k:=e_ ixa (k:=e_ jn (k:=alc (k:=fun b11=>?_))))))))))
  refine e_ asn (k:=sto (k:=on_ (qn_ (ws_ (ws_ (wr_ (e_ fla (k:=e_ ldv (k:=e_ fla (k:=e_ ldv (k:=e_ Oa (k:=on_ (qn_ (?_))))))))))))))
  refine wi_ (k:=fun h4=>?_) (m:=fun h4=>?_)
  ·have hno:=AX hst hvi h4
   refine we_ (qe_ (bh_ (qn_ (wr_ (e_ iad (k:=e_ mv (k:=on_ (?_))))))))
   refine ln_ ((s,i+1,b,out)) (k:=?_)
   try dsimp only
   exact⟨aa,hno⟩
  have hye:=wM hst hvi (by have h:=h4;simpa using h)
  have htl:=sR p (cF v.2)
  refine wk_ (qn_ (ws_ (ws_ (wr_ (e_ lds (k:=e_ fla (k:=e_ ldv (k:=?_))))))))
  refine c2_ rfl (tOf p hS (aa)) (k:=?_)
  rintro _ _ ⟨s44,rfl,rfl⟩
  refine e_ lnn (k:=e_ mv (k:=on_ (qn_ (wb_ (dt (SV×Nat×(List Tok)) (fun y=> y.2.1≤(fO p (cF v.2)).length∧y.2.2=out++((fO p (cF v.2)).take y.2.1).map (yv i b)) (fun y=> [(8,y.1.val),(46, .int .i64 ((y.2.1:Nat):Int))]) [(7,_),(9,_),(10,_),(11,_),(29,_),(30,_),(31,_),(44,_),(45,_)] (fun y=> [Row y.1 eT y.2.2]) _ (fun y=> (fO p (cF v.2)).length - y.2.1) ((s,0,out)) (h0:=?_) (k:=?_))))))
  ·try dsimp only
   exact⟨Yl _,an⟩
  rintro⟨s2,j,o2⟩ ⟨hj,ho2⟩
  try dsimp only[Yd,Ye]at*
  refine ws_ (wr_ (e_ ilt (k:=on_ (qn_ (ws_ (wi_ (k:=fun h5=>?_) (m:=fun h5=>?_)))))))
  ·obtain⟨t,ht⟩:∃t,(fO p (cF v.2))[j]? =some t:=⟨_,Yi (aa)⟩
   have htp:=ED (Yj ht)
   have hmt:=BY (f:=yv i b) ht
   have hol:o2.length≤out.length+j:=by rw[ho2,Ya,Yh,Yg];omega
   refine wk_ (qn_ (ws_ (wb_ (ws_ (wr_ (e_ ixa (k:=e_ jn (k:=alc (k:=fun b13=>?_)))))))))
   refine sto (k:=on_ (qn_ (ws_ (wr_ (e_ mv (k:=e_ fla (k:=sto (k:=on_ (qn_ (ws_ (wr_ (e_ fla (k:=e_ ldv (k:=?_))))))))))))))
   refine e_ mv (k:=?_)
   refine e_ (evq iad (congrArg (Value.int .i64) (show _=((t.pos+b:Nat):Int)from aa))) (k:=?_)
   refine e_ fla (k:=sto (k:=on_ (qn_ (wr_ (e_ mv (k:=e_ lds (k:=gz eT (k:=fun s59=>?_))))))))
   refine app (k:=fun s60=>?_)
   refine e_ asn (k:=on_ (bn_ (qn_ (wr_ (e_ iad (k:=e_ mv (k:=on_ (?_))))))))
   refine ln_ ((s60,j+1,o2++ [yv i b t])) (k:=?_)
   try dsimp only
   exact⟨aa,by rw[hmt,←Yf,←ho2]⟩
  obtain rfl:j=(fO p (cF v.2)).length:=aa
  rw[List.take_length]at ho2
  rw[←ho2]at hye
  have hwl:=xq p (cF v.2)
  refine we_ (qe_ (le_ (bh_ (qn_ (ws_ (wr_ (e_ asn (k:=on_ (qn_ (ws_ (ws_ (wr_ (e_ fla (k:=?_))))))))))))))
  refine e_ ldv (k:=e_ ieq (k:=on_ (qn_ (wi_ (k:=fun h6=>?_) (m:=fun h6=>?_)))))
  ·have hw:iu p (cF v.2)=(gC (cF v.2)).length:=by rw[iu,if_pos (by have h:=h6;simpa using h)]
   refine wr_ (e_ fla (k:=e_ ldv (k:=?_)))
   refine c1_ rfl (EM (aa)) (k:=?_)
   rintro _ _ ⟨s67,rfl,rfl⟩
   refine e_ lnn (k:=e_ asn (k:=on_ (qn_ (wr_ (e_ mv (k:=e_ mv (k:=e_ iad (k:=?_))))))))
   refine e_ (evq iad (congrArg (Value.int .i64) (show _=((b+(iu p (cF v.2)+16):Nat):Int)from aa))) (k:=?_)
   refine e_ asn (k:=on_ (bn_ (qn_ (wr_ (e_ iad (k:=e_ mv (k:=on_ (?_))))))))
   refine ln_ ((s2,i+1,b+(iu p (cF v.2)+16),o2)) (k:=?_)
   try dsimp only
   exact⟨aa,hye⟩
  have hw:iu p (cF v.2)=1:=by rw[iu,if_neg (by have h:=h6;simpa using h)]
  refine wk_ (qn_ (wr_ (e_ mv (k:=e_ mv (k:=e_ iad (k:=?_))))))
  refine e_ (evq iad (congrArg (Value.int .i64) (show _=((b+(iu p (cF v.2)+16):Nat):Int)from aa))) (k:=?_)
  refine e_ asn (k:=on_ (bn_ (qn_ (wr_ (e_ iad (k:=e_ mv (k:=on_ (?_))))))))
  refine ln_ ((s2,i+1,b+(iu p (cF v.2)+16),o2)) (k:=?_)
  try dsimp only
  exact⟨aa,hye⟩
 obtain rfl:i=vs.length:=aa
 rw[hst]at hT
 refine we_ (qe_ (le_ (bh_ (qn_ (ws_ (wr_ (e_ mv (k:=e_ asn (k:=on_ (qn_ (wt_ (rt_ Tryz.results140 (k:=?_)))))))))))))
 rw[hT]
 exact⟨_,hsb,s,rfl,rfl⟩
def iw (k:Int) (w:List Nat):Bool:=
 if k=2 then !decide (w= []) && decide (w.length≤64)else if k=3 then(gi w).isSome else true
theorem LA {G:cK}{H:cG}{k:Int}{q:ByteArray}(hq:q.size≤1000000000):SC G Tryz.prog 139 [.int .i64 k, .string q] H (fun v H'=> v= .bool (iw k (cF q))∧H'=H):=by
 have hl:=cL q
 refine sWk Tryz.func139 Tryz.ntmps139 ?_
 refine go ?_
 refine gk (k:=wi_ (k:=fun h1=>?_) (m:=fun h1=>?_))
 ·have hk:k=2:=h1
  refine ws_ (wr_ (e_ mv (k:=e_ Oa (k:=gk (k:=dh 4 16 (k:=fun h2=>gk (k:=edq)) (q:=gk (k:=rt_ Tryz.results139 (k:=?_))))))))
  refine⟨_,hsb,vb ?_,rfl⟩
  rw[iw,if_pos hk,hl]
  simp only[Bool.and_eq_true,Bool.not_eq_true',decide_eq_false_iff_not,decide_eq_true_eq]
  constructor
  ·rintro⟨h1,h2⟩;exact⟨h1,aa⟩
  ·rintro⟨h1,h2⟩;exact⟨h1,aa⟩
 have hk2:¬k=2:=h1
 refine gk (k:=wi_ (k:=fun h3=>?_) (m:=fun h3=>?_))
 ·have hk3:k=3:=h3
  refine go ?_
  refine c1_ rfl (BA (aa)) (k:=?_)
  rintro _ _ ⟨n,b,rfl,hnb,rfl⟩
  refine go ?_
  refine gk (k:=rt_ Tryz.results139 (k:=?_))
  refine⟨_,hsb,?_,rfl⟩
  rw[iw,if_neg hk2,if_pos hk3]
  rcases hnb with⟨h1,h2,_⟩|⟨h1,h2⟩ <;> rw[h1,h2] <;> rfl
 have hk3:¬k=3:=h3
 refine gk (k:=rt_ Tryz.results139 (k:=?_))
 refine⟨_,hsb,?_,rfl⟩
 rw[iw,if_neg hk2,if_neg hk3];all_goals rfl
def fk (fs:List FV) (w:List Nat):Option Nat:=fs.findIdx? fun p=> decide (cF p.name=w)
theorem wP {fs:List FV}{w:List Nat}{i:Nat}{p:FV}(h:fs[i]? =some p) (hn:cF p.name=w) (hb:∀j p',j<i→fs[j]? =some p'→¬cF p'.name=w):fk fs w=some i:=by
 have hi:=(Yk.1 h).1
 have e:fs[i]=p:=(Yk.1 h).2
 rw[fk,List.findIdx?_eq_some_iff_getElem]
 refine⟨hi,by simp[e,hn],fun j hj=> ?_⟩
 have:=hb j fs[j] hj (Yi (aa))
 simpa using this
theorem qX {fs:List FV}{w:List Nat}(hb:∀j p',j<fs.length→fs[j]? =some p'→¬cF p'.name=w):fk fs w=none:=by
 rw[fk,List.findIdx?_eq_none_iff]
 intro p hp
 obtain⟨j,hj⟩:=List.mem_iff_getElem?.1 hp
 simpa using hb j p (Yk.1 hj).1 hj
theorem Ou {G:cK}{H:cG}{s:SV}{fs:List FV}{q:ByteArray} [hs:Sl H s eF fs] (hn:fs.length≤1000000000):SC G Tryz.prog 135 [.agg [s.val].toArray, .string q] H (fun v H'=> ∃(k:Nat) (b:Bool),v= .tuple #[.int .i64 (k:Int), .bool b]∧((b=true∧fk fs (cF q)=some k)∨(b=false∧fk fs (cF q)=none))∧H'=H):=by
 refine sWk Tryz.func135 Tryz.ntmps135 ?_
 refine gk (k:=bxx (k:=fun b2=>?_))
 refine go ?_
 refine dt (Nat) (fun y=> y≤fs.length∧∀j p,j<y→fs[j]? =some p→¬cF p.name=cF q) (fun y=> [(11, .int .i64 ((y:Nat):Int))]) [(1,_),(9,_),(10,_)] (fun y=> []) _ (fun y=> fs.length - y) (0) (h0:=?_) (k:=?_)
 ·try dsimp only
  exact⟨Yl _,fun j e hj=> absurd hj (Nat.not_lt_zero _)⟩
 rintro i ⟨hi,hall⟩
 try dsimp only[Yd,Ye]at*
 refine gk (k:=wi_ (k:=fun h1=>?_) (m:=fun h1=>?_))
 ·obtain⟨p,hp⟩:∃p,fs[i]? =some p:=⟨_,Yi (aa)⟩
  refine gk (k:=alc (k:=fun b7=>?_))
  refine e_ asn (k:=sto (k:=on_ (qn_ (ws_ (wr_ (e_ fla (k:=e_ ldv (k:=e_ mv (k:=e_ y5 (k:=gk (k:=wi_ (k:=fun h2=>?_) (m:=fun h2=>?_))))))))))))
  ·have hf:=wP hp h2 hall
   refine gk (k:=rt_ Tryz.results135 (k:=?_))
   exact⟨_,hsb,i,true,rfl, .inl ⟨rfl,hf⟩,rfl⟩
  have hno:=h2
  refine go ?_
  refine ln_ (i+1) (k:=?_)
  try dsimp only
  refine⟨aa,fun j e' hj hje=> ?_⟩
  by_cases e0:j=i
  ·subst e0;rw[hp]at hje;cases hje;exact hno
  ·exact hall j e' (aa) hje
 have hf:fk fs (cF q)=none:=qX fun j p hj=> hall j p (aa)
 refine gk (k:=rt_ Tryz.results135 (k:=?_))
 exact⟨_,hsb,0,false,rfl, .inr ⟨rfl,hf⟩,rfl⟩
theorem O4 {G:cK}{H:cG}{s:SV}{fs:List FV}{q:ByteArray} [hs:Sl H s eF fs] (hn:fs.length≤1000000000):SC G Tryz.prog 181 [.agg [s.val].toArray, .string q] H (fun v H'=> ∃(k:Nat) (b:Bool),v= .tuple #[.int .i64 (k:Int), .bool b]∧((b=true∧fk fs (cF q)=some k)∨(b=false∧fk fs (cF q)=none))∧H'=H):=by
 refine sWk Tryz.func181 Tryz.ntmps181 ?_
 refine gk (k:=bxx (k:=fun b2=>?_))
 refine go ?_
 refine dt (Nat) (fun y=> y≤fs.length∧∀j p,j<y→fs[j]? =some p→¬cF p.name=cF q) (fun y=> [(11, .int .i64 ((y:Nat):Int))]) [(1,_),(9,_),(10,_)] (fun y=> []) _ (fun y=> fs.length - y) (0) (h0:=?_) (k:=?_)
 ·try dsimp only
  exact⟨Yl _,fun j e hj=> absurd hj (Nat.not_lt_zero _)⟩
 rintro i ⟨hi,hall⟩
 try dsimp only[Yd,Ye]at*
 refine gk (k:=wi_ (k:=fun h1=>?_) (m:=fun h1=>?_))
 ·obtain⟨p,hp⟩:∃p,fs[i]? =some p:=⟨_,Yi (aa)⟩
  refine gk (k:=alc (k:=fun b7=>?_))
  refine e_ asn (k:=sto (k:=on_ (qn_ (ws_ (wr_ (e_ fla (k:=e_ ldv (k:=e_ mv (k:=e_ y5 (k:=gk (k:=wi_ (k:=fun h2=>?_) (m:=fun h2=>?_))))))))))))
  ·have hf:=wP hp h2 hall
   refine gk (k:=rt_ Tryz.results181 (k:=?_))
   exact⟨_,hsb,i,true,rfl, .inl ⟨rfl,hf⟩,rfl⟩
  have hno:=h2
  refine go ?_
  refine ln_ (i+1) (k:=?_)
  try dsimp only
  refine⟨aa,fun j e' hj hje=> ?_⟩
  by_cases e0:j=i
  ·subst e0;rw[hp]at hje;cases hje;exact hno
  ·exact hall j e' (aa) hje
 have hf:fk fs (cF q)=none:=qX fun j p hj=> hall j p (aa)
 refine gk (k:=rt_ Tryz.results181 (k:=?_))
 exact⟨_,hsb,0,false,rfl, .inr ⟨rfl,hf⟩,rfl⟩
theorem yc {G:cK}{H:cG}(s:ByteArray) (hn:s.size≤1000000000000):SC G Tryz.prog 102 [.string s] H (fun v H'=> v= .bool (gx (cF s))∧H'=H):=by
 have hs:=cL s
 refine sWk Tryz.func102 Tryz.ntmps102 ?_
 refine ws_ (wr_ (e_ asn (k:=on_ (qn_ (ws_ (ws_ (wr_ (e_ mv (k:=e_ nT (k:=e_ ilt (k:=sp_ (mv) (k:=fun h1=>?_) (m:=fun h1=>?_))))))))))))
 ·refine gk (k:=ift (k:=go ?_))
  refine rt_ Tryz.results102 (k:=?_)
  have e:gx (cF s)=false:=bm
  exact⟨_,cJ.refl,by rw[e];all_goals rfl,rfl⟩
 refine gk (k:=wi_ (k:=fun h2=>?_) (m:=fun h2=>?_))
 ·refine gk (k:=rt_ Tryz.results102 (k:=?_))
  have e:gx (cF s)=false:=bm
  exact⟨_,cJ.refl,by rw[e];all_goals rfl,rfl⟩
 have e:gx (cF s)=oR 0 (cF s):=by unfold gx;rw[Ys (aa)];all_goals rfl
 refine gk (k:=wl_ (Nat) (fun i=> i≤s.size∧gx (cF s)=oR i ((cF s).drop i)) (fun i=> [(0, .string s),(3, .int .i64 ((i:Nat):Int))]) (fun _=> H) (fun i=> s.size - i) (0) (h0:=?_) (k:=?_))
 ·try dsimp only
  exact⟨Yl _,by rw[e,List.drop_zero]⟩
 rintro i ⟨hi,hI⟩
 try dsimp only at*
 refine gk (k:=wi_ (k:=fun h3=>?_) (m:=fun h3=>?_))
 ·obtain⟨c,hc⟩:∃c,(cF s)[i]? =some c:=⟨_,Yi (aa)⟩
  rw[dF hc,oR]at hI
  refine wk_ (qn_ (ws_ (wb_ (ws_ (wr_ (e_ mv (k:=e_ mv (k:=?_))))))))
  refine e_ (mP rfl rfl _ rfl _ (by first|assumption|rfl|exact Yi (aa))) (k:=?_)
  refine e_ asn (k:=on_ (qn_ (ws_ (wr_ (e_ mv (k:=e_ ige (k:=sp_ (mv) (k:=fun h4=>?_) (m:=fun h4=>?_))))))))
  ·refine eg_ mv (k:=eg_ ile (k:=e_ pkt (k:=e_ asn (k:=on_ (qn_ (ws_ (wr_ (e_ mv (k:=e_ k8 (k:=sp_ (mv) (k:=fun h5=>?_) (m:=fun h5=>?_)))))))))))
   ·refine eg_ mv (k:=eg_ ieq (k:=pN (mv) (k:=fun h6=>?_) (m:=fun h6=>?_)))
    ·refine go ?_
     refine ift (k:=gk (k:=rt_ Tryz.results102 (k:=?_)))
     exact⟨_,cJ.refl,ao,rfl⟩
    refine eg_ mv (k:=eg_ ine (k:=pN (mv) (k:=fun h7=>?_) (m:=fun h7=>?_)))
    ·refine eg_ mv (k:=eg_ ilt (k:=pN (mv) (k:=fun h8=>?_) (m:=fun h8=>?_)))
     ·refine gk (k:=ift (k:=go ?_))
      refine gk (k:=rt_ Tryz.results102 (k:=?_))
      exact⟨_,cJ.refl,ao,rfl⟩
     refine gk (k:=wi_ (k:=fun h9=>?_) (m:=fun h9=>?_))
     ·refine gk (k:=rt_ Tryz.results102 (k:=?_))
      exact⟨_,cJ.refl,ao,rfl⟩
     refine go ?_
     refine ln_ (i+1) (k:=?_)
     try dsimp only
     refine⟨aa,?_⟩
     rw[hI,show kL i c=true from Ys (aa),Bool.true_and]
    refine gk (k:=eg (k:=go ?_))
    refine go ?_
    refine ln_ (i+1) (k:=?_)
    try dsimp only
    refine⟨aa,?_⟩
    rw[hI,show kL i c=true from Ys (aa),Bool.true_and]
   refine go ?_
   refine gk (k:=eg (k:=go ?_))
   refine ln_ (i+1) (k:=?_)
   try dsimp only
   refine⟨aa,?_⟩
   rw[hI,show kL i c=true from Ys (aa),Bool.true_and]
  refine of_ (k:=of_ (k:=e_ pkf (k:=e_ asn (k:=on_ (qn_ (ws_ (wr_ (e_ mv (k:=e_ k8 (k:=e_ mv (k:=eg_ mv (k:=eg_ ieq (k:=pN (mv) (k:=fun h10=>?_) (m:=fun h10=>?_))))))))))))))
  ·refine go ?_
   refine ift (k:=gk (k:=rt_ Tryz.results102 (k:=?_)))
   exact⟨_,cJ.refl,ao,rfl⟩
  refine eg_ mv (k:=eg_ ine (k:=pN (mv) (k:=fun h11=>?_) (m:=fun h11=>?_)))
  ·refine eg_ mv (k:=eg_ ilt (k:=pN (mv) (k:=fun h12=>?_) (m:=fun h12=>?_)))
   ·refine gk (k:=ift (k:=go ?_))
    refine gk (k:=rt_ Tryz.results102 (k:=?_))
    exact⟨_,cJ.refl,ao,rfl⟩
   refine gk (k:=wi_ (k:=fun h13=>?_) (m:=fun h13=>?_))
   ·refine gk (k:=rt_ Tryz.results102 (k:=?_))
    exact⟨_,cJ.refl,ao,rfl⟩
   refine go ?_
   refine ln_ (i+1) (k:=?_)
   try dsimp only
   refine⟨aa,?_⟩
   rw[hI,show kL i c=true from Ys (aa),Bool.true_and]
  refine gk (k:=eg (k:=go ?_))
  refine go ?_
  refine ln_ (i+1) (k:=?_)
  try dsimp only
  refine⟨aa,?_⟩
  rw[hI,show kL i c=true from Ys (aa),Bool.true_and]
 obtain rfl:i=s.size:=aa
 rw[List.drop_of_length_le (aa),oR]at hI
 refine gk (k:=rt_ Tryz.results102 (k:=?_))
 exact⟨_,cJ.refl,by rw[hI];all_goals rfl,rfl⟩
theorem Fy {G:cK}{H:cG}{s:SV}{fs:List FV} [hs:Sl H s eF fs] (hn:fs.length≤1000000000) (hf:∀f∈fs,f.name.size≤1000000000000):SC G Tryz.prog 49 [.agg [s.val].toArray] H (fun v H'=> H'=H∧((fI fs=false∧v= .int .i64 11)∨(fI fs=true∧v= .int .i64 0))):=by
 refine sWk Tryz.func49 Tryz.ntmps49 ?_
 refine gk (k:=bxx (k:=fun b1=>?_))
 refine e_ asn (k:=on_ (qn_ (ws_ (ws_ (wr_ (e_ fla (k:=e_ ldv (k:=e_ lnn (k:=e_ ilt (k:=sp_ (mv) (k:=fun h1=>?_) (m:=fun h1=>?_)))))))))))
 ·refine gk (k:=ift (k:=go ?_))
  refine gk (k:=rt_ Tryz.results49 (k:=?_))
  have e:fI fs=false:=bu
  exact⟨_,hsb,rfl, .inl ⟨e,rfl⟩⟩
 refine gk (k:=wi_ (k:=fun h2=>?_) (m:=fun h2=>?_))
 ·refine gk (k:=rt_ Tryz.results49 (k:=?_))
  have e:fI fs=false:=bu
  exact⟨_,hsb,rfl, .inl ⟨e,rfl⟩⟩
 refine wk_ (qn_ (ws_ (ws_ (wr_ (?_)))))
 have e:fI fs=qp [] fs:=by unfold fI;rw[Ys (aa)];all_goals rfl
 refine gk (k:=wl_ (Nat) (fun i=> i≤fs.length∧fI fs=qp ((fs.take i).map nm) (fs.drop i)) (fun i=> [(1, .pointer (some ⟨b1,0,none⟩)),(18,s.val),(19, .int .i64 ((fs.length:Nat):Int)),(20, .int .i64 ((i:Nat):Int))]) (fun _=> Vr b1 [s.val]::H) (fun i=> fs.length - i) (0) (h0:=?_) (k:=?_))
 ·try dsimp only
  exact⟨Yl _,by rw[e,List.drop_zero];all_goals rfl⟩
 rintro i ⟨hi,hI⟩
 try dsimp only at*
 refine gk (k:=wi_ (k:=fun h3=>?_) (m:=fun h3=>?_))
 ·obtain⟨f,hfi⟩:∃f,fs[i]? =some f:=⟨_,Yi (aa)⟩
  have hfn:=hf f (Yj hfi)
  rw[dF hfi,qp]at hI
  refine gk (k:=alc (k:=fun b2=>?_))
  refine go ?_
  refine d1_ rfl (yc f.name hfn) (k:=e_ asn (k:=on_ (qn_ (ws_ (ws_ (wr_ (e_ mv (k:=e_ k8 (k:=sp_ (mv) (k:=fun h4=>?_) (m:=fun h4=>?_))))))))))
  ·refine gk (k:=ift (k:=go ?_))
   refine gk (k:=rt_ Tryz.results49 (k:=?_))
   have hk:gx (cF f.name)=false∨fE f=false:=by
    first
     |exact .inl (aH)
     |exact .inr (bT)
   rcases hk with hk|hk <;> exact⟨_,hsb,rfl, .inl ⟨cA,rfl⟩⟩
  refine eg_ fla (k:=eg_ ldv (k:=eg_ ilt (k:=e_ pkf (k:=sp_ (mv) (k:=fun h5=>?_) (m:=fun h5=>?_)))))
  ·refine gk (k:=ift (k:=go ?_))
   refine gk (k:=rt_ Tryz.results49 (k:=?_))
   have hk:gx (cF f.name)=false∨fE f=false:=by
    first
     |exact .inl (aH)
     |exact .inr (bT)
   rcases hk with hk|hk <;> exact⟨_,hsb,rfl, .inl ⟨cA,rfl⟩⟩
  refine gk (k:=wi_ (k:=fun h6=>?_) (m:=fun h6=>?_))
  ·refine gk (k:=rt_ Tryz.results49 (k:=?_))
   have hk:gx (cF f.name)=false∨fE f=false:=by
    first
     |exact .inl (aH)
     |exact .inr (bT)
   rcases hk with hk|hk <;> exact⟨_,hsb,rfl, .inl ⟨cA,rfl⟩⟩
  refine wk_ (qn_ (ws_ (ws_ (wr_ (e_ fla (k:=e_ ldv (k:=e_ ine (k:=sp_ (mv) (k:=fun h7=>?_) (m:=fun h7=>?_)))))))))
  ·refine eg_ fla (k:=eg_ ldv (k:=pN (mv) (k:=fun h8=>?_) (m:=fun h8=>?_)))
   ·refine gk (k:=ift (k:=go ?_))
    refine gk (k:=rt_ Tryz.results49 (k:=?_))
    have hk:fE f=false:=by
     clear hI;unfold fE;rw[if_neg (aa),if_pos (aa)];simp_all
    exact⟨_,hsb,rfl, .inl ⟨cA,rfl⟩⟩
   refine eg_ fla (k:=eg_ ldv (k:=eg_ pkf (k:=pN (mv) (k:=fun h9=>?_) (m:=fun h9=>?_))))
   ·refine gk (k:=ift (k:=go ?_))
    refine gk (k:=rt_ Tryz.results49 (k:=?_))
    have hk:fE f=false:=by
     clear hI;unfold fE;rw[if_neg (aa),if_pos (aa)];simp_all
    exact⟨_,hsb,rfl, .inl ⟨cA,rfl⟩⟩
   refine gk (k:=wi_ (k:=fun h10=>?_) (m:=fun h10=>?_))
   ·refine gk (k:=rt_ Tryz.results49 (k:=?_))
    have hk:fE f=false:=by
     clear hI;unfold fE;rw[if_neg (aa),if_pos (aa)];simp_all
    exact⟨_,hsb,rfl, .inl ⟨cA,rfl⟩⟩
   refine wk_ (qn_ (ws_ (wr_ (?_))))
   have hgn:gx (cF f.name)=true:=aH
   have hgk:fE f=true:=by
    clear hI;unfold fE
    by_cases hk1:f.kind=1
    ·rw[if_pos hk1]
    ·rw[if_neg hk1,if_pos (aa)];simp_all
   rw[hgn,hgk]at hI
   refine gk (k:=wl_ (Nat) (fun j=> j≤i∧∀j' g,j'<j→fs[j']? =some g→cF g.name≠cF f.name) (fun j=> [(1, .pointer (some ⟨b1,0,none⟩)),(3, .int .i64 ((i:Nat):Int)),(4, .pointer (some ⟨b2,0,none⟩)),(6, .int .i64 ((j:Nat):Int)),(18,s.val),(19, .int .i64 ((fs.length:Nat):Int)),(20, .int .i64 ((i:Nat):Int))]) (fun _=> Vr b2 [.string f.name, .int .i64 f.kind, .bool f.fold, .bool f.stop, .bool f.stem]::Vr b1 [s.val]::H) (fun j=> i - j) (0) (h0:=?_) (k:=?_))
   ·try dsimp only
    exact⟨Yl _,fun j' g h=> absurd h (Nat.not_lt_zero _)⟩
   rintro j ⟨hj,hall⟩
   try dsimp only at*
   refine gk (k:=wi_ (k:=fun h11=>?_) (m:=fun h11=>?_))
   ·obtain⟨g,hgj⟩:∃f,fs[j]? =some f:=⟨_,Yi (aa)⟩
    refine go ?_
    refine cX cI (as_ 0 (q:=fla) (k:=as_ 1 (q:=ldv) (k:=as_ 2 (q:=mv) (k:=?_))))
    refine cE 3 rfl rfl (a8) rfl (dz (di rfl rfl j rfl (aa))) (?_)
    refine as_ 4 (q:=fle) (k:=?_)
    refine cE 5 rfl rfl (a8) rfl (dz (pk rfl (bQ) g hgj (bQ))) (?_)
    refine as_ 6 (q:=fla) (k:=as_ 7 (q:=ldv) (k:=?_))
    refine cE 8 rfl rfl (a8) rfl (dz (mQ rfl rfl)) (?_)
    refine az_ (k:=gk (k:=wi_ (k:=fun h12=>?_) (m:=fun h12=>?_)))
    ·refine go ?_
     refine gk (k:=rt_ Tryz.results49 (k:=?_))
     refine⟨_,hsb,rfl, .inl ⟨?_,rfl⟩⟩
     have hm:cF f.name∈(fs.take i).map nm:=by
         refine List.mem_map.2 ⟨g,?_,aH⟩
         exact Yj (i:=j) (by rw[List.getElem?_take_of_lt (aa)];exact hgj)
     rw[hI,Ys hm];all_goals rfl
    refine go ?_
    refine ln_ (j+1) (k:=?_)
    try dsimp only
    refine⟨aa,fun j' g' hj' hg'=> ?_⟩
    rcases Nat.lt_or_eq_of_le (Nat.le_of_lt_succ hj')with h|rfl
    ·exact hall j' g' h hg'
    ·rw[hgj]at hg';cases hg';assumption
   obtain rfl:i=j:=aa
   have hno:cF f.name ∉(fs.take i).map nm:=by
    intro hm
    obtain⟨g,hg,he⟩:=List.mem_map.1 hm
    obtain⟨k,hk⟩:=List.mem_iff_getElem?.1 hg
    have hkl:=(Yk.1 hk).1
    rw[Yg]at hkl
    rw[List.getElem?_take_of_lt (aa)]at hk
    exact hall k g (aa) hk he
   rw[Yr hno]at hI
   refine go ?_
   refine ln_ (i+1) (k:=?_)
   try dsimp only
   refine⟨aa,?_⟩
   rw[hI,cP hfi,List.map_append];all_goals rfl
  refine gk (k:=eg (k:=?_))
  refine wk_ (qn_ (ws_ (wr_ (?_))))
  have hgn:gx (cF f.name)=true:=aH
  have hgk:fE f=true:=by
   clear hI;unfold fE
   by_cases hk1:f.kind=1
   ·rw[if_pos hk1]
   ·rw[if_neg hk1,if_pos (aa)];simp_all
  rw[hgn,hgk]at hI
  refine gk (k:=wl_ (Nat) (fun j=> j≤i∧∀j' g,j'<j→fs[j']? =some g→cF g.name≠cF f.name) (fun j=> [(1, .pointer (some ⟨b1,0,none⟩)),(3, .int .i64 ((i:Nat):Int)),(4, .pointer (some ⟨b2,0,none⟩)),(6, .int .i64 ((j:Nat):Int)),(18,s.val),(19, .int .i64 ((fs.length:Nat):Int)),(20, .int .i64 ((i:Nat):Int))]) (fun _=> Vr b2 [.string f.name, .int .i64 f.kind, .bool f.fold, .bool f.stop, .bool f.stem]::Vr b1 [s.val]::H) (fun j=> i - j) (0) (h0:=?_) (k:=?_))
  ·try dsimp only
   exact⟨Yl _,fun j' g h=> absurd h (Nat.not_lt_zero _)⟩
  rintro j ⟨hj,hall⟩
  try dsimp only at*
  refine gk (k:=wi_ (k:=fun h13=>?_) (m:=fun h13=>?_))
  ·obtain⟨g,hgj⟩:∃f,fs[j]? =some f:=⟨_,Yi (aa)⟩
   refine go ?_
   refine cX cI (as_ 0 (q:=fla) (k:=as_ 1 (q:=ldv) (k:=as_ 2 (q:=mv) (k:=?_))))
   refine cE 3 rfl rfl (a8) rfl (dz (di rfl rfl j rfl (aa))) (?_)
   refine as_ 4 (q:=fle) (k:=?_)
   refine cE 5 rfl rfl (a8) rfl (dz (pk rfl (bQ) g hgj (bQ))) (?_)
   refine as_ 6 (q:=fla) (k:=as_ 7 (q:=ldv) (k:=?_))
   refine cE 8 rfl rfl (a8) rfl (dz (mQ rfl rfl)) (?_)
   refine az_ (k:=gk (k:=wi_ (k:=fun h14=>?_) (m:=fun h14=>?_)))
   ·refine go ?_
    refine gk (k:=rt_ Tryz.results49 (k:=?_))
    refine⟨_,hsb,rfl, .inl ⟨?_,rfl⟩⟩
    have hm:cF f.name∈(fs.take i).map nm:=by
     refine List.mem_map.2 ⟨g,?_,aH⟩
     exact Yj (i:=j) (by rw[List.getElem?_take_of_lt (aa)];exact hgj)
    rw[hI,Ys hm];all_goals rfl
   refine go ?_
   refine ln_ (j+1) (k:=?_)
   try dsimp only
   refine⟨aa,fun j' g' hj' hg'=> ?_⟩
   rcases Nat.lt_or_eq_of_le (Nat.le_of_lt_succ hj')with h|rfl
   ·exact hall j' g' h hg'
   ·rw[hgj]at hg';cases hg';assumption
  obtain rfl:i=j:=aa
  have hno:cF f.name ∉(fs.take i).map nm:=by
   intro hm
   obtain⟨g,hg,he⟩:=List.mem_map.1 hm
   obtain⟨k,hk⟩:=List.mem_iff_getElem?.1 hg
   have hkl:=(Yk.1 hk).1
   rw[Yg]at hkl
   rw[List.getElem?_take_of_lt (aa)]at hk
   exact hall k g (aa) hk he
  rw[Yr hno]at hI
  refine go ?_
  refine ln_ (i+1) (k:=?_)
  try dsimp only
  refine⟨aa,?_⟩
  rw[hI,cP hfi,List.map_append];all_goals rfl
 obtain rfl:i=fs.length:=aa
 rw[List.drop_of_length_le (Nat.le_refl _),qp]at hI
 refine gk (k:=rt_ Tryz.results49 (k:=?_))
 exact⟨_,hsb,rfl, .inr ⟨hI,rfl⟩⟩
end Go.Sx
