import Derived.Test.YtefgpomabdplbaaGreatDoorQ26
set_option linter.unusedVariables false
set_option linter.unusedSimpArgs false
set_option linter.unusedSectionVars false
set_option linter.unnecessarySimpa false
set_option maxHeartbeats 0
namespace Go.Sx
open Go Go.Proofs
set_option maxRecDepth 100000
def eEn:Enc En:=⟨fun e=> [.string e.key, .int .i64 ((e.docs:Nat):Int), .int .i64 ((e.tot:Nat):Int), .int .i64 ((e.at_:Nat):Int), .int .i64 ((e.size:Nat):Int)],5,true,fun _=> rfl,fun p v h=> by simp at h;rcases h with rfl|rfl|rfl|rfl|rfl <;> rfl,ag,fun h=> aG,ag⟩
instance {e:En}:jG eEn e (.agg [.string e.key, .int .i64 ((e.docs:Nat):Int), .int .i64 ((e.tot:Nat):Int), .int .i64 ((e.at_:Nat):Int), .int .i64 ((e.size:Nat):Int)].toArray):=⟨rfl⟩
instance {s:ByteArray}{a b c d:Nat}:fK eEn (.agg [.string s, .int .i64 ((a:Nat):Int), .int .i64 ((b:Nat):Int), .int .i64 ((c:Nat):Int), .int .i64 ((d:Nat):Int)].toArray) ⟨s,a,b,c,d⟩:=⟨rfl⟩
def gG (e:En):List Nat:= [e.docs,e.tot,e.at_,e.size]
def FY (e:En):List Value:=(gG e).map fun n=> Value.int .i64 ((n:Nat):Int)
theorem vw {e:En}{i x:Nat}(h:(gG e)[i]? =some x):(FY e)[i]? =some (.int .i64 ((x:Nat):Int)):=by rw[FY,Xd,h];all_goals rfl
theorem KQ {G:cK}{H:cG}{s:ByteArray}{a b c d:Nat}:SC G Tryz.prog 204 [.agg [.string s, .int .i64 ((a:Nat):Int), .int .i64 ((b:Nat):Int), .int .i64 ((c:Nat):Int), .int .i64 ((d:Nat):Int)].toArray] H (fun v H'=> v= .agg (FY ⟨s,a,b,c,d⟩).toArray∧H'=H):=by
 refine sWk Tryz.func204 Tryz.ntmps204 ?_
 refine gk (k:=bxx (k:=fun b1=>?_))
 refine alc (k:=fun b2=>?_)
 refine on_ (qn_ (ws_ (wr_ (e_ fla (k:=e_ ldv (k:=e_ fla (k:=e_ ldv (k:=e_ fla (k:=e_ ldv (k:=e_ fla (k:=e_ ldv (k:=?_))))))))))))
 refine e_ (vK [.int .i64 ((a:Nat):Int), .int .i64 ((b:Nat):Int), .int .i64 ((c:Nat):Int), .int .i64 ((d:Nat):Int)] rfl rfl) (k:=?_)
 refine gk (k:=rt_ Tryz.results204 (k:=?_))
 exact⟨_,hsb,rfl,rfl⟩
theorem Bv {G:cK}{H:cG}{a b:ByteArray}(ha:a.size≤1000000000000) (hb:b.size≤1000000000000):SC G Tryz.prog 209 [.string a, .string b] H (fun v H'=> v= .int .i64 ((dE (cF a) (cF b):Nat):Int)∧H'=H):=by
 have hal:=cL a
 have hbl:=cL b
 refine sWk Tryz.func209 Tryz.ntmps209 ?_
 refine gk (k:=dt (Nat) (fun y=> y≤a.size∧y≤b.size∧∀j,j<y→at0 (cF a) j=at0 (cF b) j) (fun y=> [(5, .int .i64 ((y:Nat):Int))]) [(0,_),(1,_)] (fun y=> []) _ (fun y=> a.size - y) (0) (h0:=?_) (k:=?_))
 ·try dsimp only
  exact⟨Yl _,Yl _,fun j h=> aa⟩
 rintro k ⟨hk1,hk2,hkj⟩
 try dsimp only[Yd,Ye]at*
 refine go ?_
 refine cX cI (as_ 0 (q:=mv) (k:=as_ 1 (q:=mv) (k:=as_ 2 (q:=nT) (k:=as_ 3 (q:=ilt) (k:=?_)))))
 refine gq 4 rfl rfl (a8) rfl (dz (mv)) (fun h1=> ?_) (fun h1=> ?_)
 ·replace h1:=nrm h1
  refine at2 5 (q:=mv) (k:=at2 6 (q:=mv) (k:=at2 7 (q:=nT) (k:=at2 8 (q:=ilt) (k:=as_ 9 (q:=pkt) (k:=?_)))))
  refine gq 10 rfl rfl (a8) rfl (dz (mv)) (fun h2=> ?_) (fun h2=> ?_)
  ·replace h2:=nrm h2
   refine at2 11 (q:=mv) (k:=at2 12 (q:=mv) (k:=at2 13 (q:=ixs) (k:=at2 14 (q:=mv) (k:=at2 15 (q:=mv) (k:=at2 16 (q:=ixs) (k:=at2 17 (q:=ieq) (k:=as_ 18 (q:=pkt) (k:=az_ (k:=gk (k:=wi_ (k:=fun h3=>?_) (m:=fun h3=>?_)))))))))))
   ·have hnx:∀j,j<k+1→at0 (cF a) j=at0 (cF b) j:=fun j hj=> by
     by_cases h9:j<k
     ·exact hkj j h9
     ·obtain rfl:j=k:=by omega
      omega
    refine go ?_
    refine ln_ (k+1) (k:=?_)
    try dsimp only
    exact⟨aa,aa,hnx⟩
   have hend:k=(cF a).length∨k=(cF b).length∨at0 (cF a) k≠at0 (cF b) k:= .inr (.inr (aa))
   refine gk (k:=rt_ Tryz.results209 (k:=?_))
   exact⟨_,hsb,cc,rfl⟩
  replace h2:=nrm h2
  have hend:k=(cF a).length∨k=(cF b).length∨at0 (cF a) k≠at0 (cF b) k:= .inr (.inl (aa))
  refine ao_ 11 (k:=ao_ 12 (k:=ao_ 13 (k:=ao_ 14 (k:=ao_ 15 (k:=ao_ 16 (k:=ao_ 17 (k:=as_ 18 (q:=pkf) (k:=az_ (k:=gk (k:=eg (k:=go ?_)))))))))))
  refine gk (k:=rt_ Tryz.results209 (k:=?_))
  exact⟨_,hsb,cc,rfl⟩
 replace h1:=nrm h1
 have hend:k=(cF a).length∨k=(cF b).length∨at0 (cF a) k≠at0 (cF b) k:= .inl (aa)
 refine ao_ 5 (k:=ao_ 6 (k:=ao_ 7 (k:=ao_ 8 (k:=as_ 9 (q:=pkf) (k:=as_ 10 (q:=mv) (k:=ao_ 11 (k:=ao_ 12 (k:=ao_ 13 (k:=ao_ 14 (k:=ao_ 15 (k:=ao_ 16 (k:=ao_ 17 (k:=as_ 18 (q:=pkf) (k:=?_))))))))))))))
 refine az_ (k:=gk (k:=eg (k:=go ?_)))
 refine gk (k:=rt_ Tryz.results209 (k:=?_))
 exact⟨_,hsb,cc,rfl⟩
theorem IP {G:cK}{H:cG}{s:SV}{l:List En} [hs:Sl H s eEn l] (hl:l.length≤16) (hsm:jv l):SC G Tryz.prog 205 [s.val] H (fun v H'=> ∃s':SV,v=s'.val∧H'=Row s' eB (dI [] l)::H):=by
 refine sWk Tryz.func205 Tryz.ntmps205 ?_
 refine go ?_
 refine c0_ rfl (fM) (k:=?_)
 rintro _ _ ⟨bw,rfl,rfl⟩
 refine e_ asn (k:=on_ (qn_ (ws_ (wr_ (e_ asn (k:=on_ (qn_ (ws_ (ws_ (wr_ (?_)))))))))))
 rw[show Wr bw []=Wr bw (dI [] (l.take 0))from rfl]
 refine gk (k:=dt (Nat×ByteArray) (fun y=> y.1≤l.length∧cF y.2=kC [] (l.take y.1)∧y.2.size≤1000) (fun y=> [(4, .string y.2),(13, .int .i64 ((y.1:Nat):Int))]) [(3,_),(11,_),(12,_)] (fun y=> [Wr bw (dI [] (l.take y.1))]) _ (fun y=> l.length - y.1) ((0,⟨#[]⟩)) (h0:=?_) (k:=?_))
 ·try dsimp only
  exact⟨Yl _,rfl,Yl _⟩
 rintro⟨i,q⟩ ⟨hi,hq,hqs⟩
 try dsimp only[Yd,Ye]at*
 refine gk (k:=wi_ (k:=fun h1=>?_) (m:=fun h1=>?_))
 ·obtain⟨e,he⟩:∃e,l[i]? =some e:=⟨_,Yi (aa)⟩
  have hse:=hsm e (Yj he)
  have hsh:=km (cF q) (cF e.key)
  have hbl:=cL e.key
  have hpl:=lY (p:= []) (wj hsm i)
  rw[Yg]at hpl
  have hen:=yY (prev:=cF q) hse
  obtain⟨pre,hpre⟩:∃pre,pre=dI [] (l.take i):=⟨_,rfl⟩
  rw[←hpre]
  rw[←hpre]at hpl
  have hu1:=ef (n:=dE (cF q) (cF e.key)) (k:=6) (aa) (aa)
  have hu2:=ef (n:=(cF e.key).length - dE (cF q) (cF e.key)) (k:=6) (aa) (aa)
  refine gk (k:=alc (k:=fun b6=>?_))
  refine go ?_
  refine d2_ rfl (Bv (aa) (aa)) (k:=e_ asn (k:=on_ (qn_ (ws_ (wr_ (e_ mv (k:=e_ mv (k:=?_))))))))
  refine e_ ((ae)) (k:=?_)
  refine d2_ rfl (ek _ (aa) (aa)) (k:=on_ (qn_ (ws_ (wr_ (e_ mv (k:=e_ fla (k:=e_ ldv (k:=e_ mv (k:=e_ (J1 (a:=dE (cF q) (cF e.key))) (k:=?_))))))))))
  refine d2_ rfl (Ei _ (ai) (by rw[ByteArray.size_extract];omega)) (k:=?_)
  rw[show uv (e.key.extract (dE (cF q) (cF e.key)) e.key.size).size++cF (e.key.extract (dE (cF q) (cF e.key)) e.key.size)=uv ((cF e.key).length - dE (cF q) (cF e.key))++(cF e.key).drop (dE (cF q) (cF e.key))from by rw[vZ,ByteArray.size_extract,hbl,Nat.min_self]]
  obtain⟨p2,hp2⟩:∃p2,p2=pre++uv (dE (cF q) (cF e.key))++(uv ((cF e.key).length - dE (cF q) (cF e.key))++(cF e.key).drop (dE (cF q) (cF e.key))):=⟨_,rfl⟩
  have hp2l:p2.length≤pre.length+1100:=by rw[hp2];simp only[Ya,Yo];omega
  rw[←hp2]
  refine go ?_
  refine d1_ rfl (KQ) (k:=?_)
  rw[show Wr bw p2=Wr bw (p2++((gG e).take 0).flatMap uv)from an]
  refine gk (k:=dt (Nat) (fun y=> y≤4) (fun y=> [(33, .int .i64 ((y:Nat):Int))]) [(3,_),(6,_),(11,_),(12,_),(13,_),(32,_)] (fun y=> [Wr bw (p2++((gG e).take y).flatMap uv)]) _ (fun y=> 4 - y) (0) (h0:=?_) (k:=?_))
  ·try dsimp only
   exact Yl _
  rintro m hm
  try dsimp only[Yd,Ye]at*
  refine gk (k:=wi_ (k:=fun h2=>?_) (m:=fun h2=>?_))
  ·obtain⟨x,hx⟩:∃x,(gG e)[m]? =some x:=⟨_,Yi (by show _<4;omega)⟩
   have hxv:=vw hx
   have hxl:x<1099511627776:=by
    have:=Yj hx
    simp only[gG,List.mem_cons,List.not_mem_nil,or_false]at this
    rcases this with rfl|rfl|rfl|rfl <;> omega
   have hstp:((gG e).take (m+1)).flatMap uv=((gG e).take m).flatMap uv++uv x:=by rw[cP hx];simp
   have hfl:(((gG e).take m).flatMap uv).length≤24:=by
    have h4:∀y∈gG e,(uv y).length≤6:=fun y hy=> by
     simp only[gG,List.mem_cons,List.not_mem_nil,or_false]at hy
     rcases hy with rfl|rfl|rfl|rfl <;> exact ef (aa) (aa)
    have h5:∀z:List Nat,(∀y∈z,(uv y).length≤6)→(z.flatMap uv).length≤6*z.length:=by
     intro z
     induction z with
     |nil=> intro _;simp
     |cons y z ih=> intro hz;have:=ih (fun w hw=> hz w (Xa _ hw));have:=hz y (an);simp only[List.flatMap_cons,Ya,Yb];omega
    have:=h5 ((gG e).take m) (fun y hy=> h4 y (Yq hy))
    rw[Yg]at this;omega
   refine wk_ (qn_ (ws_ (wb_ (ws_ (wr_ (?_))))))
   refine e_ (vJ m rfl rfl rfl (aa) hxv) (k:=?_)
   refine e_ asn (k:=on_ (qn_ (wr_ (e_ mv (k:=e_ mv (k:=?_))))))
   refine e_ ((ae)) (k:=?_)
   refine d2_ rfl (ek x (aa) (ai)) (k:=?_)
   rw[Yf,←hstp]
   refine go ?_
   refine ln_ (m+1) (k:=?_)
   try dsimp only
   omega
  obtain rfl:m=4:=aa
  rw[show p2++((gG e).take 4).flatMap uv=dI [] (l.take (i+1))from by rw[mT he,←hq,lZ,hp2,hpre];simp[gG]]
  refine go ?_
  refine go ?_
  refine ln_ ((i+1,e.key)) (k:=?_)
  try dsimp only
  exact⟨aa,(pe he _).symm,aa⟩
 obtain rfl:i=l.length:=aa
 rw[List.take_length]
 have hpl:=lY (p:= []) hsm
 refine go ?_
 refine c1_ rfl (iv (aa)) (k:=?_)
 rintro _ _ ⟨s45,rfl,rfl⟩
 refine gk (k:=rt_ Tryz.results205 (k:=?_))
 exact⟨_,hsb,s45,rfl,rfl⟩
theorem O6 {G:cK}{H:cG}{s:SV}{l:List En} [hs:Sl H s eEn l] (hl:l.length≤100000000) (hok:rV l):SC G Tryz.prog 177 [s.val] H (fun v H'=> ∃s':SV,v= .tuple #[s'.val, .nilIface]∧H'=Row s' eB (fA l)::H):=by
 have hsm:=tH hok
 have hST:=mW hsm
 have hbk:16*eQ l≤l.length+15:=cq
 refine sWk Tryz.func177 Tryz.ntmps177 ?_
 refine go ?_
 refine gk (k:=dt (Nat) (fun y=> y≤l.length) (fun y=> [(15, .int .i64 ((y:Nat):Int))]) [(0,_),(13,_),(14,_)] (fun y=> []) _ (fun y=> l.length - y) (0) (h0:=?_) (k:=?_))
 ·try dsimp only
  exact Yl _
 rintro i hi
 try dsimp only[Yd,Ye]at*
 refine gk (k:=wi_ (k:=fun h1=>?_) (m:=fun h1=>?_))
 ·obtain⟨e,he⟩:∃e,l[i]? =some e:=⟨_,Yi (aa)⟩
  obtain⟨k1,k2,k3,k4,k5,k6⟩:=hok.1 e (Yj he)
  refine gk (k:=alc (k:=fun b5=>?_))
  refine gk (k:=dN 5 28 (k:=fun h2=>gk (k:=edq)) (q:=go ?_))
  refine wi_ (k:=fun h3=>?_) (m:=fun h3=>?_)
  ·exact absurd h3 (aa)
  refine go ?_
  refine d1_ rfl (KQ) (k:=gk (k:=dt (Nat) (fun y=> y≤4) (fun y=> [(32, .int .i64 ((y:Nat):Int))]) [(0,_),(13,_),(14,_),(15,_),(31,_)] (fun y=> []) _ (fun y=> 4 - y) (0) (h0:=?_) (k:=?_)))
  ·try dsimp only
   exact Yl _
  rintro m hm
  try dsimp only[Yd,Ye]at*
  refine gk (k:=wi_ (k:=fun h4=>?_) (m:=fun h4=>?_))
  ·obtain⟨x,hx⟩:∃x,(gG e)[m]? =some x:=⟨_,Yi (by show _<4;omega)⟩
   have hxv:=vw hx
   have hxl:x≤2147483647:=by
    have:=Yj hx
    simp only[gG,List.mem_cons,List.not_mem_nil,or_false]at this
    rcases this with rfl|rfl|rfl|rfl <;> omega
   refine wk_ (qn_ (ws_ (wb_ (ws_ (wr_ (?_))))))
   refine e_ (vJ m rfl rfl rfl (aa) hxv) (k:=?_)
   refine e_ asn (k:=on_ (qn_ (ws_ (wr_ (e_ mv (k:=e_ ilt (k:=e_ mv (k:=dN 3 40 (k:=fun h5=>eg_ mv (k:=eg_ igt (k:=e_ pkf (k:=on_ (edq))))) (q:=on_ (qn_ (wi_ (k:=fun h6=>?_) (m:=fun h6=>?_))))))))))))
   ·exact absurd h6 (aa)
   refine go ?_
   refine ln_ (m+1) (k:=?_)
   try dsimp only
   omega
  refine go ?_
  refine ln_ (i+1) (k:=?_)
  try dsimp only
  omega
 refine gk (k:=dt (Nat) (fun y=> 1≤y) (fun y=> [(8, .int .i64 ((y:Nat):Int))]) [(0,_)] (fun y=> []) _ (fun y=> l.length - y) (1) (h0:=?_) (k:=?_))
 ·try dsimp only
  exact Nat.le_refl _
 rintro i hi
 try dsimp only[Yd,Ye]at*
 refine gk (k:=wi_ (k:=fun h7=>?_) (m:=fun h7=>?_))
 ·obtain⟨e,he⟩:∃e,l[i]? =some e:=⟨_,Yi (aa)⟩
  obtain⟨d,hd⟩:∃d,l[i - 1]? =some d:=⟨_,Yi (aa)⟩
  have hlt:=hok.2 (i - 1) d e hd (by rw[Nat.sub_add_cancel hi];exact he)
  refine go ?_
  refine cX cI (as_ 0 (q:=mv) (k:=as_ 1 (q:=mv) (k:=as_ 2 (q:=ixa) (k:=as_ 3 (q:=fle) (k:=as_ 4 (q:=lfl) (k:=as_ 5 (q:=mv) (k:=as_ 6 (q:=mv) (k:=as_ 7 (q:=isb) (k:=as_ 8 (q:=ixa) (k:=as_ 9 (q:=fle) (k:=as_ 10 (q:=lfl) (k:=?_))))))))))))
  refine cE 11 rfl rfl (a8) rfl (dz (Q4)) (?_)
  refine az_ (k:=gk (k:=wi_ (k:=fun h8=>?_) (m:=fun h8=>?_)))
  ·exact absurd hlt h8
  refine go ?_
  refine ln_ (i+1) (k:=?_)
  try dsimp only
  omega
 refine go ?_
 refine c0_ rfl (fM) (k:=?_)
 rintro _ _ ⟨bo,rfl,rfl⟩
 refine e_ asn (k:=on_ (qn_ (ws_ (wr_ (e_ mv (k:=e_ mv (k:=e_ lnn (k:=?_))))))))
 refine e_ ((ae)) (k:=?_)
 refine d2_ rfl (ek l.length (aa) (an)) (k:=go ?_)
 refine c0_ rfl (fM) (k:=?_)
 rintro _ _ ⟨bb,rfl,rfl⟩
 refine e_ asn (k:=on_ (qn_ (ws_ (ws_ (wr_ (?_))))))
 obtain⟨hd,hhd⟩:∃hd,hd= []++uv l.length:=⟨_,rfl⟩
 have hhl:hd.length≤6:=by rw[hhd];exact ef (aa) (aa)
 rw[←hhd,show Wr bo hd=Wr bo (hd++(dn l 0).1)from by simp[dn],show Wr bb []=Wr bb (dn l 0).2 from rfl]
 refine gk (k:=dt (Nat) (fun y=> y≤eQ l) (fun y=> [(11, .int .i64 ((16*y:Nat):Int))]) [(0,_),(9,_),(10,_)] (fun y=> [Wr bo (hd++(dn l y).1),Wr bb (dn l y).2]) _ (fun y=> eQ l - y) (0) (h0:=?_) (k:=?_))
 ·try dsimp only
  exact Yl _
 rintro k hk
 try dsimp only[Yd,Ye]at*
 refine gk (k:=wi_ (k:=fun h9=>?_) (m:=fun h9=>?_))
 ·have hlt:16*k<l.length:=by omega
  have hkb:k<eQ l:=cq
  obtain⟨hS1,hS2⟩:=hST k
  have hblen:=o6 l k
  have hbs:=nL hsm k
  have hbl:=lY (p:= []) hbs
  have hu:=ef (n:=(dI [] (eC l k)).length) (k:=6) (aa) (aa)
  refine wk_ (qn_ (ws_ (wb_ (ws_ (wr_ (e_ mv (k:=e_ mv (k:=e_ mv (k:=e_ iad (k:=e_ mv (k:=e_ lnn (k:=?_))))))))))))
  refine e_ (mN rfl rfl) (k:=?_)
  refine kW H rfl (16*k) (min (16*k+16) l.length) ⟨_,_,rfl,(aN)⟩ ⟨_,_,rfl,(aN)⟩ (aa) (aP) rfl (fun sb ib=>?_)
  rw[xB]at ib
  haveI ib2:Sl H sb eEn (eC l k):=ib
  refine c1_ rfl (IP (l:=eC l k) (aa) hbs) (k:=?_)
  rintro _ _ ⟨s84,rfl,rfl⟩
  refine e_ asn (k:=on_ (qn_ (ws_ (wr_ (e_ mv (k:=e_ mv (k:=e_ lnn (k:=?_))))))))
  refine e_ ((ae)) (k:=?_)
  refine d2_ rfl (ek _ (aa) (ai)) (k:=go ?_)
  refine d2_ rfl (zW (aa) (aa)) (k:=on_ (bn_ (qn_ (wr_ (?_)))))
  rw[show hd++(dn l k).1++uv (dI [] (eC l k)).length=hd++(dn l (k+1)).1 from by simp[dn],show(dn l k).2++dI [] (eC l k)=(dn l (k+1)).2 from rfl,show((16*k:Nat):Int)+16=((16*(k+1):Nat):Int)from aa]
  refine go ?_
  refine ln_ (k+1) (k:=?_)
  try dsimp only
  omega
 obtain rfl:k=eQ l:=by unfold eQ at*;omega
 obtain⟨hS1,hS2⟩:=hST (eQ l)
 refine go ?_
 refine c1_ rfl (iv (aa)) (k:=?_)
 rintro _ _ ⟨s95,rfl,rfl⟩
 refine d2_ rfl (zW (ai) (aa)) (k:=?_)
 rw[show hd++(dn l (eQ l)).1++(dn l (eQ l)).2=fA l from by rw[hhd];simp[fA]]
 have hDl:=DL hsm (aa)
 refine go ?_
 refine c1_ rfl (iv (aa)) (k:=?_)
 rintro _ _ ⟨s98,rfl,rfl⟩
 refine gk (k:=rt_ Tryz.results177 (k:=?_))
 exact⟨_,hsb,s98,rfl,rfl⟩
theorem Pn {G:cK}{H R:cG}{b:Nat}{xs:List Nat} [hr:Rem H Wr b xs R]:SC G Tryz.prog 175 [.pointer (some ⟨b,0,none⟩)] H (fun v H'=> v= .int .i64 ((xs.length:Nat):Int)∧H'=Wr b xs::R):=by
 refine tt hr fun s=> ?_
 refine sWk Tryz.func175 Tryz.ntmps175 ?_
 refine go ?_
 refine gk (k:=rt_ Tryz.results175 (k:=?_))
 exact⟨_,hsb,rfl,rfl⟩
theorem Lv {G:cK}{H R:cG}{b:Nat}{xs:List Nat} [hr:Rem H Wr b xs R]:SC G Tryz.prog 145 [.pointer (some ⟨b,0,none⟩)] H (fun v H'=> v= .tuple #[]∧H'=Wr b []::R):=by
 refine tt hr fun s=> ?_
 refine sWk Tryz.func145 Tryz.ntmps145 ?_
 refine gk (k:=rt_ Tryz.results145 (k:=?_))
 exact⟨_,hsb,rfl,rfl⟩
theorem xN {fs:List FV}{v:Val}(hf:fs.length≤1000000) (hv:v.2.size≤3000000):(eG fs v).length≤v.2.size+20:=by
 have h1:(fk fs (cF v.1)).getD 0≤fs.length:=by
  cases h:fk fs (cF v.1)with
  |none=> simp
  |some i=> obtain⟨p,hp,_⟩:=ot h;have:=(Yk.1 hp).1;simp;omega
 have h2:=ef (n:=(fk fs (cF v.1)).getD 0) (k:=6) (aa) (aa)
 have h3:=ef (n:=v.2.size) (k:=6) (aa) (aa)
 simp only[eG,Ya,cL];omega
theorem mi {fs:List FV}(hf:fs.length≤1000000):∀{vs:List Val},(∀v∈vs,v.2.size≤3000000)→(vs.flatMap (eG fs)).length≤vsz vs
 | [],_=> an
 |v::vs,h=> by
  have h1:=xN hf (h v (an))
  have h2:=mi hf (fun u hu=> h u (Xa _ hu))
  simp only[List.flatMap_cons,Ya,vsz,List.map_cons,List.sum_cons]at h2⊢
  omega
theorem iM {fs:List FV}(hf:fs.length≤1000000):∀{ds:List Doc},(∀d∈ds,d.2.length≤100000000∧∀v∈d.2,v.2.size≤3000000)→(ep fs ds).length≤10*ds.length+dsz ds
 | [],_=> by simp[ep]
 |d::ds,h=> by
  have h1:=mi hf (h d (an)).2
  have h2:=iM hf (fun u hu=> h u (Xa _ hu))
  have h3:=ef (n:=d.2.length) (k:=6) (by have:=(h d (an)).1;omega) (aa)
  simp only[ep,pK,List.flatMap_cons,Ya,dsz,List.map_cons,List.sum_cons,Yb]at h2⊢
  omega
theorem Is {G:cK}{H:cG}{g:Nat}{fv dv:SV}{v3 v4:Value}{fs:List FV}{l:List (Int×SV)}{ds:List Doc} [hg:cQ H g [fv.val,dv.val,v3,v4]] [hf:Sl H fv eF fs] [hd:Sl H dv eD l] (hdi:ga H l ds) (hfl:fs.length≤1000000) (hn:ds.length≤100000) (hq:∀d∈ds,d.2.length≤100000000∧∀v∈d.2,v.2.size≤3000000) (hz:dsz ds≤30000000) (hfd:∀d∈ds,∀v∈d.2,∃k,fk fs (cF v.1)=some k):
 SC G Tryz.prog 147 [.pointer (some ⟨g,0,none⟩)] H (fun v H'=> ∃s:SV,v=s.val∧H'=Row s eB (ep fs ds)::H):=by
 have hll:=hdi.1
 refine sWk Tryz.func147 Tryz.ntmps147 ?_
 refine go ?_
 refine c0_ rfl (fM) (k:=?_)
 rintro _ _ ⟨bw,rfl,rfl⟩
 refine e_ asn (k:=on_ (qn_ (ws_ (ws_ (wr_ (?_))))))
 rw[show Wr bw []=Wr bw (ep fs (ds.take 0))from rfl]
 refine gk (k:=dt (Nat) (fun y=> y≤l.length) (fun y=> [(16, .int .i64 ((y:Nat):Int))]) [(0,_),(3,_),(14,_),(15,_)] (fun y=> [Wr bw (ep fs (ds.take y))]) _ (fun y=> l.length - y) (0) (h0:=?_) (k:=?_))
 ·try dsimp only
  exact Yl _
 rintro i hi
 try dsimp only[Yd,Ye]at*
 refine gk (k:=wi_ (k:=fun h1=>?_) (m:=fun h1=>?_))
 ·obtain⟨d,s,vs,hli,hdj,hsl⟩:=hdi.get (i:=i) (aa)
  have hmem:=Yj hdj
  obtain⟨hq1,hq2⟩:=hq _ hmem
  have hvz:=sG hmem
  have hsl1:=iM (fs:=fs) (ds:=ds.take i) hfl (fun d hd=> hq d (Yq hd))
  have hdz:=Hl ds i
  rw[Yg]at hsl1
  simp only at hq1 hq2 hvz
  obtain⟨pre,hpre⟩:∃pre,pre=ep fs (ds.take i):=⟨_,rfl⟩
  rw[←hpre]at hsl1⊢
  have hstp:ep fs (ds.take (i+1))=pre++uv vs.length++vs.flatMap (eG fs):=by rw[cP hdj,hpre];simp[ep,pK]
  have hu:=ef (n:=vs.length) (k:=6) (aa) (aa)
  refine gk (k:=alc (k:=fun b5=>?_))
  refine sto (k:=on_ (qn_ (ws_ (wr_ (e_ mv (k:=e_ fla (k:=e_ ldv (k:=e_ lnn (k:=?_)))))))))
  refine e_ ((ae)) (k:=?_)
  refine d2_ rfl (ek _ (aa) (aa)) (k:=on_ (qn_ (ws_ (wr_ (?_)))))
  rw[show Wr bw (pre++uv vs.length)=Wr bw (pre++uv vs.length++(vs.take 0).flatMap (eG fs))from an]
  refine gk (k:=dt (Nat) (fun y=> y≤vs.length) (fun y=> [(29, .int .i64 ((y:Nat):Int))]) [(0,_),(3,_),(14,_),(15,_),(16,_),(27,_),(28,_)] (fun y=> [Wr bw (pre++uv vs.length++(vs.take y).flatMap (eG fs))]) _ (fun y=> vs.length - y) (0) (h0:=?_) (k:=?_))
  ·try dsimp only
   exact Yl _
  rintro j hj
  try dsimp only[Yd,Ye]at*
  refine gk (k:=wi_ (k:=fun h2=>?_) (m:=fun h2=>?_))
  ·obtain⟨v,hv⟩:∃v,vs[j]? =some v:=⟨_,Yi (aa)⟩
   have hvs:=hq2 v (Yj hv)
   have hvl:=mi (fs:=fs) (vs:=vs.take j) hfl (fun u hu=> hq2 u (Yq hu))
   have hvz2:=zY vs j
   obtain⟨p2,hp2⟩:∃p2,p2=pre++uv vs.length++(vs.take j).flatMap (eG fs):=⟨_,rfl⟩
   have hp2l:p2.length≤100000000:=by rw[hp2];simp only[Ya];omega
   have hst2:pre++uv vs.length++(vs.take (j+1)).flatMap (eG fs)=p2++eG fs v:=by rw[hp2,cP hv];simp
   rw[←hp2]
   refine gk (k:=alc (k:=fun b7=>?_))
   refine go ?_
   refine df cI (fun i=> [6].contains i) (fun k H=> (k=2→cQ H g [fv.val,dv.val,v3,v4])∧(k=3→cQ H g [fv.val,dv.val,v3,v4])∧(k=5→cQ H b7 [.string v.1, .string v.2])) (af_ 0 (q:=cD fun H hH=>mv) (k:=af_ 1 (q:=cD fun H hH=>nck) (k:=?_)))
   refine cE 2 rfl rfl (a8) rfl (cD fun H hH=>bn) (?_)
   refine cE 3 rfl rfl (a8) rfl (cD fun H hH=>by have hN:=hH.2.1 rfl;exact lds) (?_)
   refine af_ 4 (q:=cD fun H hH=>fla) (k:=?_)
   refine cE 5 rfl rfl (a8) rfl (cD fun H hH=>aZ) (?_)
   refine cN 6 rfl (a8) rfl (fun k hk=> ⟨fun hi=> ab,fun hi=> ab,fun hi=> ab⟩) (cW (vs:= [_,_]) rfl (O4 (aa))) ?_
   rintro _ _ ⟨k,b,rfl,hkb,rfl⟩
   refine af_ 7 (q:=cD fun H hH=>mv) (k:=af_ 8 (q:=cD fun H hH=>exr) (k:=af_ 9 (q:=cD fun H hH=>exr) (k:=af_ 10 (q:=cD fun H hH=>asn) (k:=af_ 11 (q:=cD fun H hH=>asn) (k:=db (a8) (fun k hk=> ⟨fun hi=> ab,fun hi=> absurd hk (ad),fun hi=> absurd hk (ad)⟩) (qn_ (ws_ (wr_ (?_)))))))))
   obtain⟨k0,hk0⟩:=hfd _ hmem v (Yj hv)
   obtain rfl:k0=k:=by
    rcases hkb with⟨_,h9⟩|⟨_,h9⟩
    ·rw[hk0]at h9;exact Option.some.inj h9
    ·rw[hk0]at h9;cases h9
   obtain⟨pf,hpf,_⟩:=ot hk0
   have hkl:=(Yk.1 hpf).1
   have hu2:=ef (n:=k0) (k:=6) (aa) (aa)
   refine e_ mv (k:=e_ mv (k:=?_))
   refine e_ ((ae)) (k:=?_)
   refine d2_ rfl (ek _ (aa) (aa)) (k:=go ?_)
   refine d2_ rfl (Ei _ (ai) (aa)) (k:=?_)
   rw[show p2++uv k0++(uv v.2.size++cF v.2)=pre++uv vs.length++(vs.take (j+1)).flatMap (eG fs)from by rw[hst2,eG,hk0];simp]
   refine go ?_
   refine ln_ (j+1) (k:=?_)
   try dsimp only
   omega
  obtain rfl:j=vs.length:=aa
  rw[List.take_length,←hstp]
  refine go ?_
  refine ln_ (i+1) (k:=?_)
  try dsimp only
  omega
 obtain rfl:i=l.length:=aa
 rw[show ds.take l.length=ds from by rw[hll,List.take_length]]
 have hsl1:=iM (fs:=fs) (ds:=ds) hfl hq
 refine go ?_
 refine c1_ rfl (iv (aa)) (k:=?_)
 rintro _ _ ⟨s54,rfl,rfl⟩
 refine gk (k:=rt_ Tryz.results147 (k:=?_))
 exact⟨_,hsb,s54,rfl,rfl⟩
theorem lO {α:Type} [DecidableEq α]:∀{l m:List α},l.Nodup→(∀x∈l,x∈m)→l.length≤m.length
 | [],_,_,_=> Yl _
 |a::l,m,hn,h=> by
  obtain⟨h1,h2⟩:=List.nodup_cons.1 hn
  have h3:=lO (m:=m.erase a) h2 fun x hx=> (List.mem_erase_of_ne (fun e=> h1 (by rw[←e];exact hx))).2 (h x (Xa _ hx))
  have h4:=h a (an)
  rw[List.length_erase_of_mem h4]at h3
  have:=List.length_pos_of_mem h4
  simp only[Yb];omega
theorem vn (rs:List uQ) (i:Nat):(dB (rs.take i)).length≤(dB rs).length:=by
 conv=> rhs;rw[←List.take_append_drop i rs,dB,List.flatMap_append,Ya]
 exact Nat.le_add_right _ _
structure jF (fs:List FV) (ds:List Doc):Prop where
 chk:fI fs=true
 few:ds.length≤4096
 pos:l9 (ds.map (·.1))=false
 up:rise (ds.map (·.1))=true
 ids:∀d∈ds,d.1<1099511627776
 vals:∀d∈ds,gy fs d.2=0
 size:dsz ds≤30000000
 toks:(eE fs ds).length≤2000000
theorem vD {fs:List FV}:∀{vs:List Val},jq fs vs=0→∀v∈vs,rJ fs v=0
 | [],_,v,hv=> by simp at hv
 |u::vs,h,v,hv=> by
  rw[jq]at h
  split at h
  ·rename_i h0
   rcases List.mem_cons.1 hv with rfl|hv
   ·exact h0
   ·exact vD h v hv
  ·rename_i h0;exact absurd h h0
theorem nW {fs:List FV}{vs:List Val}(h:gy fs vs=0):vs.length≤64∧∀v∈vs,v.2.size≤4096∧∃k,fk fs (cF v.1)=some k:=by
 rw[gy]at h
 split at h
 ·cases h
 ·split at h
  ·cases h
  ·refine⟨aa,fun v hv=> ?_⟩
   have h1:=vD h v hv
   rw[rJ]at h1
   split at h1
   ·cases h1
   ·rename_i k hk
    split at h1
    ·cases h1
    ·exact⟨aa,k,hk⟩
theorem jF.flen {fs:List FV}{ds:List Doc}(h:jF fs ds):fs.length≤16:=(il h.chk).1.2
theorem jF.q {fs:List FV}{ds:List Doc}(h:jF fs ds):∀d∈ds,d.2.length≤100000000∧∀v∈d.2,v.2.size≤3000000:=fun d hd=> by
 obtain⟨h1,h2⟩:=nW (h.vals d hd)
 exact⟨aa,fun v hv=> by have:=(h2 v hv).1;omega⟩
theorem jF.fd {fs:List FV}{ds:List Doc}(h:jF fs ds):∀d∈ds,∀v∈d.2,∃k,fk fs (cF v.1)=some k:=fun d hd v hv=> ((nW (h.vals d hd)).2 v hv).2
theorem Ea (w:List Nat):∀(i:Nat) (a:Option Nat) (out:List Tok),ej w i=(a,out)→∀(j:Nat) (t:Tok),out[j]? =some t→t.pos=j
 | 0,a,out,h,j,t,ht=> by cases h;simp at ht
 |i+1,a,out,h,j,t,ht=> by
  obtain⟨a0,out0,h0⟩:∃a0 out0,ej w i=(a0,out0):=⟨_,_,rfl⟩
  have ih:=Ea w i a0 out0 h0
  cases hin:inW w i with
  |true=>
   cases a0 with
   |none=> rw[lC h0 hin]at h;cases h;exact ih j t ht
   |some b=> rw[sN h0 hin]at h;cases h;exact ih j t ht
  |false=>
   cases a0 with
   |none=> rw[pC h0 hin]at h;cases h;exact ih j t ht
   |some b=>
    rw[pD h0 hin]at h;cases h
    by_cases hj:j<out0.length
    ·rw[Yv hj]at ht;exact ih j t ht
    ·rw[Yu (aa)]at ht
     have hz:j - out0.length=0:=by
            have:=(Yk.1 ht).1
            simp at this;omega
     rw[hz]at ht;simp at ht;subst ht;show out0.length=j;omega
theorem qD (w:List Nat) {j:Nat}{t:Tok}(h:(gC w)[j]? =some t):t.pos=j:=Ea w _ _ _ rfl j t h
def lf (l:List Tok):Prop:=l.Pairwise fun a b=> a.pos<b.pos
theorem zQ (w:List Nat):lf (gC w):=by
 rw[lf,List.pairwise_iff_getElem]
 intro i j hi hj hij
 have h1:=qD w (Yi hi)
 have h2:=qD w (Yi hj)
 omega
theorem tP {p:FV}{t u:Tok}(h:lR p t=some u):u.pos=t.pos:=by
 rw[lR]at h
 split at h
 ·split at h
  ·obtain rfl:=Option.some.inj h;rfl
  ·cases h
 ·cases h
theorem CM (p:FV) (w:List Nat):lf (fO p w)∧∀t∈fO p w,t.pos<iu p w+1:=by
 rw[fO,iu]
 split
 ·rename_i hk
  constructor
  ·rw[lf,List.pairwise_filterMap]
   refine(zQ w).imp fun{a b} h u hu v hv=> ?_
   rw[tP hu,tP hv];exact h
  ·intro t ht
   obtain⟨t0,h0,hk⟩:=List.mem_filterMap.1 ht
   obtain⟨j,hj⟩:=List.getElem?_of_mem h0
   have:=(Yk.1 hj).1
   rw[tP hk,qD w hj];omega
 ·split
  ·split
   ·exact⟨by simp[lf],fun t ht=> by simp at ht;subst ht;simp⟩
   ·exact⟨by simp[lf],fun t ht=> by simp at ht⟩
  ·split
   ·split
    ·exact⟨by simp[lf],fun t ht=> by simp at ht;subst ht;simp⟩
    ·exact⟨by simp[lf],fun t ht=> by simp at ht⟩
   ·exact⟨by simp[lf],fun t ht=> by simp at ht⟩
theorem yM (p:FV) (vs:List Val):∀(i b:Nat) (out:List Tok),eZ p vs i=(b,out)→lf out∧∀t∈out,t.pos<b
 | 0,b,out,h=> by cases h;exact⟨by simp[lf],an⟩
 |i+1,b,out,h=> by
  obtain⟨b0,out0,h0⟩:∃b0 out0,eZ p vs i=(b0,out0):=⟨_,_,rfl⟩
  obtain⟨i1,i2⟩:=yM p vs i b0 out0 h0
  rw[eZ,h0]at h
  split at h
  ·cases h;exact⟨i1,i2⟩
  ·rename_i v hv
   split at h
   ·cases h
    obtain⟨t1,t2⟩:=CM p (cF v.2)
    constructor
    ·rw[lf,List.pairwise_append]
     refine⟨i1,List.pairwise_map.2 (t1.imp fun{a c} hac=> ?_),fun a ha c hc=> ?_⟩
     ·show a.pos+b0<c.pos+b0;omega
     ·obtain⟨c0,hc0,rfl⟩:=List.mem_map.1 hc
      have:=i2 a ha
      show a.pos<c0.pos+b0;omega
    ·intro t ht
     rcases List.mem_append.1 ht with ht|ht
     ·have:=i2 t ht;show t.pos<b0+_;omega
     ·obtain⟨t0,ht0,rfl⟩:=List.mem_map.1 ht
      have:=t2 t0 ht0
      show t0.pos+b0<b0+(iu p (cF v.2)+16);omega
   ·cases h;exact⟨i1,i2⟩
theorem uc (fs:List FV) (k:Nat) (vs:List Val):lf (et fs k vs)∧∀t∈et fs k vs,t.pos<vsz vs:=by
 unfold et
 split
 ·rename_i p hp
  obtain⟨h1,h2⟩:=yM p vs vs.length _ _ rfl
  have h3:=(AY p vs vs.length _ _ rfl).1
  rw[List.take_length]at h3
  exact⟨h1,fun t ht=> Nat.lt_of_lt_of_le (h2 t ht) h3⟩
 ·exact⟨by simp[lf],an⟩
theorem Jw (a b:List Tri) (k:List Nat):ofK (a++b) k=ofK a k++ofK b k:=by simp[ofK]
theorem oy {fs:List FV}{f:Nat}:∀{l:List Doc}{k:Nat}{t:Tri},t∈fF fs f k l→∃j d u,l[j]? =some d∧u∈et fs f d.2∧t=(cF (qb f (dL u.text)),k+j,u.pos)
 | [],k,t,h=> by simp[fF]at h
 |d::l,k,t,h=> by
  rcases List.mem_append.1 h with h|h
  ·obtain⟨u,hu,rfl⟩:=List.mem_map.1 h
   exact⟨0,d,u,rfl,hu,rfl⟩
  ·obtain⟨j,d',u,h1,h2,h3⟩:=oy h
   exact⟨j+1,d',u,h1,h2,by rw[h3,Nat.add_assoc,Nat.add_comm 1 j]⟩
theorem ze (fs:List FV) (f:Nat):∀(l:List Doc) (k:Nat),(fF fs f k l).Pairwise fun a b=> ltP a.2 b.2
 | [],_=> by simp[fF]
 |d::l,k=> by
  rw[fF,List.pairwise_append]
  refine⟨List.pairwise_map.2 ((uc fs f d.2).1.imp fun{a b} h=> .inr ⟨rfl,h⟩),ze fs f l (k+1),fun a ha b hb=> ?_⟩
  obtain⟨u,hu,rfl⟩:=List.mem_map.1 ha
  obtain⟨j,d',u',h1,h2,rfl⟩:=oy hb
  exact .inl (by show k<k+1+j;omega)
theorem yi {fs:List FV}{ds:List Doc}{n:Nat}{t:Tri}(h:t∈mw fs ds n):∃f j d u,f<n∧ds[j]? =some d∧u∈et fs f d.2∧t=(cF (qb f (dL u.text)),j,u.pos):=by
 obtain⟨f,hf,h⟩:=List.mem_flatMap.1 h
 obtain⟨j,d,u,h1,h2,h3⟩:=oy h
 exact⟨f,j,d,u,List.mem_range.1 hf,h1,h2,by rw[h3,Nat.zero_add]⟩
theorem BQ (fs:List FV) (ds:List Doc) (k:List Nat):∀n,n≤256→(ofK (mw fs ds n) k).Pairwise ltP
 | 0,_=> by simp[mw,ofK]
 |n+1,h=> by
  rw[qM,Jw,List.pairwise_append]
  refine⟨BQ fs ds k n (aa),?_,fun a ha b hb=> ?_⟩
  ·exact List.pairwise_map.2 ((ze fs n ds 0).filter _)
  ·exfalso
   obtain⟨f,j,d,u,h1,h2,h3,h4⟩:=yi (su ha)
   obtain⟨j',d',u',h5,h6,h7⟩:=oy (su hb)
   have e1:cF (qb f (dL u.text))=cF (qb n (dL u'.text)):=((congrArg (fun z:Tri=> z.1) h4).symm).trans (congrArg (fun z:Tri=> z.1) h7)
   simp only[vY]at e1
   have:=(List.cons.inj e1).1
   omega
theorem jF.goodT {fs:List FV}{ds:List Doc}(h:jF fs ds):uF (eE fs ds):=by
 have hf:=h.flen
 refine⟨fun k=> BQ fs ds k fs.length (aa),by have:=h.toks;omega,fun t ht=> ?_⟩
 obtain⟨f,j,d,u,h1,h2,h3,rfl⟩:=yi ht
 have hs:=rM h3
 have hp:=(uc fs f d.2).2 u h3
 have hv:=sG (Yj h2)
 have hj:=(Yk.1 h2).1
 have hz:=h.size
 have hfew:=h.few
 have hl:(cF (qb f (dL u.text))).length=1+u.text.length:=by rw[vY,Yb,cL,jg];omega
 refine⟨bg,bg,fun x hx=> k7 _ x hx,bg,bg⟩
end Go.Sx
