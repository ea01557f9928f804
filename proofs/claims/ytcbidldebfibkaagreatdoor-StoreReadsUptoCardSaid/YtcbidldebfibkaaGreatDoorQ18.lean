import Derived.Test.YtcbidldebfibkaaGreatDoorQ17
set_option linter.unusedVariables false
set_option linter.unusedSimpArgs false
set_option linter.unusedSectionVars false
set_option linter.unnecessarySimpa false
set_option maxHeartbeats 0
namespace Go.Sx
open Go Go.Proofs
set_option maxRecDepth 100000
theorem Nr {x:Nat}(h:x<128):(decide (97≤x ||| 32) && decide (x ||| 32≤122))=(decide (97≤x) && decide (x≤122) ||decide (65≤x) && decide (x≤90)):=by
 have:∀y:Fin 128,(decide (97≤y.val ||| 32) && decide (y.val ||| 32≤122))=(decide (97≤y.val) && decide (y.val≤122) ||decide (65≤y.val) && decide (y.val≤90)):=an
 exact this ⟨x,h⟩
theorem tS {G:cM}{H:cG}(x:Nat):SC G Tryz.prog 208 [.int .u8 (x:Int)] H (fun v H'=> v= .bool (isD x)∧H'=H):=by
 refine sWk Tryz.func208 Tryz.ntmps208 ?_
 refine gk (k:=cY 3 8 (k:=fun h1=>gk (k:=edq)) (q:=go ?_))
 refine gk (k:=rt_ Tryz.results208 (k:=?_))
 refine⟨_,hsb,?_,rfl⟩
 exact vb (by simp only[isD,Bool.or_eq_true,Bool.and_eq_true,decide_eq_true_eq];omega)
theorem wD {G:cM}{H:cG}(x:Nat) (hx:x<256):SC G Tryz.prog 207 [.int .u8 (x:Int)] H (fun v H'=> v= .bool (isW x)∧H'=H):=by
 refine sWk Tryz.func207 Tryz.ntmps207 ?_
 refine gk (k:=dQ 3 9 (k:=fun h1=>gk (k:=edq)) (q:=gk (k:=dQ 3 13 (k:=fun h2=>gk (k:=gU (vs:=[_]) (hc:=(tS x)) (k:=gk (k:=edq)))) (q:=?_))))
 refine gk (k:=wi_ (k:=fun h3=>?_) (m:=fun h3=>?_))
 ·refine gk (k:=rt_ Tryz.results207 (k:=?_))
  refine⟨_,hsb,?_,rfl⟩
  exact vb (by simp[isW,isD]at* <;> omega)
 refine wk_ (qn_ (ws_ (wr_ (e_ mv (k:=?_)))))
 refine e_ (j0 256 rfl rfl rfl rfl _ 32 rfl rfl hx (ag)) (k:=?_)
 refine gk (k:=cY 3 21 (k:=fun h4=>gk (k:=edq)) (q:=gk (k:=rt_ Tryz.results207 (k:=?_))))
 refine⟨_,hsb,?_,rfl⟩
 have h2:=Nr (x:=x) (a8)
 show Value.bool _=_
 rw[isW,←h2]
 exact vb (by simp[isD]at* <;> omega)
theorem pG {q:ByteArray}(i:Nat):at0 (cF q) i<256:=by
 rw[at0,List.getD_eq_getElem?_getD]
 cases h:(cF q)[i]? with
 |none=> decide
 |some x=> exact ko q x (Yj h)
theorem HJ {G:cM}{H:cG}{q:ByteArray}(i:Nat) (hi:i<q.size) (hq:q.size≤1000000000000):SC G Tryz.prog 187 [.string q, .int .i64 (i:Int)] H (fun v H'=> v= .bool (inW (cF q) i)∧H'=H):=by
 have hl:=cJ q
 have e0:decide (i<(cF q).length)=true:=Ys (a8)
 refine sWk Tryz.func187 Tryz.ntmps187 ?_
 refine go ?_
 refine d1_ rfl (wD _ (pG _)) (k:=gk (k:=wi_ (k:=fun h1=>?_) (m:=fun h1=>?_)))
 ·refine gk (k:=rt_ Tryz.results187 (k:=?_))
  refine⟨_,hsb,?_,rfl⟩
  rw[inW,e0,h1];all_goals rfl
 refine gk (k:=dQ 6 19 (k:=fun h2=>gk (k:=edq)) (q:=gk (k:=wi_ (k:=fun h3=>?_) (m:=fun h3=>?_))))
 ·have hI:kj (cF q) i=false:=by
   rw[kj]
   rcases(show i=0∨¬(i+1<(cF q).length)from a8)with e|e
   ·rw[show decide (0<i)=false from Yr (a8)];all_goals rfl
   ·rw[show decide (i+1<(cF q).length)=false from Yr e];simp
  refine gk (k:=rt_ Tryz.results187 (k:=?_))
  refine⟨_,hsb,?_,rfl⟩
  rw[inW,e0,hI,h1];all_goals rfl
 have e1:decide (0<i)=true:=Ys (a8)
 have e2:decide (i+1<(cF q).length)=true:=Ys (a8)
 have hn:isW (at0 (cF q) i)=false:=cx
 refine go ?_
 refine cW cL (as_ 0 (q:=mv) (k:=as_ 1 (q:=mv) (k:=as_ 2 (q:=isb) (k:=as_ 3 (q:=ixs) (k:=as_ 4 (q:=mv) (k:=as_ 5 (q:=mv) (k:=as_ 6 (q:=iad) (k:=as_ 7 (q:=ixs) (k:=as_ 8 (q:=asn) (k:=as_ 9 (q:=asn) (k:=az_ (k:=go ?_))))))))))))
 refine gk (k:=wi_ (k:=fun h4=>?_) (m:=fun h4=>?_))
 ·refine go ?_
  refine d1_ rfl (wD _ (pG _)) (k:=gk (k:=cY 3 37 (k:=fun h5=>gk (k:=gU (vs:=[_]) (hc:=(wD _ (pG _))) (k:=gk (k:=edq)))) (q:=gk (k:=rt_ Tryz.results187 (k:=?_)))))
  refine⟨_,hsb,?_,rfl⟩
  rw[inW,kj,e0,e1,e2,hn,show at0 (cF q) i=39 from a8];simp;rfl
 refine gk (k:=cY 3 45 (k:=fun h6=>gk (k:=gU (vs:=[_]) (hc:=(tS _)) (k:=gk (k:=edq)))) (q:=gk (k:=cY 3 49 (k:=fun h7=>gk (k:=gU (vs:=[_]) (hc:=(tS _)) (k:=gk (k:=edq)))) (q:=go ?_))))
 refine gk (k:=rt_ Tryz.results187 (k:=?_))
 refine⟨_,hsb,?_,rfl⟩
 rw[inW,kj,e0,e1,e2,hn,show decide (at0 (cF q) i=39)=false from Yr (a8)]
 exact vb (by simp at* <;> omega)
theorem Ec {G:cM}{H:cG}{q:ByteArray}(hq:q.size≤1000000000):SC G Tryz.prog 161 [.string q] H (fun v H'=> ∃s:SV,v=s.val∧H'=Row s eT (fe (cF q))::H):=by
 have hl:=cJ q
 refine sWk Tryz.func161 Tryz.ntmps161 ?_
 refine go ?_
 refine s_ (cZ eT rfl) (k:=?_)
 rintro _ _ ⟨s7,rfl,rfl⟩
 refine go ?_
 refine gk (k:=dn (SV×Nat×(Option Nat)×(List Tok)) (fun y=> y.2.1≤q.size+1∧eL (cF q) y.2.1=(y.2.2.1,y.2.2.2)) (fun y=> [(3,y.1.val),(4, .int .i64 (stI y.2.2.1)),(5, .int .i64 ((y.2.1:Nat):Int))]) [(0,_)] (fun y=> [Row y.1 eT y.2.2.2]) _ (fun y=> q.size+1 - y.2.1) ((s7,0,none, [])) (h0:=?_) (k:=?_))
 ·try dsimp only
  exact⟨Yl _,rfl⟩
 rintro⟨s,i,a,out⟩ ⟨hi,hst⟩
 try dsimp only[Yd,Ye]at*
 have hw:=we (cF q) i a out hst
 refine gk (k:=wi_ (k:=fun h1=>?_) (m:=fun h1=>?_))
 ·refine gk (k:=cY 4 22 (k:=fun h2=>gk (k:=gU (vs:=[_,_]) (hc:=(HJ i (a8) (a8))) (k:=gk (k:=edq)))) (q:=?_))
  refine e_ (asv (v:=.bool (inW (cF q) i)) rfl (vb (by simp[inW,hl]))) (k:=?_)
  refine gk (k:=cY 3 27 (k:=fun h3=>gk (k:=edq)) (q:=gk (k:=wi_ (k:=fun h4=>?_) (m:=fun h4=>?_))))
  ·obtain⟨hin,hn⟩:=h4
   obtain rfl:=AZ.1 hn
   rw[hin]
   refine go ?_
   refine gk (k:=dw (k:=go ?_))
   refine ln_ ((s,i+1,some i,out)) (k:=?_)
   try dsimp only
   exact⟨a8,kW hst hin⟩
  refine gk (k:=cY 3 34 (k:=fun h5=>gk (k:=edq)) (q:=gk (k:=ir_ (k:=fun h6=>?_) (m:=fun h6=>?_))))
  ·simp only[Bool.and_eq_true,Bool.not_eq_true',decide_eq_true_eq]at h6
   obtain⟨hin,hn⟩:=h6
   obtain⟨b,rfl⟩:∃b,a=some b:=by
    cases a with
    |none=> simp_all [stI]
    |some b=> exact⟨b,rfl⟩
   have hb:=hw.2 b rfl
   have hbl:i≤q.size:=a8
   dsimp only[stI]
   refine ws_ (wr_ (e_ mv (k:=e_ mv (k:=e_ mv (k:=e_ mv (k:=?_))))))
   refine e_ (kU rfl b i ⟨_,_,rfl,rfl⟩ ⟨_,_,rfl,rfl⟩ (a8) (a8)) (k:=?_)
   refine e_ mv (k:=e_ lnn (k:=e_ mv (k:=e_ mv (k:=e_ (bld [(0,_),(2,_),(3,_),(4,_)]) (k:=dD eT (k:=fun s45=>?_))))))
   refine app (k:=fun s46=>?_)
   refine go ?_
   refine ln_ ((s46,i+1,none,out++ [⟨cF (q.extract b i),0,out.length,b,i⟩])) (k:=?_)
   try dsimp only
   refine⟨a8,?_⟩
   rw[gn];exact oc hst hin
  refine go ?_
  refine ln_ ((s,i+1,a,out)) (k:=?_)
  try dsimp only
  refine⟨a8,?_⟩
  cases hin:inW (cF q) i <;> cases a with
  |none=> first|exact oa hst hin|(exfalso;simp[hin,stI]at*)
  |some b=> first|exact qS hst hin|(exfalso;simp[hin,stI]at* <;> omega)
 obtain rfl:i=q.size+1:=a8
 refine gk (k:=rt_ Tryz.results161 (k:=?_))
 refine⟨_,hsb,s,rfl,?_⟩
 rw[fe,hl,hst]
theorem oI (q:ByteArray) (k:Nat):cF (q.extract k q.size)=(cF q).drop k:=by
 rw[gn,List.take_of_length_le (by rw[cJ];exact Nat.le_refl _)]
theorem fP (q:ByteArray) (k:Nat):cF (q.extract 0 k)=(cF q).take k:=by
 rw[gn,List.drop_zero]
theorem iI (q:ByteArray):cF (q.extract 0 (q.size - 1))=dt (cF q):=by rw[fP,dt,cJ]
theorem Ao (q:ByteArray) (k:Nat):(q.extract 0 k).size≤q.size:=by
 have:=cJ (q.extract 0 k)
 rw[fP,Yg,cJ]at this
 omega
theorem uq {G:cM}{H:cG}{q e:ByteArray}(hq:q.size≤1000000000000) (he:e.size≤1000000000000):SC G Tryz.prog 284 [.string q, .string e] H (fun v H'=> v= .bool (cX (cF q) (cF e))∧H'=H):=by
 refine sWk Tryz.func284 Tryz.ntmps284 ?_
 refine gk (k:=cY 10 20 (k:=fun h1=>gk (k:=eg_ zB (k:=gk (k:=eg_ sC (k:=gk (k:=edq)))))) (q:=?_))
 refine gk (k:=rt_ Tryz.results284 (k:=?_))
 exact⟨_,hsb,vb (by simp[cX,oI,cJ]),rfl⟩
theorem l0 {G:cM}{H:cG}{q e:ByteArray}(hq:q.size≤1000000000000) (he:e.size≤1000000000000):SC G Tryz.prog 276 [.string q, .string e] H (fun v H'=> v= .bool (cX (cF q) (cF e))∧H'=H):=by
 refine sWk Tryz.func276 Tryz.ntmps276 ?_
 refine go ?_
 refine d2_ rfl (uq hq he) (k:=gk (k:=rt_ Tryz.results276 (k:=?_)))
 exact⟨_,hsb,rfl,rfl⟩
theorem iO {G:cM}{H:cG}{q e:ByteArray}(hq:q.size≤1000000000000) (he:e.size≤1000000000000):SC G Tryz.prog 223 [.string q, .string e] H (fun v H'=> v= .bool (cX (cF q) (cF e))∧H'=H):=by
 refine sWk Tryz.func223 Tryz.ntmps223 ?_
 refine gk (k:=cY 10 20 (k:=fun h1=>gk (k:=eg_ zB (k:=gk (k:=eg_ sC (k:=gk (k:=edq)))))) (q:=?_))
 refine gk (k:=rt_ Tryz.results223 (k:=?_))
 exact⟨_,hsb,vb (by simp[cX,oI,cJ]),rfl⟩
theorem CG {G:cM}{H:cG}{q e:ByteArray}(hq:q.size≤1000000000000) (he:e.size≤1000000000000):SC G Tryz.prog 227 [.string q, .string e] H (fun v H'=> v= .bool (jF (cF q) (cF e))∧H'=H):=by
 refine sWk Tryz.func227 Tryz.ntmps227 ?_
 refine gk (k:=cY 7 17 (k:=fun h1=>gk (k:=eg_ pT (k:=gk (k:=eg_ sC (k:=gk (k:=edq)))))) (q:=?_))
 refine gk (k:=rt_ Tryz.results227 (k:=?_))
 exact⟨_,hsb,vb (by simp[jF,fP,cJ]),rfl⟩
def pD (q e:ByteArray):ByteArray:=bif jF (cF q) (cF e)then q.extract e.size q.size else q
def jg (q e:ByteArray):ByteArray:=bif cX (cF q) (cF e)then q.extract 0 (q.size - e.size)else q
theorem Ax {G:cM}{H:cG}{q e:ByteArray}(hq:q.size≤1000000000000) (he:e.size≤1000000000000):SC G Tryz.prog 210 [.string q, .string e] H (fun v H'=> v= .tuple #[.string (pD q e), .bool (jF (cF q) (cF e))]∧H'=H):=by
 refine sWk Tryz.func210 Tryz.ntmps210 ?_
 refine go ?_
 refine d2_ rfl (CG hq he) (k:=gk (k:=wi_ (k:=fun h1=>?_) (m:=fun h1=>?_)))
 ·refine gk (k:=rt_ Tryz.results210 (k:=?_))
  exact⟨_,hsb,by rw[pD,h1];all_goals rfl,rfl⟩
 have hle:e.size≤q.size:=by have:=h1;simp[jF,cJ]at this;omega
 refine wk_ (qn_ (ws_ (wr_ (e_ mv (k:=e_ mv (k:=e_ jA (k:=e_ zB (k:=gk (k:=rt_ Tryz.results210 (k:=?_))))))))))
 exact⟨_,hsb,by rw[pD,h1];all_goals rfl,rfl⟩
theorem D0 {G:cM}{H:cG}{q e:ByteArray}(hq:q.size≤1000000000000) (he:e.size≤1000000000000):SC G Tryz.prog 191 [.string q, .string e] H (fun v H'=> v= .tuple #[.string (pD q e), .bool (jF (cF q) (cF e))]∧H'=H):=by
 refine sWk Tryz.func191 Tryz.ntmps191 ?_
 refine go ?_
 refine d2_ rfl (Ax hq he) (k:=gk (k:=rt_ Tryz.results191 (k:=?_)))
 exact⟨_,hsb,rfl,rfl⟩
theorem Aw {G:cM}{H:cG}{q e:ByteArray}(hq:q.size≤1000000000000) (he:e.size≤1000000000000):SC G Tryz.prog 293 [.string q, .string e] H (fun v H'=> v= .tuple #[.string (jg q e), .bool (cX (cF q) (cF e))]∧H'=H):=by
 refine sWk Tryz.func293 Tryz.ntmps293 ?_
 refine go ?_
 refine d2_ rfl (uq hq he) (k:=gk (k:=wi_ (k:=fun h1=>?_) (m:=fun h1=>?_)))
 ·refine gk (k:=rt_ Tryz.results293 (k:=?_))
  exact⟨_,hsb,by rw[jg,h1];all_goals rfl,rfl⟩
 have hle:e.size≤q.size:=by have:=h1;simp[cX,cJ]at this;omega
 refine wk_ (qn_ (ws_ (wr_ (e_ mv (k:=e_ mv (k:=e_ jA (k:=e_ mv (k:=e_ jA (k:=e_ isb (k:=e_ pT (k:=go ?_)))))))))))
 refine gk (k:=rt_ Tryz.results293 (k:=?_))
 exact⟨_,hsb,by rw[jg,h1];all_goals rfl,rfl⟩
theorem vY {G:cM}{H:cG}{q e:ByteArray}(hq:q.size≤1000000000000) (he:e.size≤1000000000000):SC G Tryz.prog 285 [.string q, .string e] H (fun v H'=> v= .tuple #[.string (jg q e), .bool (cX (cF q) (cF e))]∧H'=H):=by
 refine sWk Tryz.func285 Tryz.ntmps285 ?_
 refine go ?_
 refine d2_ rfl (Aw hq he) (k:=gk (k:=rt_ Tryz.results285 (k:=?_)))
 exact⟨_,hsb,rfl,rfl⟩
theorem Ah {G:cM}{H:cG}{q:ByteArray}(x:Nat):SC G Tryz.prog 295 [.string q, .int .u8 (x:Int)] H (fun v H'=> v= .int .i64 (ixR q x)∧H'=H):=by
 refine sWk Tryz.func295 Tryz.ntmps295 ?_
 refine go ?_
 refine s_ (JV (vs:= [_,_]) Tryz.func296 (aa) rfl (aa) (aa) rfl (fun w=> Hr q x w)) (k:=?_)
 rintro _ _ ⟨rfl,rfl⟩
 refine gk (k:=rt_ Tryz.results295 (k:=?_))
 exact⟨_,hsb,rfl,rfl⟩
theorem indexByte {G:cM}{H:cG}{q:ByteArray}(x:Nat):SC G Tryz.prog 292 [.string q, .int .u8 (x:Int)] H (fun v H'=> v= .int .i64 (ixR q x)∧H'=H):=by
 refine sWk Tryz.func292 Tryz.ntmps292 ?_
 refine go ?_
 refine d2_ rfl (Ah x) (k:=gk (k:=rt_ Tryz.results292 (k:=?_)))
 exact⟨_,hsb,rfl,rfl⟩
theorem sM {G:cM}{H:cG}{q:ByteArray}(hq:q.size≤1000000000):SC G Tryz.prog 294 [.string q] H (fun v H'=> ∃s:SV,v=s.val∧H'=Row s eBo (vow (cF q))::H):=by
 have hl:=cJ q
 refine sWk Tryz.func294 Tryz.ntmps294 ?_
 refine go ?_
 refine s_ (gD eBo false rfl rfl _ _ rfl rfl rfl (a8) (a8) (a8)) (k:=?_)
 rintro _ _ ⟨s7,rfl,hs7n,hs7c,rfl⟩
 have hz:cK (Row s7 eBo (List.replicate q.size false)::H) (Row s7 eBo (nF (cF q) 0)::H):=by rw[BP,hl];exact cK.refl
 refine gk (k:=dn (Nat) (fun y=> y≤q.size) (fun y=> [(10, .int .i64 ((y:Nat):Int))]) [(0,_),(3,_),(9,_)] (fun y=> [Row s7 eBo (nF (cF q) y)]) H (fun y=> q.size - y) (0) (hh:=?_) (h0:=?_) (k:=?_))
 ·try dsimp only
  exact hz
 ·try dsimp only
  exact Yl _
 rintro i hi
 try dsimp only[Yd,Ye]at*
 have hp:=rN (w:=cF q) (i:=i) (a8)
 refine gk (k:=wi_ (k:=fun h1=>?_) (m:=fun h1=>?_))
 ·have hlt:i<(cF q).length:=by simp at h1;omega
  refine wk_ (qn_ (ws_ (wb_ (ws_ (wr_ (e_ mv (k:=e_ asn (k:=on_ (qn_ (ws_ (wr_ (e_ mv (k:=e_ mv (k:=?_))))))))))))))
  refine e_ ixs (k:=on_ (qn_ (wb_ (mP [(16, .bool (isV (at0 (cF q) i)))] [16,17,18,19,20,21] ?_ ?_))))
  ·refine gk (k:=wi_ (k:=fun h2=>?_) (m:=fun h2=>?_))
   ·refine gk (k:=jne (hs:=.cons (by first|exact rfl|exact jb (by refine bq ?_;simp[isV];omega)) (.nil)))
   refine gk (k:=wi_ (k:=fun h3=>?_) (m:=fun h3=>?_))
   ·refine gk (k:=jne (hs:=.cons (by first|exact rfl|exact jb (by refine bq ?_;simp[isV];omega)) (.nil)))
   refine gk (k:=wi_ (k:=fun h4=>?_) (m:=fun h4=>?_))
   ·refine gk (k:=jne (hs:=.cons (by first|exact rfl|exact jb (by refine bq ?_;simp[isV];omega)) (.nil)))
   refine gk (k:=wi_ (k:=fun h5=>?_) (m:=fun h5=>?_))
   ·refine gk (k:=jne (hs:=.cons (by first|exact rfl|exact jb (by refine bq ?_;simp[isV];omega)) (.nil)))
   refine gk (k:=jne (hs:=.cons (by first|exact rfl|exact jb (by refine bq ?_;simp[isV];omega)) (.nil)))
  refine wi_ (k:=fun h6=>?_) (m:=fun h6=>?_)
  ·refine wr_ (e_ mv (k:=e_ mv (k:=?_)))
   refine e_ (cO rfl rfl i rfl (a8)) (k:=?_)
   refine s_ (fo rfl rfl rfl (a8)) (k:=?_)
   rintro _ _ ⟨rfl,rfl⟩
   rw[tm hlt (b:=true) (by rw[vAt,h6];all_goals rfl)]
   refine go ?_
   refine ln_ (i+1) (k:=?_)
   try dsimp only
   omega
  refine ws_ (wr_ (e_ ieq (k:=e_ asn (k:=on_ (qn_ (wi_ (k:=fun h7=>?_) (m:=fun h7=>?_)))))))
  ·refine wr_ (e_ mv (k:=e_ mv (k:=e_ mv (k:=e_ igt (k:=e_ mv (k:=cY 7 38 (k:=fun h8=>eg_ mv (k:=eg_ mv (k:=eg_ isb (k:=eg_ ixa (k:=eg_ (lel (hy:=Di (a8) (a8))) (k:=eg_ oQ (k:=e_ pkt (k:=on_ (edq))))))))) (q:=?_)))))))
   refine e_ (cO rfl rfl i rfl (a8)) (k:=?_)
   refine s_ (fo rfl rfl rfl (a8)) (k:=?_)
   rintro _ _ ⟨rfl,rfl⟩
   rw[tm hlt (by rw[vAt,h6,Ys (show at0 (cF q) i=121 from a8)];simp)]
   refine go ?_
   refine ln_ (i+1) (k:=?_)
   try dsimp only
   omega
  rw[BQ hlt (by rw[vAt,h6,Yr (show ¬at0 (cF q) i=121 from a8)];all_goals rfl)]
  refine go ?_
  refine ln_ (i+1) (k:=?_)
  try dsimp only
  omega
 obtain rfl:i=q.size:=by simp at h1;omega
 refine gk (k:=rt_ Tryz.results294 (k:=?_))
 refine⟨_,hsb,s7,rfl,?_⟩
 rw[←hl,Dj]
theorem xy {G:cM}{H:cG}{q:ByteArray}(hq:q.size≤1000000000):SC G Tryz.prog 286 [.string q] H (fun v H'=> v= .int .i64 (gm (cF q):Nat)∧H'=H):=by
 have hl:=cJ q
 have hv:=ew (cF q)
 refine sWk Tryz.func286 Tryz.ntmps286 ?_
 refine go ?_
 refine c1_ rfl (sM hq) (k:=?_)
 rintro _ _ ⟨sv,rfl,rfl⟩
 refine gk (k:=dn (Nat×Nat) (fun y=> 1≤y.1∧(y.1≤q.size∨y.1=1)∧y.2=lR (vow (cF q)) y.1) (fun y=> [(3, .int .i64 ((y.2:Nat):Int)),(5, .int .i64 ((y.1:Nat):Int))]) [(4,_)] (fun y=> []) _ (fun y=> q.size - y.1) ((1,0)) (h0:=?_) (k:=?_))
 ·try dsimp only
  exact⟨Nat.le_refl _, .inr rfl,(ou _).symm⟩
 rintro⟨i,m⟩ ⟨h1i,hi,hmm⟩
 try dsimp only[Yd,Ye]at*
 have hm:=uc (vow (cF q)) i
 refine gk (k:=wi_ (k:=fun h1=>?_) (m:=fun h1=>?_))
 ·have hlt:i<(cF q).length:=by omega
  have hm1:lR (vow (cF q)) (i+1)=lR (vow (cF q)) i+(bif (vow (cF q)).getD (i - 1) false && !((vow (cF q)).getD i false)then 1 else 0):=by rw[lR,Ys (show 0<i from a8),Bool.true_and]
  refine wk_ (qn_ (ws_ (wb_ (ws_ (wr_ (e_ mv (k:=e_ mv (k:=e_ isb (k:=e_ ixa (k:=e_ (lel (hy:=iC (a8))) (k:=e_ mv (k:=cY 6 25 (k:=fun h2=>eg_ mv (k:=eg_ mv (k:=eg_ ixa (k:=eg_ (lel (hy:=iC (a8))) (k:=eg_ oQ (k:=e_ pkt (k:=on_ (edq)))))))) (q:=on_ (?_))))))))))))))
  refine gk (k:=ir_ (k:=fun h3=>?_) (m:=fun h3=>?_))
  ·rw[h3]at hm1
   refine go ?_
   refine ln_ ((i+1,m+1)) (k:=?_)
   try dsimp only
   refine⟨a8,a8,?_⟩
   rw[hm1,hmm];all_goals rfl
  rw[h3]at hm1
  refine go ?_
  refine ln_ ((i+1,m)) (k:=?_)
  try dsimp only
  refine⟨a8,a8,?_⟩
  rw[hm1,hmm];all_goals rfl
 refine gk (k:=rt_ Tryz.results286 (k:=?_))
 refine⟨_,hsb,?_,rfl⟩
 rw[gm,hmm]
 rcases Nat.eq_zero_or_pos q.size with h0|h0
 ·obtain rfl:i=1:=by omega
  rw[hl,h0,ou];all_goals rfl
 ·obtain rfl:i=q.size:=by omega
  rw[hl];all_goals rfl
theorem Jd {G:cM}{H:cG}{q:ByteArray}(hq:q.size≤1000000000):SC G Tryz.prog 290 [.string q] H (fun v H'=> v= .bool (pA (cF q))∧H'=H):=by
 have hv:=ew (cF q)
 have hl:=cJ q
 refine sWk Tryz.func290 Tryz.ntmps290 ?_
 refine go ?_
 refine c1_ rfl (sM hq) (k:=?_)
 rintro _ _ ⟨sv,rfl,rfl⟩
 refine gk (k:=dn (Nat) (fun y=> y≤q.size∧∀j,j<y→(vow (cF q))[j]? =some false) (fun y=> [(8, .int .i64 ((y:Nat):Int))]) [(6,_),(7,_)] (fun y=> []) _ (fun y=> q.size - y) (0) (h0:=?_) (k:=?_))
 ·try dsimp only
  exact⟨Yl _,fun j hj=> absurd hj (Nat.not_lt_zero _)⟩
 rintro i ⟨hi,hall⟩
 try dsimp only[Yd,Ye]at*
 refine gk (k:=wi_ (k:=fun h1=>?_) (m:=fun h1=>?_))
 ·refine wk_ (qn_ (ws_ (wb_ (ws_ (wr_ (e_ ixa (k:=e_ (lel (hy:=iC (a8))) (k:=go ?_))))))))
  refine gk (k:=wi_ (k:=fun h2=>?_) (m:=fun h2=>?_))
  ·have hg:=iC (w:=cF q) (i:=i) (a8)
   rw[h2]at hg
   refine gk (k:=rt_ Tryz.results290 (k:=?_))
   exact⟨_,hsb,by rw[pA,z7 hg];all_goals rfl,rfl⟩
  have hg:=iC (w:=cF q) (i:=i) (a8)
  rw[h2]at hg
  refine go ?_
  refine ln_ (i+1) (k:=?_)
  try dsimp only
  refine⟨a8,fun j hj=> ?_⟩
  by_cases e:j=i
  ·subst e;exact hg
  ·exact hall j (a8)
 refine gk (k:=rt_ Tryz.results290 (k:=?_))
 exact⟨_,hsb,by rw[pA,w5 (fun j hj=> hall j (a8))];all_goals rfl,rfl⟩
theorem Ha {G:cM}{H:cG}{q:ByteArray}(hq:q.size≤1000000000):SC G Tryz.prog 291 [.string q] H (fun v H'=> v= .bool (ma (cF q))∧H'=H):=by
 have hv:=ew (cF q)
 have hl:=cJ q
 refine sWk Tryz.func291 Tryz.ntmps291 ?_
 refine go ?_
 refine di cL (fun i=> [15].contains i) (fun _ _=> True) (af_ 0 (q:=cE fun H hH=>mv) (k:=af_ 1 (q:=cE fun H hH=>ige) (k:=?_)))
 refine gp 2 rfl rfl (aa) rfl (cE fun H hH=>mv) (fun h1=> ?_) (fun h1=> ?_)
 ·replace h1:=nrm h1
  have e1:decide (2≤(cF q).length)=true:=Ys (a8)
  refine ag_ 3 (q:=cE fun H hH=>mv) (k:=ag_ 4 (q:=cE fun H hH=>mv) (k:=ag_ 5 (q:=cE fun H hH=>isb) (k:=ag_ 6 (q:=cE fun H hH=>ixs) (k:=ag_ 7 (q:=cE fun H hH=>mv) (k:=ag_ 8 (q:=cE fun H hH=>mv) (k:=ag_ 9 (q:=cE fun H hH=>isb) (k:=ag_ 10 (q:=cE fun H hH=>ixs) (k:=ag_ 11 (q:=cE fun H hH=>ieq) (k:=af_ 12 (q:=cE fun H hH=>pkt) (k:=?_))))))))))
  refine gp 13 rfl rfl (aa) rfl (cE fun H hH=>mv) (fun h2=> ?_) (fun h2=> ?_)
  ·replace h2:=nrm h2
   have e2:decide (at0 (cF q) ((cF q).length - 1)=at0 (cF q) ((cF q).length - 2))=true:=Ys (cc)
   refine ag_ 14 (q:=cE fun H hH=>mv) (k:=ag_ 16 (q:=cE fun H hH=>mv) (k:=ag_ 17 (q:=cE fun H hH=>isb) (k:=?_)))
   refine pH 15 rfl rfl rfl (aa) rfl (fun _ _=> trivial) (dm (vs:= [_]) rfl (sM hq)) ?_
   rintro _ _ ⟨sv,rfl,rfl⟩
   refine tg (fun _=> trivial) (at2 18 (q:=ixa) (k:=at2 19 (q:=lel (hy:=iC (a8))) (k:=at2 20 (q:=oQ) (k:=as_ 21 (q:=pkt) (k:=as_ 22 (q:=asn) (k:=az_ (k:=gk (k:=rt_ Tryz.results291 (k:=?_)))))))))
   exact⟨_,hsb,by rw[ma,e1,e2,hl];all_goals rfl,rfl⟩
  replace h2:=nrm h2
  have hD:ma (cF q)=false:=by rw[ma,e1,Yr (show ¬at0 (cF q) ((cF q).length - 1)=at0 (cF q) ((cF q).length - 2)from cc)];all_goals rfl
  refine ao_ 14 (k:=ao_ 16 (k:=ao_ 17 (k:=sA 15 rfl rfl rfl (aa) rfl (fun _ _=> trivial) (tg (fun _=> trivial) (ao_ 18 (k:=ao_ 19 (k:=ao_ 20 (k:=as_ 21 (q:=pkf) (k:=as_ 22 (q:=asn) (k:=az_ (k:=gk (k:=rt_ Tryz.results291 (k:=?_)))))))))))))
  exact⟨_,hsb,by rw[hD];all_goals rfl,rfl⟩
 replace h1:=nrm h1
 have e1:decide (2≤(cF q).length)=false:=Yr (a8)
 have hD:ma (cF q)=false:=by rw[ma,e1];all_goals rfl
 refine ao_ 3 (k:=ao_ 4 (k:=ao_ 5 (k:=ao_ 6 (k:=ao_ 7 (k:=ao_ 8 (k:=ao_ 9 (k:=ao_ 10 (k:=ao_ 11 (k:=af_ 12 (q:=cE fun H hH=>pkf) (k:=af_ 13 (q:=cE fun H hH=>mv) (k:=ao_ 14 (k:=ao_ 16 (k:=ao_ 17 (k:=?_))))))))))))))
 refine sA 15 rfl rfl rfl (aa) rfl (fun _ _=> trivial) (tg (fun _=> trivial) (ao_ 18 (k:=ao_ 19 (k:=ao_ 20 (k:=as_ 21 (q:=pkf) (k:=as_ 22 (q:=asn) (k:=az_ (k:=gk (k:=rt_ Tryz.results291 (k:=?_))))))))))
 exact⟨_,hsb,by rw[hD];all_goals rfl,rfl⟩
theorem Dw {G:cM}{H:cG}{q:ByteArray}(hq:q.size≤1000000000):SC G Tryz.prog 287 [.string q] H (fun v H'=> v= .bool (gr (cF q))∧H'=H):=by
 have hv:=ew (cF q)
 have hl:=cJ q
 refine sWk Tryz.func287 Tryz.ntmps287 ?_
 refine go ?_
 refine gk (k:=dQ 7 16 (k:=fun h1=>gk (k:=gU (vs:=[_,_]) (hc:=(indexByte _)) (k:=gk (k:=edq)))) (q:=gk (k:=wi_ (k:=fun h2=>?_) (m:=fun h2=>?_))))
 ·have hS:gr (cF q)=false:=by
   rw[gr]
   rcases h2 with h3|h3
   ·rw[Yr (show ¬3≤(cF q).length from a8)];all_goals rfl
   ·have hx:=(n8 (q:=⟨#[119,120,121]⟩) (x:=at0 (cF q) (q.size - 1)) (pG _)).1 h3
    have:at0 (cF q) ((cF q).length - 1)=119∨at0 (cF q) ((cF q).length - 1)=120∨at0 (cF q) ((cF q).length - 1)=121:=by rw[hl];rw[show cF ⟨#[119,120,121]⟩= [119,120,121]from rfl]at hx;simpa using hx
    rcases this with h|h|h <;> simp[h]
  refine gk (k:=rt_ Tryz.results287 (k:=?_))
  exact⟨_,hsb,by rw[hS];all_goals rfl,rfl⟩
 obtain⟨h3,h4⟩:=h2
 have e1:decide (3≤(cF q).length)=true:=Ys (a8)
 have hx:¬at0 (cF q) (q.size - 1)∈cF ⟨#[119,120,121]⟩:=fun h=> h4 ((n8 (pG _)).2 h)
 have hn:(decide (at0 (cF q) ((cF q).length - 1)=119) ||decide (at0 (cF q) ((cF q).length - 1)=120) ||decide (at0 (cF q) ((cF q).length - 1)=121))=false:=by
  rw[show cF ⟨#[119,120,121]⟩= [119,120,121]from rfl]at hx
  rw[hl];simp at hx⊢;omega
 refine go ?_
 refine c1_ rfl (sM hq) (k:=?_)
 rintro _ _ ⟨sv,rfl,rfl⟩
 refine e_ asn (k:=on_ (qn_ (ws_ (wr_ (e_ mv (k:=e_ mv (k:=e_ isb (k:=e_ ixa (k:=e_ (lel (hy:=iC (a8))) (k:=e_ oQ (k:=e_ mv (k:=cY 6 31 (k:=fun h3=>eg_ mv (k:=eg_ mv (k:=eg_ isb (k:=eg_ ixa (k:=eg_ (lel (hy:=iC (a8))) (k:=e_ pkt (k:=on_ (edq)))))))) (q:=e_ mv (k:=?_))))))))))))))
 refine cY 7 39 (k:=fun h4=>eg_ mv (k:=eg_ mv (k:=eg_ isb (k:=eg_ ixa (k:=eg_ (lel (hy:=iC (a8))) (k:=gk (k:=edq))))))) (q:=gk (k:=rt_ Tryz.results287 (k:=?_)))
 refine⟨_,hsb,?_,rfl⟩
 rw[gr,e1,hn,hl];all_goals rfl
def p8 (rs:List fQ) (q r:ByteArray) (a:Int):Prop:=match dR rs (cF q)with
 |none=> r=q∧a= -1
 |some R=> ∃k,rs[k]? =some R∧a=((2*k:Nat):Int)∧cX (cF q) R.1=true∧cF r=kV (cF q) R.1∧r.size+R.1.length=q.size
theorem pP {G:cM}{H:cG}{q:ByteArray}{s:SV}{strs:List ByteArray}{rs:List fQ} [hs:Sl H s eS strs] (hr:iS strs rs) (hq:q.size≤1000000000) (hn:rs.length≤1000) (hsz:∀r∈rs,r.1.length≤1000∧r.2.length≤1000):SC G Tryz.prog 288 [.string q,s.val] H (fun v H'=> ∃r a,v= .tuple #[.string r, .int .i64 a]∧p8 rs q r a∧H'=H):=by
 have hl:=cJ q
 have hsl:=hr.length
 refine sWk Tryz.func288 Tryz.ntmps288 ?_
 refine go ?_
 refine gk (k:=dn (Nat×(Option (Nat×fQ))) (fun y=> y.1≤rs.length∧(rs.take y.1).foldl (mz (cF q)) none=y.2.map Prod.snd∧∀p,y.2=some p→rs[p.1]? =some p.2∧cX (cF q) p.2.1=true) (fun y=> [(6, .int .i64 (atI y.2)),(7, .int .i64 ((2*y.1:Nat):Int))]) [(0,_),(1,_)] (fun y=> []) _ (fun y=> rs.length - y.1) ((0,none)) (h0:=?_) (k:=?_))
 ·try dsimp only
  exact⟨Yl _,rfl,fun p h=> bC⟩
 rintro⟨n,o⟩ ⟨hnl,hf,ho⟩
 try dsimp only[Yd,Ye]at*
 refine gk (k:=wi_ (k:=fun h1=>?_) (m:=fun h1=>?_))
 ·obtain⟨R,hR⟩:∃R,rs[n]? =some R:=⟨_,Yi (a8)⟩
  obtain⟨e,e2,he,heb,he2,heb2⟩:=hr.get hR
  obtain⟨hR1,hR2⟩:=hsz R (Yj hR)
  have hel:=cJ e
  rw[heb]at hel
  have hls:=qe (w:=cF q) hR
  rw[hf]at hls
  refine wk_ (qn_ (ws_ (wb_ (mP [(36, .bool (lsC (cF q) (o.map Prod.snd) R))] [14,15,16,17,18,19,20,21,22,23,24,25,26,27,28,29,30,31,32,33,34,35,36] ?_ ?_))))
  ·refine cW cL (as_ 0 (q:=mv) (k:=as_ 1 (q:=mv) (k:=as_ 2 (q:=mv) (k:=as_ 3 (q:=ixa) (k:=as_ 4 (q:=lel) (k:=?_))))))
   refine cH 5 rfl rfl (aa) rfl (j9 (vs:= [_,_]) rfl (l0 (a8) (a8))) (?_)
   refine gp 6 rfl rfl (aa) rfl (du (mv)) (fun h2=> ?_) (fun h2=> ?_)
   ·replace h2:=nrm h2
    rw[heb]at h2
    refine at2 7 (q:=mv) (k:=at2 8 (q:=ilt) (k:=?_))
    refine sB 9 rfl rfl rfl rfl (aa) rfl (du (mv)) (fun h3=> ?_) (fun h3=> ?_)
    ·replace h3:=nrm h3
     obtain rfl:=BJ.1 h3
     refine ao_ 10 (k:=ao_ 11 (k:=ao_ 12 (k:=ao_ 13 (k:=ao_ 14 (k:=ao_ 15 (k:=ao_ 16 (k:=ao_ 17 (k:=ao_ 18 (k:=ao_ 19 (k:=ao_ 20 (k:=at2 21 (q:=pkt) (k:=as_ 22 (q:=pkt) (k:=az_ (k:=?_))))))))))))))
     refine jne (hs:=.cons (c8) (.nil))
    replace h3:=nrm h3
    obtain⟨p,rfl⟩:∃p,o=some p:=by
     cases o with
     |none=> simp[atI]at h3
     |some p=> exact⟨p,rfl⟩
    obtain⟨hp1,hp2⟩:=ho p rfl
    have hpl:=(Yk.1 hp1).1
    obtain⟨f,f2,hf1,hfb,_⟩:=hr.get hp1
    have hfl:=cJ f
    rw[hfb]at hfl
    dsimp only[atI]
    refine at2 10 (q:=mv) (k:=at2 11 (q:=mv) (k:=at2 12 (q:=ixa) (k:=at2 13 (q:=lel) (k:=at2 14 (q:=jA) (k:=at2 15 (q:=mv) (k:=at2 16 (q:=mv) (k:=at2 17 (q:=ixa) (k:=at2 18 (q:=lel) (k:=at2 19 (q:=jA) (k:=at2 20 (q:=igt) (k:=at2 21 (q:=pkf) (k:=as_ 22 (q:=pkt) (k:=az_ (k:=?_))))))))))))))
    refine jne (hs:=.cons (c8) (.nil))
   replace h2:=nrm h2
   refine ao_ 7 (k:=ao_ 8 (k:=ao_ 9 (k:=ff 10 (k:=ff 11 (k:=ff 12 (k:=ff 13 (k:=ff 14 (k:=ff 15 (k:=ff 16 (k:=ff 17 (k:=ff 18 (k:=ff 19 (k:=ff 20 (k:=?_))))))))))))))
   refine ao_ 21 (k:=as_ 22 (q:=pkf) (k:=az_ (k:=jne (hs:=.cons (c8) (.nil)))))
  refine wi_ (k:=fun h4=>?_) (m:=fun h4=>?_)
  ·rw[mz,h4]at hls
   refine go ?_
   refine ln_ ((n+1,some (n,R))) (k:=?_)
   try dsimp only
   refine⟨a8,hls,fun p hp=> ?_⟩
   cases hp
   refine⟨hR,?_⟩
   simp only[lsC,Bool.and_eq_true]at h4;exact h4.1
  rw[mz,h4]at hls
  refine go ?_
  refine ln_ ((n+1,o)) (k:=?_)
  try dsimp only
  exact⟨a8,hls,ho⟩
 obtain rfl:n=rs.length:=a8
 rw[List.take_of_length_le (Nat.le_refl _)]at hf
 refine gk (k:=wi_ (k:=fun h5=>?_) (m:=fun h5=>?_))
 ·obtain rfl:=BJ.1 h5
  refine gk (k:=rt_ Tryz.results288 (k:=?_))
  exact⟨_,hsb,q, -1,rfl,by rw[p8,dR,hf];exact⟨rfl,rfl⟩,rfl⟩
 obtain⟨p,rfl⟩:∃p,o=some p:=by
  cases o with
  |none=> simp[atI]at h5
  |some p=> exact⟨p,rfl⟩
 obtain⟨hp1,hp2⟩:=ho p rfl
 have hpl:=(Yk.1 hp1).1
 obtain⟨f,f2,hf1,hfb,_⟩:=hr.get hp1
 have hfl:=cJ f
 rw[hfb]at hfl
 have hle:=lD hp2
 dsimp only[atI]
 refine wk_ (qn_ (ws_ (wr_ (e_ mv (k:=e_ mv (k:=e_ jA (k:=e_ mv (k:=e_ mv (k:=e_ ixa (k:=e_ lel (k:=e_ jA (k:=e_ isb (k:=e_ pT (k:=?_))))))))))))))
 refine gk (k:=rt_ Tryz.results288 (k:=?_))
 refine⟨_,hsb,q.extract 0 (q.size - f.size),_,rfl,?_,rfl⟩
 have hrl:=cJ (q.extract 0 (q.size - f.size))
 rw[fP,Yg]at hrl
 rw[p8,dR,hf]
 exact⟨p.1,hp1,rfl,hp2,by rw[fP,kV,hl,hfl],a8⟩
theorem tu {G:cM}{H:cG}{q:ByteArray}{s:SV}{strs:List ByteArray}{rs:List fQ}{most:Nat} [hs:Sl H s eS strs] (hr:iS strs rs) (hq:q.size≤100000000) (hn:rs.length≤1000) (hsz:∀r∈rs,r.1.length≤1000∧r.2.length≤1000):SC G Tryz.prog 289 [.string q,s.val, .int .i64 (most:Int)] H (fun v H'=> ∃r,v= .string r∧cF r=fA rs most (cF q)∧H'=H):=by
 have hl:=cJ q
 have hsl:=hr.length
 refine sWk Tryz.func289 Tryz.ntmps289 ?_
 refine go ?_
 refine c2_ rfl (pP hr (a8) hn hsz) (k:=?_)
 rintro _ _ ⟨r,a,rfl,hL,rfl⟩
 have hrq:r.size≤q.size:=by
  rw[p8]at hL
  cases h:dR rs (cF q)with
  |none=> rw[h]at hL;rw[hL.1];exact Nat.le_refl _
  |some R=> rw[h]at hL;obtain⟨k,_,_,_,_,h5⟩:=hL;omega
 refine gk (k:=dQ 5 22 (k:=fun h1=>gk (k:=gU (vs:=[_]) (hc:=(xy (a8))) (k:=gk (k:=edq)))) (q:=?_))
 refine gk (k:=wi_ (k:=fun h2=>?_) (m:=fun h2=>?_))
 ·have hR:fA rs most (cF q)=cF q:=by
   rw[p8]at hL
   rw[fA]
   cases h:dR rs (cF q)with
   |none=> rfl
   |some R=>
    rw[h]at hL
    obtain⟨k,h1,h2,h3,h4,h5⟩:=hL
    simp only
    rw[←h4,Yr (a8)];all_goals rfl
  refine gk (k:=rt_ Tryz.results289 (k:=?_))
  exact⟨_,hsb,q,rfl,hR.symm,rfl⟩
 obtain⟨R,k,h1,rfl,h3,h4,h5,h6⟩:∃R k,rs[k]? =some R∧a=((2*k:Nat):Int)∧cX (cF q) R.1=true∧cF r=kV (cF q) R.1∧r.size+R.1.length=q.size∧dR rs (cF q)=some R:=by
  rw[p8]at hL
  cases h:dR rs (cF q)with
  |none=> rw[h]at hL;obtain⟨_,e⟩:=hL;omega
  |some R=> rw[h]at hL;obtain⟨k,g1,g2,g3,g4,g5⟩:=hL;exact⟨R,k,g1,g2,g3,g4,g5,rfl⟩
 obtain⟨f,f2,hf1,hfb,hf2,hfb2⟩:=hr.get h1
 have hfl:=cJ f2
 rw[hfb2]at hfl
 obtain⟨_,hz⟩:=hsz R (Yj h1)
 have hkl:=(Yk.1 h1).1
 refine wk_ (qn_ (ws_ (wr_ (e_ mv (k:=e_ mv (k:=e_ mv (k:=e_ iad (k:=?_))))))))
 refine e_ (cO rfl rfl (2*k+1) (a8) (a8)) (k:=?_)
 refine e_ lel (k:=e_ Cg (k:=gk (k:=rt_ Tryz.results289 (k:=?_))))
 refine⟨_,hsb,r++f2,rfl,?_,rfl⟩
 rw[ej,hfb2,h4,fA,h6]
 simp only
 rw[←h4,Ys (a8)];all_goals rfl
theorem mX {rs:List fQ}{q r:ByteArray}{a:Int}(h:p8 rs q r a) (ha:¬a<0):∃R k,rs[k]? =some R∧a=((2*k:Nat):Int)∧cX (cF q) R.1=true∧cF r=kV (cF q) R.1∧r.size+R.1.length=q.size∧dR rs (cF q)=some R:=by
 rw[p8]at h
 cases hl:dR rs (cF q)with
 |none=> rw[hl]at h;obtain⟨_,e⟩:=h;omega
 |some R=> rw[hl]at h;obtain⟨k,g1,g2,g3,g4,g5⟩:=h;exact⟨R,k,g1,g2,g3,g4,g5,rfl⟩
theorem mY {rs:List fQ}{q r:ByteArray}{a:Int}(h:p8 rs q r a) (ha:a<0):r=q∧dR rs (cF q)=none:=by
 rw[p8]at h
 cases hl:dR rs (cF q)with
 |none=> rw[hl]at h;exact⟨h.1,rfl⟩
 |some R=> rw[hl]at h;obtain⟨k,g1,g2,_⟩:=h;omega
theorem LW:iS ((iz gY).map dO) gY:=nU (an)
theorem LV:iS ((iz jx).map dO) jx:=nU (an)
theorem No:iS ((iz ir).map dO) ir:=nU (an)
theorem Nn:iS ((iz iZ).map dO) iZ:=nU (an)
theorem K6:iS ((iz eQ).map dO) eQ:=nU (an)
theorem r9 {q r:ByteArray}{l:List Nat}{k:Nat}(h:cF r=l) (hl:l.length≤(cF q).length+k):r.size≤q.size+k:=by
 rw[←cJ r,←cJ q,h];exact hl
theorem GX {G:cM}{H:cG}{q:ByteArray}(hq:q.size≤10000000):SC G Tryz.prog 283 [.string q] H (fun v H'=> ∃r,v= .string r∧cF r=gI (cF q)∧H'=H):=by
 refine sWk Tryz.func283 Tryz.ntmps283 ?_
 refine go ?_
 refine s_ (dp eS ((iz gY).map dO) (aI) rfl (an)) (k:=?_)
 rintro _ _ ⟨s7,rfl,rfl⟩
 refine c2_ rfl (pP LW (a8) (ag) (ag)) (k:=?_)
 rintro _ _ ⟨r,a,rfl,hL,rfl⟩
 refine go ?_
 refine wi_ (k:=fun h1=>?_) (m:=fun h1=>?_)
 ·obtain⟨rfl,hN⟩:=mY hL h1
  refine gk (k:=rt_ Tryz.results283 (k:=?_))
  exact⟨_,hsb,r,rfl,by rw[gI,hN],rfl⟩
 obtain⟨R,k,g1,rfl,g3,g4,g5,g6⟩:=mX hL h1
 have hk:=(Yk.1 g1).1
 have hk4:k<4:=hk
 have hg:(gY.map fun r=> dO r.2)[k]? =some (dO R.2):=by rw[Xd,g1];all_goals rfl
 have hR:R.2.length≤10:=(show ∀r∈gY,r.2.length≤10 from ag) R (Yj g1)
 have hz:=fg R.2
 refine go ?_
 refine s_ (dp eS (gY.map fun r=> dO r.2) (aI) rfl (an)) (k:=?_)
 rintro _ _ ⟨s15,rfl,rfl⟩
 refine e_ mv (k:=?_)
 refine e_ (iF rfl rfl (2*k) 2 rfl rfl (ag) (aw)) (k:=?_)
 rw[show 2*k / 2=k from a8]
 refine e_ (cO rfl rfl k rfl (by rw[Yh];exact hk)) (k:=?_)
 refine e_ (dq rfl (aI) (aI) _ hg) (k:=?_)
 refine e_ Cg (k:=gk (k:=rt_ Tryz.results283 (k:=?_)))
 refine⟨_,hsb,r++dO R.2,rfl,?_,rfl⟩
 rw[ej,g4,gI,g6,dK]
 exact(show ∀r∈gY,∀x∈r.2,x<256 from ag) R (Yj g1)
theorem JH {G:cM}{H:cG}{q:ByteArray}(hq:q.size≤10000000):SC G Tryz.prog 280 [.string q] H (fun v H'=> ∃r,v= .string r∧cF r=fA ir 0 (cF q)∧H'=H):=by
 refine sWk Tryz.func280 Tryz.ntmps280 ?_
 refine go ?_
 refine s_ (dp eS ((iz ir).map dO) (aI) rfl (an)) (k:=?_)
 rintro _ _ ⟨s4,rfl,rfl⟩
 refine c3_ rfl (tu (most:=0) No (a8) (ag) (ag)) (k:=?_)
 rintro _ _ ⟨r,rfl,hr,rfl⟩
 refine gk (k:=rt_ Tryz.results280 (k:=?_))
 exact⟨_,hsb,r,rfl,hr,rfl⟩
theorem JG {G:cM}{H:cG}{q:ByteArray}(hq:q.size≤10000000):SC G Tryz.prog 279 [.string q] H (fun v H'=> ∃r,v= .string r∧cF r=fA iZ 0 (cF q)∧H'=H):=by
 refine sWk Tryz.func279 Tryz.ntmps279 ?_
 refine go ?_
 refine s_ (dp eS ((iz iZ).map dO) (aI) rfl (an)) (k:=?_)
 rintro _ _ ⟨s4,rfl,rfl⟩
 refine c3_ rfl (tu (most:=0) Nn (a8) (ag) (ag)) (k:=?_)
 rintro _ _ ⟨r,rfl,hr,rfl⟩
 refine gk (k:=rt_ Tryz.results279 (k:=?_))
 exact⟨_,hsb,r,rfl,hr,rfl⟩
theorem JF {G:cM}{H:cG}{q:ByteArray}(hq:q.size≤10000000):SC G Tryz.prog 278 [.string q] H (fun v H'=> ∃r,v= .string r∧cF r=l8 (cF q)∧H'=H):=by
 refine sWk Tryz.func278 Tryz.ntmps278 ?_
 refine ws_ (wr_ (e_ asn (k:=on_ (qn_ (ws_ (wr_ (?_)))))))
 refine s_ (dp eS ((iz eQ).map dO) (aI) rfl (an)) (k:=?_)
 rintro _ _ ⟨s6,rfl,rfl⟩
 refine e_ asn (k:=on_ (qn_ (ws_ (wr_ (e_ mv (k:=e_ mv (k:=?_)))))))
 refine c2_ rfl (pP K6 (a8) (ag) (ag)) (k:=?_)
 rintro _ _ ⟨r,a,rfl,hL,rfl⟩
 have hrq:r.size≤q.size:=by
  by_cases h:a<0
  ·rw[(mY hL h).1];exact Nat.le_refl _
  ·obtain⟨R,k,_,_,_,_,h5,_⟩:=mX hL h;omega
 refine e_ mv (k:=e_ exr (k:=e_ exr (k:=e_ asn (k:=e_ asn (k:=on_ (qn_ (ws_ (ws_ (wr_ (e_ mv (k:=e_ ige (k:=?_))))))))))))
 obtain⟨c,hc1,hc2⟩:∃c:ByteArray,(0≤a→((iz eQ).map dO)[a.toNat]? =some c∧a.toNat<((iz eQ).map dO).length)∧(0≤a→∃R,dR eQ (cF q)=some R∧cF c=R.1∧cF r=kV (cF q) R.1):=by
  by_cases h:a<0
  ·exact⟨q,fun h1=> a8,fun h1=> a8⟩
  ·obtain⟨R,k,h1,rfl,h3,h4,h5,h6⟩:=mX hL h
   obtain⟨c,_,g1,g2,_⟩:=K6.get h1
   rw[Int.toNat_natCast]
   exact⟨c,fun _=> ⟨g1,(Yk.1 g1).1⟩,fun _=> ⟨R,h6,g2,h4⟩⟩
 refine e_ mv (k:=cY 6 21 (k:=fun h1=>eg_ mv (k:=eg_ mv (k:=eg_ (ixa (i:=a.toNat) (hj:=by omega) (hlt:=(hc1 (a8)).2)) (k:=eg_ (lel (hy:=(hc1 (a8)).1)) (k:=eg_ sC (k:=e_ pkt (k:=on_ (edq)))))))) (q:=e_ mv (k:=cY 4 26 (k:=fun h2=>eg_ mv (k:=gU (vs:=[_,_]) (hc:=(l0 (a8) (ag))) (k:=eg_ oQ (k:=e_ pkt (k:=on_ (edq)))))) (q:=e_ mv (k:=cY 4 31 (k:=fun h3=>eg_ mv (k:=gU (vs:=[_,_]) (hc:=(l0 (a8) (ag))) (k:=eg_ oQ (k:=e_ pkt (k:=on_ (edq)))))) (q:=on_ (qn_ (wi_ (k:=fun h4=>?_) (m:=fun h4=>?_)))))))))
 ·have hS:l8 (cF q)=cF q:=by
   obtain⟨⟨⟨h0,h1⟩,h2⟩,h3⟩:=h4
   obtain⟨R,g1,g2,g3⟩:=hc2 h0
   rw[l8,g1]
   simp only
   rw[←g3,←g2,h1]
   rw[show cF ⟨#[115]⟩= [115]from rfl]at h2
   rw[show cF ⟨#[116]⟩= [116]from rfl]at h3
   rw[h2,h3];all_goals rfl
  refine ws_ (wr_ (e_ mv (k:=e_ asn (k:=on_ (qn_ (wt_ (qr_ (rt_ Tryz.results278 (k:=?_)))))))))
  exact⟨_,hsb,q,rfl,hS.symm,rfl⟩
 have hS:l8 (cF q)=fA eQ 1 (cF q):=by
  by_cases ha:a<0
  ·rw[l8,fA,(mY hL ha).2]
  ·obtain⟨R,g1,g2,g3⟩:=hc2 (a8)
   rw[l8,g1]
   simp only
   rw[←g3,←g2]
   have:(decide (cF c= [105,111,110]) && !cX (cF r) [115] && !cX (cF r) [116])=false:=by
    rw[show cF ⟨#[115]⟩= [115]from rfl,show cF ⟨#[116]⟩= [116]from rfl,show cF ⟨#[105,111,110]⟩= [105,111,110]from rfl]at h4
    rcases h4 with((h1|h1)|h1)|h1
    ·omega
    ·rw[Yr h1];all_goals rfl
    ·rw[h1];simp
    ·rw[h1];simp
   rw[this];all_goals rfl
 refine wk_ (qn_ (ws_ (wr_ (e_ mv (k:=e_ mv (k:=?_))))))
 refine c3_ rfl (tu (most:=1) K6 (a8) (ag) (ag)) (k:=?_)
 rintro _ _ ⟨r2,rfl,hr2,rfl⟩
 refine e_ asn (k:=on_ (qn_ (wt_ (rt_ Tryz.results278 (k:=?_)))))
 exact⟨_,hsb,r2,rfl,by rw[hr2,hS],rfl⟩
end Go.Sx
