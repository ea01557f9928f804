import Derived.Test.YtefgpomabdplbaaGreatDoorQ38
set_option linter.unusedVariables false
set_option linter.unusedSimpArgs false
set_option linter.unusedSectionVars false
set_option linter.unnecessarySimpa false
set_option maxHeartbeats 0
namespace Go.Sx
open Go Go.Proofs
set_option maxRecDepth 100000
def cuZ (z:Nat×CuS):cG:= [CuH z.1 z.2]
theorem qm {l:List (Nat×CuS)}{i b:Nat}{c:CuS}{H:cG}(h:l[i]? =some (b,c)):cJ (Cl cuZ l::H) (CuH b c::Cl cuZ (l.take i)::Cl cuZ (l.drop (i+1))::H):=mY (f:=cuZ) h
theorem jD {l:List (Nat×CuS)}{i b:Nat}{c:CuS}{H:cG}(hi:i<l.length):cJ (CuH b c::Cl cuZ (l.take i)::Cl cuZ (l.drop (i+1))::H) (Cl cuZ (l.set i (b,c))::H):=qo (f:=cuZ) (b,c) hi
theorem lB {bs:List Nat}{cs:List CuS}{i b:Nat}{c:CuS}(h1:bs[i]? =some b) (h2:cs[i]? =some c):(bs.zip cs)[i]? =some (b,c):=by rw[List.getElem?_zip_eq_some];exact⟨h1,h2⟩
theorem jy {bs:List Nat}{cs:List CuS}{i b:Nat}{c:CuS}(h1:bs[i]? =some b):(bs.zip cs).set i (b,c)=bs.zip (cs.set i c):=by
 apply List.ext_getElem?
 intro j
 rw[List.getElem?_set]
 by_cases hij:i=j
 ·subst hij
  rw[if_pos rfl]
  by_cases hl:i<cs.length
  ·rw[if_pos (by rw[List.length_zip];have:=(Yk.1 h1).1;omega),lB h1 (List.getElem?_set_self hl)]
  ·rw[if_neg (by rw[List.length_zip];omega),List.getElem?_eq_none (by rw[List.length_zip,List.length_set];omega)]
 ·rw[if_neg hij]
  simp only[List.zip,List.getElem?_zipWith,List.getElem?_set,if_neg hij]
class MoP (H:cG) (m:Nat) (x:MX):Prop where
 out:∀(G:cK) (w:World),Sat G w H→∃(s:SV) (y:MY) (R:cG),Sat G w (Vr m (mV x s y)::R)
instance MoP.ofMo {H R:cG}{m:Nat}{x:MX}{y:MY} [hr:Rem H Mo m (x,y) R]:MoP H m x:=⟨fun G w hw=> let ⟨s,hs⟩:=mo (K:=Mo) rfl hr hw;⟨s,y,_,hs⟩⟩
instance MoP.ofVr {H R:cG}{m:Nat}{x:MX}{y:MY}{s:SV} [hr:Rem H Vr m (mV x s y) R]:MoP H m x:=⟨fun G w hw=> ⟨s,y,R,hr.sat hw⟩⟩
theorem B0 {G:cK}{P:Program}{t:Tm}{H:cG}{o:Oper}{v:Value}{x:MX}(m:Nat) [h:MoP H m x] (hk:∀(s:SV) (y:MY) (R:cG),Ev G P o t (Vr m (mV x s y)::R) v):Ev G P o t H v:=fun ρ hρ w hw=> by
 obtain⟨s,y,R,hs⟩:=h.out G w hw
 exact hk s y R ρ hρ w hs
section
variable {G:cK}{H R R1 R2:cG}{m op A B b d:Nat}{x:MX}{y:MY}{p:PrG}{q:PtD}{c:CuS}{ins:List Ins}{s:SV}{cs:List CuS}
theorem oX {a:Bool}{v:Nat} [h1:Rem H Vr m (mV x s y) R1] [h2:na R1 s eVV y.stk R] (hl:y.stk.length≤1000000000):SC G Tryz.prog 77 [.pointer (some ⟨m,0,none⟩), .agg [.bool a, .int .u64 ((v:Nat):Int)].toArray] H (fun v' H'=> v'= .tuple #[]∧H'=Mo m (x,{y with stk:=y.stk++ [(a,v)]})::R):=
 SC.less ((cJ.rem h1 (gB h2 cJ.refl).keep).trans jB) (nF (x:=x) (y:=y) hl)
structure MOk (x:MX) (p:PrG) (q:PtD) (cs:List CuS):Prop where
 cl:x.cs.length=cs.length
 ok:∀c∈cs,iK c
 cu:p.curs.length=cs.length
 fd:∀c∈p.curs,0≤c.1∧c.1<((q.fs.length:Nat):Int)
 av:p.avgs.length=q.fs.length
 ap:∀a∈p.avgs,0≤a
 n:cs.length≤100000000
theorem Lz [hr:Rem H Mo m (x,y) R] [hc:Rem R Cl cuZ (x.cs.zip cs) R2] [hsc:Sl R2 x.cu ePt (x.cs.map fun b=> (b,0))] [hg:Glb G R2] [hpt:dq R2 x.pt q] [hpr:gE R2 x.pa p] (hk:MOk x p q cs) (hpl:y.pl=((d:Nat):Int)) (hA:A<cs.length) (hB:B<18446744073709551616) (hd:d<q.ds.length) (hl:y.stk.length≤1000000000):
 SC G Tryz.prog 80 [.pointer (some ⟨m,0,none⟩),nw op A B] H (fun v H'=> v= .tuple #[]∧H'=Mo m (x,{y with stk:=y.stk++ [(uW (cS p q ins) d A B cs).1]})::Cl cuZ (x.cs.zip (uW (cS p q ins) d A B cs).2)::R2):=by
 have hcl:=hk.cl
 have hcn:=hk.n
 have hcu:=hk.cu
 have hav:=hk.av
 obtain⟨b,hb⟩:∃b,x.cs[A]? =some b:=⟨_,Yi (aa)⟩
 obtain⟨c,hcA⟩:∃c,cs[A]? =some c:=⟨_,Yi hA⟩
 obtain⟨⟨fd,ky⟩,hfk⟩:∃z,p.curs[A]? =some z:=⟨_,Yi (aa)⟩
 obtain⟨hf1,hf2⟩:=hk.fd _ (Yj hfk)
 simp only at hf1 hf2
 obtain⟨fn,rfl⟩:∃n:Nat,fd=((n:Nat):Int):=⟨fd.toNat,aa⟩
 have hbp:(x.cs.map fun b=> (b,0))[A]? =some ((b,0):Nat×Nat):=by rw[Xd,hb];all_goals rfl
 have hgd:cs.getD A m5=c:=by rw[List.getD_eq_getElem?_getD,hcA];all_goals rfl
 have hcok:=hk.ok c (Yj hcA)
 have hz:=lB hb hcA
 have hzl:=(Yk.1 hz).1
 have hfo:ou (cS p q ins) A=((fn:Nat):Int):=by rw[ou];show(match p.curs[A]? with|some x=> x.1|none=> 0)=_;rw[hfk]
 have hlm:(x.cs.map fun b=> ((b,0):Nat×Nat)).length=cs.length:=by rw[Yh,hcl]
 rw[uW,hgd,hfo]
 refine SC.less (cJ.rem hr (cJ.rem hc cJ.refl).keep) ?_
 refine nN (m:=m) (x:=x) (y:=y) (R:=Cl cuZ (x.cs.zip cs)::R2) inferInstance (fun s=> ?_)
 refine sWk Tryz.func80 Tryz.ntmps80 ?_
 refine gk (k:=bxx (k:=fun b3=>?_))
 refine go ?_
 refine df cI (fun i=> [].contains i) (fun k H=> (k=3→cQ H m (mV x s y))∧(k=5→cQ H b3 [.int .i64 ((op:Nat):Int), .int .u64 ((A:Nat):Int), .int .u64 ((B:Nat):Int)])∧(k=6→Sl H x.cu ePt (x.cs.map fun b=> (b,0)))∧(k=7→Sl H x.cu ePt (x.cs.map fun b=> (b,0)))) (af_ 0 (q:=cD fun H hH=>mv) (k:=af_ 1 (q:=cD fun H hH=>nck) (k:=af_ 2 (q:=cD fun H hH=>fla) (k:=?_))))
 refine cE 3 rfl rfl (a8) rfl (cD fun H hH=>ak) (?_)
 refine af_ 4 (q:=cD fun H hH=>fla) (k:=?_)
 refine cE 5 rfl rfl (a8) rfl (cD fun H hH=>ar) (?_)
 refine cE 6 rfl rfl (a8) rfl (cD fun H hH=>aV) (?_)
 refine cE 7 rfl rfl (a8) rfl (cD fun H hH=>by have hN:=hH.2.2.2 rfl;exact lel (hy:=hbp)) (?_)
 refine af_ 8 (q:=cD fun H hH=>asn) (k:=db (a8) (fun k hk=> ⟨fun hi=> ab,fun hi=> ab,fun hi=> ab,fun hi=> ab⟩) (go ?_))
 refine du (H':=CuH b c::Cl cuZ ((x.cs.zip cs).take A)::Cl cuZ ((x.cs.zip cs).drop (A+1))::Vr b3 [.int .i64 ((op:Nat):Int), .int .u64 ((A:Nat):Int), .int .u64 ((B:Nat):Int)]::Vr m (mV x s y)::Row s eVV y.stk::R2) (cJ.trans (H':=Cl cuZ (x.cs.zip cs)::Vr b3 [.int .i64 ((op:Nat):Int), .int .u64 ((A:Nat):Int), .int .u64 ((B:Nat):Int)]::Vr m (mV x s y)::Row s eVV y.stk::R2) (hsb) (qm hz)) ?_
 refine go ?_
 refine d2_ rfl (Bu (x:=x) (y:=y) (s:=s) (c:=c) (d:=d) hpl hcok) (k:=gk (k:=wi_ (k:=fun h1=>?_) (m:=fun h1=>?_)))
 ·have hat:¬AD d (ei d c)=true:=by have h9:=h1;simpa using h9
  rw[if_neg hat]
  refine ws_ (wr_ (e_ mv (k:=e_ (bld []) (k:=?_))))
  refine d2_ rfl (oX (x:=x) (y:=y) (s:=s) (a:=false) (v:=0) hl) (k:=gk (k:=rt_ Tryz.results80 (k:=?_)))
  dsimp only;rw[←jy hb];exact⟨_,cJ.trans (H':=CuH b (ei d c)::Cl cuZ ((x.cs.zip cs).take A)::Cl cuZ ((x.cs.zip cs).drop (A+1))::Mo m (x,{y with stk:=y.stk++ [(false,0)]})::R2) (hsb) ((jD hzl).trans (hsb)),rfl,rfl⟩
 have hat:AD d (ei d c)=true:=bL
 rw[if_pos hat]
 refine go ?_
 refine df cI (fun i=> [5,16,17].contains i) (fun k H=> (k=3→cQ H b3 [.int .i64 ((op:Nat):Int), .int .u64 ((A:Nat):Int), .int .u64 ((B:Nat):Int)])∧(k=10→MoP H m x)∧(k=12→cQ H b3 [.int .i64 ((op:Nat):Int), .int .u64 ((A:Nat):Int), .int .u64 ((B:Nat):Int)])∧(k=13→Sl H x.pa.cu eLf p.curs)∧(k=14→Sl H x.pa.cu eLf p.curs)∧(k=15→Sl H x.pa.cu eLf p.curs)) (af_ 0 (q:=cD fun H hH=>mv) (k:=af_ 1 (q:=cD fun H hH=>mv) (k:=af_ 2 (q:=cD fun H hH=>fla) (k:=?_))))
 refine cE 3 rfl rfl (a8) rfl (cD fun H hH=>ak) (?_)
 refine af_ 4 (q:=cD fun H hH=>mv) (k:=af_ 6 (q:=cD fun H hH=>mv) (k:=af_ 7 (q:=cD fun H hH=>nck) (k:=af_ 8 (q:=cD fun H hH=>fla) (k:=af_ 9 (q:=cD fun H hH=>fla) (k:=?_)))))
 refine cE 10 rfl rfl (a8) rfl (cD fun H hH=>by have hN:=hH.2.1 rfl;exact B0 (x:=x) m fun s y R=> ldv) (?_)
 refine af_ 11 (q:=cD fun H hH=>fla) (k:=?_)
 refine cE 12 rfl rfl (a8) rfl (cD fun H hH=>aF) (?_)
 refine cE 13 rfl rfl (a8) rfl (cD fun H hH=>bV) (?_)
 refine cE 14 rfl rfl (a8) rfl (cD fun H hH=>by have hN:=hH.2.2.2.2.1 rfl;exact fle) (?_)
 refine cE 15 rfl rfl (a8) rfl (cD fun H hH=>by have hN:=hH.2.2.2.2.2 rfl;exact lfl (hy:=hfk)) (?_)
 refine cN 5 rfl (a8) rfl (fun k hk=> ⟨fun hi=> ab,fun hi=> ab,fun hi=> ab,fun hi=> ab,fun hi=> ab,fun hi=> ab⟩) (cW (vs:= [_]) rfl (KV (c:=ei d c))) ?_
 rintro _ _ ⟨rfl,rfl⟩
 refine cN 16 rfl (a8) rfl (fun k hk=> ⟨fun hi=> ab,fun hi=> ab,fun hi=> ab,fun hi=> ab,fun hi=> ab,fun hi=> ab⟩) (cW (vs:= [_,_,_,_]) rfl (Bx (x:=x) (y:=y) (s:=s) (p:=p) (q:=q) (ins:=ins) (w:=B) (f:=(eV (ei d c)).length) (k:=fn) hpl (aa) (aa) hd hk.ap hB)) ?_
 rintro _ _ ⟨rfl,rfl⟩
 refine cN 17 rfl (a8) rfl (fun k hk=> ⟨fun hi=> absurd hk (ad),fun hi=> ab,fun hi=> ab,fun hi=> ab,fun hi=> ab,fun hi=> absurd hk (ad)⟩) (cW (vs:= [_,_]) rfl (oX (x:=x) (y:=y) (s:=s) hl)) ?_
 rintro _ _ ⟨rfl,rfl⟩
 refine db (a8) (fun k hk=> ⟨fun hi=> absurd hk (ad),fun hi=> ab,fun hi=> ab,fun hi=> ab,fun hi=> ab,fun hi=> absurd hk (ad)⟩) (rt_ Tryz.results80 (k:=?_))
 dsimp only;rw[←jy hb];exact⟨_,cJ.trans (H':=CuH b (ei d c)::Cl cuZ ((x.cs.zip cs).take A)::Cl cuZ ((x.cs.zip cs).drop (A+1))::Mo m (x,{y with stk:=y.stk++ [tr (cS p q ins) d B (eV (ei d c)).length ((fn:Nat):Int)]})::R2) (hsb) ((jD hzl).trans (hsb)),rfl,rfl⟩
end
theorem Dm {L:List VV}{j:Nat}{v:VV}(h:L[j]? =some v):qc (L.take (j+1))=qc (L.take j)+if v.1=true then 1 else 0:=by
 rw[cP h,qc,qc,List.filter_append,Ya]
 cases hv:v.1 <;> simp[hv]
theorem F9 {L:List VV}{j:Nat}{v:VV}(h:L[j]? =some v):A6 (L.take (j+1))=if v.1=true then w64 (A6 (L.take j)+v.2)else A6 (L.take j):=by
 rw[cP h,A6,List.foldl_append];all_goals rfl
section
variable {G:cK}{H R:cG}{m op A B:Nat}{x:MX}{y:MY}
theorem LU [hr:Rem H Mo m (x,y) R] (hA:A≤y.stk.length) (hB:B<18446744073709551616) (hl:y.stk.length≤1000000000):SC G Tryz.prog 97 [.pointer (some ⟨m,0,none⟩),nw op A B] H (fun v H'=> v= .tuple #[]∧H'=Mo m (x,{y with stk:=y.stk.take (y.stk.length - A)++ [if B≤qc (y.stk.drop (y.stk.length - A))then(true,A6 (y.stk.drop (y.stk.length - A)))else(false,0)]})::R):=by
 refine nN hr (fun s=> ?_)
 obtain⟨L,hL⟩:∃L,L=y.stk.drop (y.stk.length - A):=⟨_,rfl⟩
 have hLl:L.length=A:=by rw[hL,Yo];omega
 have htl:(y.stk.take (y.stk.length - A)).length≤1000000000:=aA
 rw[←hL]
 refine sWk Tryz.func97 Tryz.ntmps97 ?_
 refine gk (k:=bxx (k:=fun b3=>?_))
 refine go ?_
 refine df cI (fun i=> [].contains i) (fun k H=> (k=3→cQ H m (mV x s y))∧(k=4→Sl H s eVV y.stk)∧(k=6→cQ H b3 [.int .i64 ((op:Nat):Int), .int .u64 ((A:Nat):Int), .int .u64 ((B:Nat):Int)])) (af_ 0 (q:=cD fun H hH=>mv) (k:=af_ 1 (q:=cD fun H hH=>nck) (k:=af_ 2 (q:=cD fun H hH=>fla) (k:=?_))))
 refine cE 3 rfl rfl (a8) rfl (cD fun H hH=>ak) (?_)
 refine cE 4 rfl rfl (a8) rfl (cD fun H hH=>by have hN:=hH.2.1 rfl;exact lnn) (?_)
 refine af_ 5 (q:=cD fun H hH=>fla) (k:=?_)
 refine cE 6 rfl rfl (a8) rfl (cD fun H hH=>aZ) (?_)
 refine cE 7 rfl rfl (a8) rfl (cD fun H hH=>dy rfl (aa)) (?_)
 refine cE 8 rfl rfl (a8) rfl (cD fun H hH=>evq isb (congrArg (Value.int .i64) (show _=((y.stk.length - A:Nat):Int)from aa))) (?_)
 refine af_ 9 (q:=cD fun H hH=>asn) (k:=db (a8) (fun k hk=> ⟨fun hi=> ab,fun hi=> ab,fun hi=> ab⟩) (go ?_))
 refine go ?_
 refine kW (Row s eVV y.stk::R) rfl (y.stk.length - A) (y.stk.length) ⟨_,_,rfl,(aN)⟩ rfl (aa) (aP) rfl (fun s23 i23=>?_)
 rw[List.take_length,←hL]at i23
 refine gk (k:=dt (Nat×Nat×Nat) (fun y=> y.1≤L.length∧y.2.1=qc (L.take y.1)∧y.2.2=A6 (L.take y.1)∧y.2.1≤y.1) (fun y=> [(5, .int .u64 ((y.2.1:Nat):Int)),(6, .int .u64 ((y.2.2:Nat):Int)),(25, .int .i64 ((y.1:Nat):Int))]) [(0,_),(3,_),(4,_),(23,_),(24,_)] (fun y=> []) _ (fun y=> L.length - y.1) ((0,0,0)) (h0:=?_) (k:=?_))
 ·try dsimp only
  exact⟨Yl _,rfl,rfl,Nat.le_refl _⟩
 rintro⟨j,n,w⟩ ⟨hj,hn,hw,hnj⟩
 try dsimp only[Yd,Ye]at*
 refine gk (k:=wi_ (k:=fun h1=>?_) (m:=fun h1=>?_))
 ·obtain⟨v,hv⟩:∃v,L[j]? =some v:=⟨_,Yi (aa)⟩
  have hs1:=Dm hv
  have hs2:=F9 hv
  refine wk_ (qn_ (ws_ (wb_ (ws_ (wr_ (e_ ixa (k:=e_ (jn (hy:=hv)) (k:=alc (k:=fun b8=>?_)))))))))
  refine gk (k:=wi_ (k:=fun h2=>?_) (m:=fun h2=>?_))
  ·have hvt:v.1=true:=h2
   rw[if_pos hvt]at hs1 hs2
   refine ws_ (wr_ (e_ mv (k:=?_)))
   refine e_ (jY 18446744073709551616 rfl rfl rfl rfl n 1 rfl rfl (aa)) (k:=?_)
   refine e_ asn (k:=on_ (qn_ (wr_ (e_ mv (k:=e_ fla (k:=e_ ldv (k:=?_)))))))
   refine e_ (mS 18446744073709551616 rfl rfl rfl rfl w v.2 rfl rfl) (k:=?_)
   refine go ?_
   refine ln_ ((j+1,n+1,(w+v.2) % 18446744073709551616)) (k:=?_)
   try dsimp only
   exact⟨aa,aa,by rw[hs2,←hw];all_goals rfl,aa⟩
  have hvf:¬v.1=true:=aO
  rw[if_neg hvf]at hs1 hs2
  refine go ?_
  refine ln_ ((j+1,n,w)) (k:=?_)
  try dsimp only
  exact⟨aa,aa,by rw[hs2,←hw],aa⟩
 obtain rfl:j=L.length:=aa
 rw[List.take_length]at hn hw
 refine we_ (qe_ (le_ (bh_ (qn_ (ws_ (wr_ (e_ mv (k:=e_ mv (k:=e_ nck (k:=e_ fla (k:=e_ ldv (k:=e_ mv (k:=?_)))))))))))))
 refine e_ (eL rfl (bQ) 0 (y.stk.length - A) rfl ⟨_,_,rfl,aa⟩ (aa) (aa)) (k:=?_)
 refine e_ nck (k:=e_ fla (k:=sto (k:=on_ (qn_ (ws_ (wr_ (?_)))))))
 refine du (H':=Row (s.cut 2 0 (y.stk.length - A)) eVV (y.stk.take (y.stk.length - A))::Vr m (mV x (s.cut 2 0 (y.stk.length - A)) y)::Vr b3 [.int .i64 ((op:Nat):Int), .int .u64 ((A:Nat):Int), .int .u64 ((B:Nat):Int)]::R) (cJ.trans (H':=Row s eVV y.stk::Vr m (mV x (s.cut 2 0 (y.stk.length - A)) y)::Vr b3 [.int .i64 ((op:Nat):Int), .int .u64 ((A:Nat):Int), .int .u64 ((B:Nat):Int)]::R) (hsb) (tw (aa))) ?_
 refine gk (k:=wi_ (k:=fun h3=>?_) (m:=fun h3=>?_))
 ·have hge:B≤qc L:=by have h9:=h3;omega
  refine wr_ (e_ mv (k:=e_ mv (k:=e_ (bld [(0,_),(1,_)]) (k:=?_))))
  refine d2_ rfl (oX (x:=x) (y:={y with stk:=y.stk.take (y.stk.length - A)}) (s:=s.cut 2 0 (y.stk.length - A)) (a:=true) (v:=w) htl) (k:=gk (k:=rt_ Tryz.results97 (k:=?_)))
  rw[if_pos hge,←hw];exact⟨_,hsb,rfl,rfl⟩
 have hge:¬B≤qc L:=cj
 refine wr_ (e_ mv (k:=e_ (bld []) (k:=?_)))
 refine d2_ rfl (oX (x:=x) (y:={y with stk:=y.stk.take (y.stk.length - A)}) (s:=s.cut 2 0 (y.stk.length - A)) (a:=false) (v:=0) htl) (k:=gk (k:=rt_ Tryz.results97 (k:=?_)))
 rw[if_neg hge];exact⟨_,hsb,rfl,rfl⟩
end
theorem J2 {l:List Int}{m:Nat}{b x:Int}(hx:l[m]? =some x) (h:x<b):gu l m b=gu l (m+1) b:=by
 unfold gu
 rw[dF hx,List.findIdx_cons,Yr (aa)]
 simp only[cond_false];omega
theorem Fl {l:List Int}{m:Nat}{b:Int}(h:l.length≤m):gu l m b=m:=by
 unfold gu
 rw[List.drop_eq_nil_of_le h,List.findIdx_nil,Nat.add_zero]
theorem J3 {l:List Int}{m:Nat}{b x:Int}(hx:l[m]? =some x) (h:b≤x):gu l m b=m:=by
 unfold gu
 rw[dF hx,List.findIdx_cons,Ys h]
 simp
theorem GP {l:List Int}{m:Nat}{b slop x:Int}(hx:m<l.length→l[m]? =some x):wK l m b slop=(decide (((m:Nat):Int)<((l.length:Nat):Int)) && decide (x≤b+slop)):=by
 unfold wK
 rw[show decide (((m:Nat):Int)<((l.length:Nat):Int))=decide (m<l.length)from decide_eq_decide.2 (aa)]
 by_cases h:m<l.length
 ·rw[hx h,Ys h,Bool.true_and]
 ·rw[List.getElem?_eq_none (aa),Yr h,Bool.false_and]
theorem HC {b slop:Int}{lists:List (List Int)}{hs:List Nat}{j a:Nat}{l:List Int}{w:Bool}{r:Bool×List Nat}(hl:lists[j]? =some l) (ha:hs[j]? =some a)
 (h:r=(w && (gw b slop (lists.drop j) (hs.drop j)).1,hs.take j++(gw b slop (lists.drop j) (hs.drop j)).2)):
 r=((w && wK l (gu l a b) b slop) && (gw b slop (lists.drop (j+1)) ((hs.set j (gu l a b)).drop (j+1))).1,(hs.set j (gu l a b)).take (j+1)++(gw b slop (lists.drop (j+1)) ((hs.set j (gu l a b)).drop (j+1))).2):=by
 have hj:=(Yk.1 ha).1
 have hd:(hs.set j (gu l a b)).drop (j+1)=hs.drop (j+1):=by rw[List.drop_set_of_lt (aa)]
 have ht:(hs.set j (gu l a b)).take (j+1)=hs.take j++ [gu l a b]:=by
  rw[cP (List.getElem?_set_self hj),List.take_set_of_le (Nat.le_refl _)]
 rw[h,dF hl,dF ha,gw,hd,ht,Bool.and_assoc,Yf]
 all_goals rfl
theorem KA {b slop:Int}{lists:List (List Int)}{hs:List Nat}{w:Bool}{r:Bool×List Nat}{n:Nat}(hl:lists.length=n) (hh:hs.length=n)
 (h:r=(w && (gw b slop (lists.drop n) (hs.drop n)).1,hs.take n++(gw b slop (lists.drop n) (hs.drop n)).2)):r=(w,hs):=by
 rw[h,List.drop_eq_nil_of_le (aa),List.drop_eq_nil_of_le (aa),gw,Bool.and_true,Ym,List.take_of_length_le (aa)]
 ·intros;contradiction
theorem Gu {l:List Nat}{i x:Nat}:(cV l).set i ((x:Nat):Int)=cV (l.set i x):=by rw[cV,cV,List.map_set]
theorem IQ {G:cK}{H:cG}{sl sa:SV}{ss:List SV}{lists:List (List Int)}{all:List Int}{slop:Int} [hsl:Sl H sl eSV ss] [hsa:Sl H sa eI all] (hll:ss.length=lists.length) (hin:∀(i:Nat) (s:SV) (l:List Int),ss[i]? =some s→lists[i]? =some l→Sl H s eI l) (hn:ss.length≤1000000000) (hs1:0≤slop) (hs2:slop≤2147483647) (hal:all.length≤1000000000000) (hab:∀x∈all, -4294967296≤x∧x≤4294967296) (hlb:∀l∈lists,l.length≤1000000000000):SC G Tryz.prog 167 [sa.val,sl.val, .int .i64 slop] H (fun v H'=> v= .int .i64 ((k9 slop lists all (List.replicate lists.length 0):Nat):Int)∧H'=H):=by
 have hrep:(List.replicate ss.length (0:Int))=cV (List.replicate lists.length 0):=by rw[hll,cV,List.map_replicate];all_goals rfl
 refine sWk Tryz.func167 Tryz.ntmps167 ?_
 refine go ?_
 refine s_ (eX eI 0 rfl rfl _ _ rfl rfl rfl (aa) (aa) (aa)) (k:=?_)
 rintro _ _ ⟨s16,rfl,hs16n,hs16c,rfl⟩
 rw[hrep]
 refine go ?_
 refine gk (k:=dt (Nat×(List Nat)×Nat) (fun y=> y.1≤all.length∧y.2.1.length=lists.length∧y.2.2≤y.1∧y.2.2+k9 slop lists (all.drop y.1) y.2.1=k9 slop lists all (List.replicate lists.length 0)) (fun y=> [(8, .int .i64 ((y.2.2:Nat):Int)),(19, .int .i64 ((y.1:Nat):Int))]) [(1,_),(2,_),(7,_),(17,_),(18,_)] (fun y=> [Row s16 eI (cV y.2.1)]) _ (fun y=> all.length - y.1) ((0,List.replicate lists.length 0,0)) (h0:=?_) (k:=?_))
 ·try dsimp only
  exact⟨Yl _,Xe,Nat.le_refl _,by rw[List.drop_zero,Nat.zero_add]⟩
 rintro⟨i,hd,cnt⟩ ⟨hi,hdl,hct,hsum⟩
 try dsimp only[Yd,Ye]at*
 refine gk (k:=wi_ (k:=fun h1=>?_) (m:=fun h1=>?_))
 ·obtain⟨b,hb⟩:∃b,all[i]? =some b:=⟨_,Yi (aa)⟩
  have hbb:=hab b (Yj hb)
  rw[dF hb,k9]at hsum
  refine wk_ (qn_ (ws_ (wb_ (ws_ (wr_ (e_ ixa (k:=e_ (lel (hy:=hb)) (k:=go ?_))))))))
  refine gk (k:=dt (Nat×(List Nat)×Bool) (fun y=> y.1≤lists.length∧y.2.1.length=lists.length∧gw b slop lists hd=(y.2.2 && (gw b slop (lists.drop y.1) (y.2.1.drop y.1)).1,y.2.1.take y.1++(gw b slop (lists.drop y.1) (y.2.1.drop y.1)).2)) (fun y=> [(11, .bool y.2.2),(25, .int .i64 ((y.1:Nat):Int))]) [(1,_),(2,_),(7,_),(8,_),(10,_),(17,_),(18,_),(19,_),(23,_),(24,_)] (fun y=> [Row s16 eI (cV y.2.1)]) _ (fun y=> lists.length - y.1) ((0,hd,true)) (h0:=?_) (k:=?_))
  ·try dsimp only
   exact⟨Yl _,hdl,an⟩
  rintro⟨j,he,w⟩ ⟨hj,hel,hbg⟩
  try dsimp only[Yd,Ye]at*
  refine gk (k:=wi_ (k:=fun h2=>?_) (m:=fun h2=>?_))
  ·obtain⟨l,hl⟩:∃l,lists[j]? =some l:=⟨_,Yi (aa)⟩
   obtain⟨s,hs⟩:∃s,ss[j]? =some s:=⟨_,Yi (aa)⟩
   obtain⟨a,ha⟩:∃a,he[j]? =some a:=⟨_,Yi (aa)⟩
   haveI hsj:Sl H s eI l:=hin j s l hs hl
   have hlen:=hlb l (Yj hl)
   have hjl:=(Yk.1 ha).1
   have hset:he.set j a=he:=by rw[←(Yk.1 ha).2,List.set_getElem_self]
   refine wk_ (qn_ (ws_ (wb_ (ws_ (wr_ (e_ mv (k:=e_ ixa (k:=e_ (lel (hy:=hs)) (k:=go ?_)))))))))
   refine gk (k:=dt ((List Nat)×Nat) (fun y=> y.1=he.set j y.2∧(y.2=a∨y.2≤l.length)∧gu l y.2 b=gu l a b) (fun y=> []) [(1,_),(2,_),(7,_),(8,_),(10,_),(11,_),(12,_),(13,_),(17,_),(18,_),(19,_),(23,_),(24,_),(25,_)] (fun y=> [Row s16 eI (cV y.1)]) _ (fun y=> l.length - y.2) ((he,a)) (h0:=?_) (k:=?_))
   ·try dsimp only
    exact⟨hset.symm, .inl rfl,rfl⟩
   rintro⟨hf,m⟩ ⟨hhf,hm,hsk⟩
   try dsimp only[Yd,Ye]at*
   have hrow:(cV hf)[j]? =some ((m:Nat):Int):=by rw[hhf];exact ez (List.getElem?_set_self hjl)
   have hrl:(cV hf).length=lists.length:=by rw[dO,hhf,List.length_set,hel]
   obtain⟨x,hx⟩:∃x:Int,m<l.length→l[m]? =some x:=by
    by_cases h9:m<l.length
    ·exact⟨l[m],fun _=> Yi h9⟩
    ·exact⟨0,fun h=> absurd h h9⟩
   refine ws_ (ws_ (wr_ (e_ mv (k:=e_ mv (k:=e_ ixa (k:=e_ (lel (hy:=hrow)) (k:=gk (k:=dh 10 47 (c:=decide (x<b)) (k:=fun h4=>?_) (q:=?_)))))))))
   ·have hx2:=hx (by have h9:=h4;omega)
    refine eg_ mv (k:=eg_ mv (k:=eg_ mv (k:=eg_ ixa (k:=eg_ (lel (hy:=hrow)) (k:=eg_ ixa (k:=eg_ (lel (hy:=hx2)) (k:=gk (k:=edq))))))))
   refine gk (k:=wi_ (k:=fun h5=>?_) (m:=fun h5=>?_))
   ·have hml:m<l.length:=by have h9:=h5;omega
    have hxb:x<b:=by have h9:=h5;omega
    refine wk_ (qn_ (wb_ (wr_ (e_ mv (k:=e_ mv (k:=e_ ixa (k:=e_ (lel (hy:=hrow)) (k:=go ?_))))))))
    refine s_ (dH (a:=((m+1:Nat):Int)) rfl rfl (bQ) (aa)) (k:=?_)
    rintro _ _ ⟨rfl,rfl⟩
    rw[Gu,hhf,List.set_set]
    refine go ?_
    refine ln_ ((he.set j (m+1),m+1)) (k:=?_)
    try dsimp only
    exact⟨rfl, .inr (aa),by rw[←hsk,J2 (hx hml) hxb]⟩
   have hst:gu l m b=m:=by
    by_cases h8:m<l.length
    ·exact J3 (hx h8) (by have h9:=h5;omega)
    ·exact Fl (aa)
   rw[hst]at hsk
   have hbg2:=HC hl ha hbg
   rw[←hsk,GP hx,←Bool.and_assoc]at hbg2
   refine we_ (qe_ (le_ (bh_ (qn_ (wr_ (e_ mv (k:=e_ mv (k:=dh 8 63 (k:=fun h6=>eg_ mv (k:=eg_ mv (k:=eg_ ixa (k:=eg_ (lel (hy:=hrow)) (k:=eg_ mv (k:=eg_ lnn (k:=eg_ ilt (k:=e_ pkt (k:=on_ (edq)))))))))) (q:=e_ mv (k:=dh 12 76 (c:=decide (x≤b+slop)) (k:=fun h8=>?_) (q:=?_)))))))))))
   ·have hx3:=hx (by have h9:=h8;omega)
    refine eg_ mv (k:=eg_ mv (k:=eg_ mv (k:=eg_ ixa (k:=eg_ (lel (hy:=hrow)) (k:=eg_ ixa (k:=eg_ (lel (hy:=hx3)) (k:=gk (k:=edq))))))))
   refine go ?_
   refine ln_ ((j+1,hf,w && decide (((m:Nat):Int)<((l.length:Nat):Int)) && decide (x≤b+slop))) (k:=?_)
   try dsimp only
   exact⟨aa,by rw[hhf,List.length_set,hel],by rw[hhf];exact hbg2⟩
  obtain rfl:j=lists.length:=aa
  have hfin:=KA rfl hel hbg
  rw[hfin]at hsum
  refine gk (k:=wi_ (k:=fun h9=>?_) (m:=fun h9=>?_))
  ·have hw:w=true:=h9
   rw[hw]at hsum;simp only[if_true]at hsum
   refine go ?_
   refine ln_ ((i+1,he,cnt+1)) (k:=?_)
   try dsimp only
   exact⟨aa,hel,aa,aa⟩
  have hw:w=false:=by have h9:=h9;simpa using h9
  rw[hw]at hsum;simp only[Bool.false_eq_true,if_false]at hsum
  refine go ?_
  refine ln_ ((i+1,he,cnt)) (k:=?_)
  try dsimp only
  exact⟨aa,hel,aa,aa⟩
 have hfin:cnt=k9 slop lists all (List.replicate lists.length 0):=by
  rw[List.drop_eq_nil_of_le (az),k9]at hsum;omega
 refine gk (k:=rt_ Tryz.results167 (k:=?_))
 exact⟨_,hsb,by rw[hfin];all_goals rfl,rfl⟩
def jS:Prop:=∀(G:cK) (H R:cG) (s:SV) (xs:List Int),na H s eI xs R→xs.length≤1000000000000→SC G Tryz.prog 166 [s.val] H (fun v H'=> v= .tuple #[]∧H'=Row s eI (gK xs)::R)
def fg:Prop:=∀(G:cK) (H R:cG) (s:SV) (xs:List Int),na H s eI xs R→xs.length≤1000000000000→SC G Tryz.prog 168 [s.val] H (fun v H'=> ∃s':SV,v=s'.val∧H'=Row s' eI (j8 xs)::R)
theorem qT (x:Int):∀l:List Int,(AF x l).Perm (x::l)
 | []=> .refl _
 |y::l=> by
  rw[AF]
  split
  ·exact .refl _
  ·exact((qT x l).cons y).trans (.swap x y l)
theorem kj:∀l:List Int,(gK l).Perm l
 | []=> .refl _
 |x::l=> (qT x (gK l)).trans ((kj l).cons x)
theorem vg (l:List Int):(gK l).length=l.length:=(kj l).length_eq
theorem vf {l:List Int}{x:Int}(h:x∈gK l):x∈l:=(kj l).mem_iff.1 h
theorem ux:∀{l:List Int}{x:Int},x∈j8 l→x∈l
 | [],x,h=> h
 | [y],x,h=> h
 |y::z::l,x,h=> by
  rw[j8]at h
  split at h
  ·exact Xa _ (ux h)
  ·rcases List.mem_cons.1 h with rfl|h
   ·simp
   ·exact Xa _ (ux h)
theorem uy:∀l:List Int,(j8 l).length≤l.length
 | []=> Nat.le_refl _
 | [y]=> Nat.le_refl _
 |y::z::l=> by
  rw[j8]
  have h:=uy (z::l)
  split
  ·simp only[Yb]at h⊢;omega
  ·simp only[Yb]at h⊢;omega
theorem rB:∀{lists:List (List Nat)}{offs:List Int}{i:Nat}{l:List Nat}{o:Int},lists[i]? =some l→offs[i]? =some o→lj (lists.take (i+1)) (offs.take (i+1))=lj (lists.take i) (offs.take i)++ [Ad l o]
 | [],_,_,_,_,h,_=> aG
 |_::_, [],_,_,_,_,h=> aG
 |l0::ls,o0::os,0,l,o,h1,h2=> by
  simp only[Xb,Option.some.injEq]at h1 h2
  subst h1;subst h2
  rfl
 |l0::ls,o0::os,i+1,l,o,h1,h2=> by
  simp only[Xc]at h1 h2
  have:=rB h1 h2
  simp only[List.take_succ_cons,lj,Yd]at this⊢
  rw[this]
theorem Jb {α:Type}(A B:List α) (s t:α) {i:Nat}(h:A.length=i):(A++s::B).set i t=A++t::B:=by
 subst h;rw[List.set_append_right _ _ (Nat.le_refl _),Nat.sub_self];all_goals rfl
theorem JU {α:Type}(A B:List α) (s:α) {i:Nat}(h:A.length=i):(A++s::B)[i]? =some s:=by
 subst h;rw[Yu (Nat.le_refl _),Nat.sub_self];all_goals rfl
theorem F8 {l:List (List Nat)}{i:Nat}{x:List Nat}(h:l[i]? =some x):((l.take (i+1)).map List.length).sum=((l.take i).map List.length).sum+x.length:=by
 rw[cP h];simp
theorem BI (l:List (List Nat)) (i:Nat):((l.take i).map List.length).sum≤(l.map List.length).sum:=by
 have:=congrArg (fun z=> (z.map List.length).sum) (List.take_append_drop i l)
 simp only[List.map_append,List.sum_append]at this;omega
def shH (z:SV×List Int):cG:= [Row z.1 eI z.2]
theorem J9 {l:List (SV×List Int)}(s:SV) (ys:List Int) {H:cG}:cJ (Row s eI ys::Cl shH l::H) (Cl shH (l++ [(s,ys)])::H):=mX (f:=shH) (s,ys)
theorem Al {lists:List (List Nat)}{offs:List Int}{slop:Int}{l:List Nat}{p:Nat}(h1:l∈lists) (h2:p∈l) (h3:2147483646<p):jW lists offs slop=0:=by
 unfold jW
 rw[if_pos]
 rw[List.any_eq_true]
 exact⟨l,h1,by rw[List.any_eq_true];exact⟨p,h2,Ys h3⟩⟩
theorem yk {lists:List (List Nat)}{offs:List Int}{slop:Int}(h:∀l∈lists,∀p∈l,p≤2147483646):jW lists offs slop=k9 slop (lj lists offs) (j8 (gK (lj lists offs).flatten)) (List.replicate lists.length 0):=by
 unfold jW
 rw[if_neg]
 rw[List.any_eq_true]
 rintro⟨l,h1,h2⟩
 rw[List.any_eq_true]at h2
 obtain⟨p,h3,h4⟩:=h2
 have:=h l h1 p h3
 have:=Yt h4
 omega
theorem Oe {H:cG}{zs:List (SV×List Int)}{rw:List SV}{q:Nat}{s:SV}{l:List Int}(hrw:rw=zs.map (·.1)) (h1:rw[q]? =some s) (h2:(zs.map (·.2))[q]? =some l) (h:∀z∈zs,Sl H z.1 eI z.2):Sl H s eI l:=by
 subst hrw
 rw[Xd]at h1 h2
 cases hz:zs[q]? with
 |none=> rw[hz]at h1;cases h1
 |some z=>
  rw[hz]at h1 h2
  obtain rfl:=Option.some.inj h1
  obtain rfl:=Option.some.inj h2
  exact h z (Yj hz)
theorem yB:∀{L:List (List Int)}{l:List Int},l∈L→l.length≤L.flatten.length
 | [],_,h=> aW
 |x::L,l,h=> by
  rw[List.flatten_cons,Ya]
  rcases List.mem_cons.1 h with rfl|h
  ·omega
  ·have:=yB h;omega
theorem xG {G:cK}{H:cG}{sl so:SV}{ss:List SV}{lists:List (List Nat)}{offs:List Int}{slop:Int} [hsl:Sl H sl eSV ss] [hso:Sl H so eI offs] (hS:jS) (hC:fg) (hll:ss.length=lists.length) (hin:∀(i:Nat) (s:SV) (l:List Nat),ss[i]? =some s→lists[i]? =some l→Sl H s eI (cV l)) (hlo:lists.length=offs.length) (hn0:0<lists.length) (hn:lists.length≤100000000) (hoff:∀o∈offs,0≤o∧o≤2147483646) (hs1:0≤slop) (hs2:slop≤2147483647) (htot:(lists.map List.length).sum≤1000000000000):
 SC G Tryz.prog 134 [sl.val,so.val, .int .i64 slop] H (fun v H'=> v= .int .i64 ((jW lists offs slop:Nat):Int)∧H'=H):=by
 refine sWk Tryz.func134 Tryz.ntmps134 ?_
 refine ws_ (wr_ (e_ asn (k:=on_ (qn_ (ws_ (ws_ (wr_ (e_ mv (k:=e_ lnn (k:=e_ ieq (k:=e_ mv (k:=dN 6 22 (k:=fun h1=>eg_ mv (k:=eg_ lnn (k:=eg_ mv (k:=eg_ lnn (k:=eg_ ine (k:=e_ pkf (k:=on_ (edq)))))))) (q:=e_ mv (k:=?_))))))))))))))
 refine dN 3 26 (k:=fun h2=>eg_ mv (k:=eg_ ilt (k:=e_ pkf (k:=on_ (edq))))) (q:=e_ mv (k:=dN 3 30 (k:=fun h3=>eg_ mv (k:=eg_ igt (k:=e_ pkf (k:=on_ (edq))))) (q:=on_ (qn_ (wi_ (k:=fun h4=>?_) (m:=fun h4=>?_))))))
 ·exact absurd h4 (aM)
 refine go ?_
 refine s_ (eX eSV SV.nil rfl rfl _ _ rfl rfl rfl (aa) (aa) (aa)) (k:=?_)
 rintro _ _ ⟨s33,rfl,hs33n,hs33c,rfl⟩
 refine e_ asn (k:=on_ (qn_ (ws_ (ws_ (wr_ (?_))))))
 refine du ((cJ.nilRow (e:=eI) cJ.refl).trans (fe (f:=shH) cJ.refl)) ?_
 refine gk (k:=dt (Nat×(List (SV×List Int))×(List SV)×SV×(List Int)) (fun y=> y.1≤lists.length∧y.2.1.length=y.1∧y.2.2.1=y.2.1.map (·.1)++List.replicate (lists.length - y.1) SV.nil∧y.2.1.map (·.2)=lj (lists.take y.1) (offs.take y.1)∧y.2.2.2.2=(y.2.1.map (·.2)).flatten∧y.2.2.2.2.length≤((lists.take y.1).map List.length).sum∧(∀l∈lists.take y.1,∀p∈l,p≤2147483646)∧∀x∈y.2.2.2.2, -2147483646≤x∧x≤2147483646) (fun y=> [(7,y.2.2.2.1.val),(36, .int .i64 ((y.1:Nat):Int))]) [(1,_),(2,_),(8,_),(34,_),(35,_)] (fun y=> [Row s33 eSV y.2.2.1,Cl shH y.2.1,Row y.2.2.2.1 eI y.2.2.2.2]) _ (fun y=> lists.length - y.1) ((0, [],List.replicate ss.length SV.nil,SV.nil, [])) (h0:=?_) (k:=?_))
 ·try dsimp only
  exact⟨Yl _,rfl,by rw[hll];all_goals rfl,by simp[lj],rfl,Yl _,an,an⟩
 rintro⟨i,zs,rw,sa,al⟩ ⟨hi,hzl,hrw,hzs,hal,hall,hpb,hab⟩
 try dsimp only[Yd,Ye]at*
 refine gk (k:=wi_ (k:=fun h5=>?_) (m:=fun h5=>?_))
 ·obtain⟨l,hl⟩:∃l,lists[i]? =some l:=⟨_,Yi (aa)⟩
  obtain⟨s0,hs0⟩:∃s,ss[i]? =some s:=⟨_,Yi (aa)⟩
  obtain⟨o,ho⟩:∃o,offs[i]? =some o:=⟨_,Yi (aa)⟩
  haveI hsi:Sl H s0 eI (cV l):=hin i s0 l hs0 hl
  have hob:=hoff o (Yj ho)
  have hml:=Yj hl
  have hsum:=F8 hl
  have hsle:=BI lists (i+1)
  have hil:=dO l
  have hzm:(zs.map (·.1)).length=i:=by rw[Yh];exact hzl
  have hrw2:rw=zs.map (·.1)++SV.nil::List.replicate (lists.length - i - 1) SV.nil:=by
   rw[hrw,show lists.length - i=(lists.length - i - 1)+1 from aa,List.replicate_succ];all_goals rfl
  refine wk_ (qn_ (ws_ (wb_ (ws_ (wr_ (e_ mv (k:=e_ ixa (k:=e_ (lel (hy:=hs0)) (k:=e_ asn (k:=e_ asn (k:=on_ (qn_ (ws_ (?_))))))))))))))
  refine ws_ (wr_ (e_ mv (k:=e_ mv (k:=e_ ixa (k:=e_ (lel (hy:=ho)) (k:=e_ ilt (k:=e_ mv (k:=dN 6 52 (k:=fun h6=>eg_ mv (k:=eg_ mv (k:=eg_ ixa (k:=eg_ (lel (hy:=ho)) (k:=eg_ igt (k:=e_ pkf (k:=on_ (edq)))))))) (q:=on_ (qn_ (wi_ (k:=fun h7=>?_) (m:=fun h7=>?_))))))))))))
  ·exact absurd h7 (aa)
  refine wk_ (qn_ (ws_ (ws_ (wr_ (?_)))))
  refine du (cJ.nilRow (e:=eI) cJ.refl) ?_
  refine gk (k:=dt (Nat×SV×(List Int)×(List SV)) (fun y=> y.1≤l.length∧y.2.2.2=zs.map (·.1)++y.2.1::List.replicate (lists.length - i - 1) SV.nil∧y.2.2.1=(l.take y.1).map (fun p:Nat=> (p:Int) - o)∧∀p∈l.take y.1,p≤2147483646) (fun y=> [(55, .int .i64 ((y.1:Nat):Int))]) [(1,_),(2,_),(7,_),(8,_),(9,_),(34,_),(35,_),(36,_),(53,_),(54,_)] (fun y=> [Row s33 eSV y.2.2.2,Row y.2.1 eI y.2.2.1]) _ (fun y=> l.length - y.1) ((0,SV.nil, [],rw)) (h0:=?_) (k:=?_))
  ·try dsimp only
   exact⟨Yl _,hrw2,rfl,an⟩
  rintro⟨j,s,ys,rv⟩ ⟨hj,hrv,hys,hpj⟩
  try dsimp only[Yd,Ye]at*
  have hgv:rv[i]? =some s:=by rw[hrv];exact JU _ _ _ hzm
  have hyl:ys.length=j:=by rw[hys,Yh,Yg];omega
  have hvl:i<rv.length:=(Yk.1 hgv).1
  refine gk (k:=wi_ (k:=fun h8=>?_) (m:=fun h8=>?_))
  ·obtain⟨p,hp⟩:∃p,l[j]? =some p:=⟨_,Yi (aa)⟩
   have hrp:(cV l)[j]? =some ((p:Nat):Int):=ez hp
   have hll9:l.length≤1000000000000:=aa
   refine wk_ (qn_ (ws_ (wb_ (ws_ (wr_ (e_ ixa (k:=e_ (lel (hy:=hrp)) (k:=e_ asn (k:=on_ (qn_ (ws_ (ws_ (wr_ (?_))))))))))))))
   refine e_ mv (k:=e_ ilt (k:=e_ mv (k:=dN 3 64 (k:=fun h9=>eg_ mv (k:=eg_ igt (k:=e_ pkf (k:=on_ (edq))))) (q:=on_ (qn_ (wi_ (k:=fun h10=>?_) (m:=fun h10=>?_)))))))
   ·have hbad:=Al (offs:=offs) (slop:=slop) hml (Yj hp) (by have h9:=h10;omega)
    refine go ?_
    refine gk (k:=rt_ Tryz.results134 (k:=?_))
    exact⟨_,hsb,by rw[hbad];all_goals rfl,rfl⟩
   have hp2:p≤2147483646:=by have h9:=h10;omega
   refine go ?_
   refine df cI (fun i=> [12,13,15].contains i) (fun k H=> (k=4→Sl H s33 eSV rv)∧(k=5→Sl H s33 eSV rv)∧(k=9→Sl H so eI offs)∧(k=10→Sl H so eI offs)∧(k=14→Sl H s33 eSV rv)) (af_ 0 (q:=cD fun H hH=>mv) (k:=af_ 1 (q:=cD fun H hH=>mv) (k:=af_ 2 (q:=cD fun H hH=>mv) (k:=af_ 3 (q:=cD fun H hH=>mv) (k:=?_)))))
   refine cE 4 rfl rfl (a8) rfl (cD fun H hH=>by have hN:=hH.1 rfl;exact ixa) (?_)
   refine cE 5 rfl rfl (a8) rfl (cD fun H hH=>by have hN:=hH.2.1 rfl;exact lel (hy:=hgv)) (?_)
   refine af_ 6 (q:=cD fun H hH=>mv) (k:=af_ 7 (q:=cD fun H hH=>mv) (k:=af_ 8 (q:=cD fun H hH=>mv) (k:=?_)))
   refine cE 9 rfl rfl (a8) rfl (cD fun H hH=>aV) (?_)
   refine cE 10 rfl rfl (a8) rfl (cD fun H hH=>by have hN:=hH.2.2.2.1 rfl;exact lel (hy:=ho)) (?_)
   refine af_ 11 (q:=cD fun H hH=>isb) (k:=?_)
   refine cN 12 rfl (a8) rfl (fun k hk=> ⟨fun hi=> ab,fun hi=> ab,fun hi=> ab,fun hi=> ab,fun hi=> ab⟩) (ew eI rfl rfl) ?_
   rintro _ _ ⟨s77,rfl,rfl⟩
   refine cN 13 rfl (a8) rfl (fun k hk=> ⟨fun hi=> ab,fun hi=> ab,fun hi=> ab,fun hi=> ab,fun hi=> ab⟩) (eY rfl rfl rfl rfl (af) (af)) ?_
   rintro _ _ ⟨s78,rfl,rfl⟩
   refine cE 14 rfl rfl (a8) rfl (cD fun H hH=>by have hN:=hH.2.2.2.2 rfl;exact ixa) (?_)
   refine cN 15 rfl (a8) rfl (fun k hk=> ⟨fun hi=> ab,fun hi=> absurd hk (ad),fun hi=> ab,fun hi=> ab,fun hi=> ab⟩) (dH (i:=i) rfl rfl (bQ) hvl) ?_
   rintro _ _ ⟨rfl,rfl⟩
   refine db (a8) (fun k hk=> ⟨fun hi=> absurd hk (ad),fun hi=> absurd hk (ad),fun hi=> absurd hk (ad),fun hi=> absurd hk (ad),fun hi=> absurd hk (ad)⟩) (go ?_)
   refine ln_ ((j+1,s78,ys++ [((p:Nat):Int) - o],rv.set i s78)) (k:=?_)
   try dsimp only
   exact⟨aa,by rw[hrv,Jb _ _ _ _ hzm],by rw[cP hp,List.map_append,←hys];all_goals rfl,fun q hq=> by
    rw[cP hp]at hq
    rcases List.mem_append.1 hq with hq|hq
    ·exact hpj q hq
    ·rw[List.mem_singleton.1 hq];exact hp2⟩
  obtain rfl:j=l.length:=aa
  rw[List.take_length]at hys hpj
  have hsh:gK ys=Ad l o:=by rw[hys];all_goals rfl
  have hll9:l.length≤1000000000000:=aa
  have hslen:=vg ys
  refine we_ (qe_ (le_ (bh_ (qn_ (ws_ (wr_ (e_ mv (k:=e_ mv (k:=e_ ixa (k:=e_ (lel (hy:=hgv)) (k:=?_)))))))))))
  refine d1_ rfl (hS _ _ _ s ys inferInstance (aa)) (k:=on_ (qn_ (wr_ (e_ mv (k:=e_ mv (k:=e_ mv (k:=e_ ixa (k:=e_ (lel (hy:=hgv)) (k:=app (k:=fun s91=>?_))))))))))
  refine e_ asn (k:=on_ (bn_ (qn_ (wr_ (?_)))))
  refine du (cJ.trans (H':=Row s eI (gK ys)::Cl shH zs::Row s33 eSV rv::Row s91 eI (al++gK ys)::H) (hsb) (J9 s (gK ys))) ?_
  refine go ?_
  refine ln_ ((i+1,zs++ [(s,gK ys)],rv,s91,al++gK ys)) (k:=?_)
  try dsimp only
  exact⟨aa,by rw[Ya,hzl];all_goals rfl,by rw[hrv,List.map_append,Nat.sub_sub];simp,by rw[List.map_append,hzs,rB hl ho,←hsh];all_goals rfl,by rw[List.map_append,List.flatten_append,←hal];simp,aT,fun l2 hl2 q hq=> by
   rw[cP hl]at hl2
   rcases List.mem_append.1 hl2 with h9|h9
   ·exact hpb l2 h9 q hq
   ·rw[List.mem_singleton.1 h9]at hq;exact hpj q hq,fun x hx=> by
   rcases List.mem_append.1 hx with h9|h9
   ·exact hab x h9
   ·have h8:=vf h9
    rw[hys,List.mem_map]at h8
    obtain⟨q,hq1,hq2⟩:=h8
    have:=hpj q hq1
    omega⟩
 obtain rfl:i=lists.length:=aa
 have hsle:=BI lists lists.length
 rw[List.take_length]at hpb
 rw[List.take_of_length_le (Nat.le_refl _),List.take_of_length_le (aa)]at hzs
 have hgood:=yk (offs:=offs) (slop:=slop) hpb
 have hslen:=vg al
 have hdlen:=uy (gK al)
 rw[Nat.sub_self,List.replicate_zero,Ym]at hrw
 refine go ?_
 refine d1_ rfl (hS _ _ _ sa al inferInstance (aa)) (k:=go ?_)
 refine c1_ rfl (hC _ _ _ sa (gK al) inferInstance (aa)) (k:=?_)
 rintro _ _ ⟨s96,rfl,rfl⟩
 refine go ?_
 refine d3_ rfl (IQ (ss:=rw) (lists:=zs.map (·.2)) (all:=j8 (gK al)) (by rw[hrw,Yh,Yh]) (fun q s l h1 h2=> Oe hrw h1 h2 (fun z hz=> by haveI:∀R,Sl (Cl shH zs::R) z.1 eI z.2:=fun R=> Lp (List.mem_iff_getElem?.1 hz).choose_spec (fun R=> (inferInstance:Sl (Row z.1 eI z.2::R) z.1 eI z.2));infer_instance)) (by rw[hrw,Yh];omega) hs1 hs2 (aa) (fun x hx=> by have:=hab x (vf (ux hx));omega) (fun l hl=> by have:=yB hl;rw[←hal]at this;omega)) (k:=gk (k:=rt_ Tryz.results134 (k:=?_)))
 exact⟨_,hsb,by rw[hgood,←hzs,←hal,Yh,hzl];all_goals rfl,rfl⟩
theorem tR {x:Int}{n:Nat}(h:eh x n=true):0≤x∧x<(n:Int):=by simpa [eh] using h
theorem rH {p:PrG}{n:jT}:∀{l os:List Int},l.length=os.length→rI p n l os=true→(∀k∈l,0≤k∧k<((p.curs.length:Nat):Int))∧∀o∈os,0≤o∧o≤2147483646
 | [], [],_,_=> ⟨an,an⟩
 | [],_::_,h,_=> aG
 |_::_, [],h,_=> aG
 |k::l,o::os,h,hc=> by
  rw[rI]at hc
  simp only[List.headD_cons,List.tail_cons,Bool.and_eq_true]at hc
  obtain⟨⟨⟨h1,h2⟩,h3⟩,h4⟩:=hc
  replace h1:=tR h1
  replace h2:=tR h2
  obtain⟨q1,q2⟩:=rH (aY) h4
  exact⟨fun x hx=> by rcases List.mem_cons.1 hx with rfl|hx;exact h1;exact q1 x hx,fun x hx=> by rcases List.mem_cons.1 hx with rfl|hx;(have:=h2.2;exact⟨h2.1,aa⟩);exact q2 x hx⟩
theorem Au {p:PrG}{n:jT}(h:gl p n=true):1≤n.cs.length∧n.cs.length=n.offs.length∧0≤n.slop∧n.slop≤2147483646∧(∀k∈n.cs,0≤k∧k<((p.curs.length:Nat):Int))∧∀o∈n.offs,0≤o∧o≤2147483646:=by
 rw[gl]at h
 simp only[Bool.and_eq_true,eh,decide_eq_true_eq]at h
 obtain⟨⟨⟨h1,h2⟩,h3⟩,h4⟩:=h
 obtain⟨q1,q2⟩:=rH h2.symm h4
 exact⟨h1,h2.symm,h3.1,by have:=h3.2;omega,q1,q2⟩
def GdC (T:Nat) (c:CuS):Prop:=iK c∧dg c.ps≤T
theorem GY {T:Nat}{l:List CuS}{i:Nat}{c:CuS}(h:∀c∈l,GdC T c) (hc:GdC T c):∀x∈l.set i c,GdC T x:=fun x hx=> by
 rcases List.mem_or_eq_of_mem_set hx with h1|h1
 ·exact h x h1
 ·rw[h1];exact hc
theorem GX {T:Nat}{c:CuS}{d:Int}(h:GdC T c):GdC T (ei d c):=⟨tf h.1,by rw[td];exact h.2⟩
theorem No {T:Nat}{c:CuS}(h:GdC T c):GdC T (ln c):=⟨h.1.pos,by rw[FI];exact h.2⟩
theorem Ii {l:List Po}{q:Po}(h:q∈l):q.2.length≤dg l:=by
 induction l with
 |nil=> cases h
 |cons a r ih=>
  have hs:dg (a::r)=a.2.length+dg r:=by simp[dg]
  rcases List.mem_cons.1 h with rfl|h
  ·omega
  ·have:=ih h;omega
theorem JQ (c:CuS):(eV c).length≤dg c.ps:=by
 unfold eV
 split
 ·exact Yl _
 ·split
  ·rename_i q hq;exact Ii (Yj hq)
  ·exact Yl _
theorem MJ {H:cG}{zs:List (SV×List Nat)}{i:Nat}{s:SV}{l:List Nat}(h1:(zs.map (·.1))[i]? =some s) (h2:(zs.map (·.2))[i]? =some l) (h:∀z∈zs,Sl H z.1 eI (cV z.2)):Sl H s eI (cV l):=by
 rw[Xd]at h1 h2
 cases hz:zs[i]? with
 |none=> rw[hz]at h1;cases h1
 |some z=>
  rw[hz]at h1 h2
  obtain rfl:=Option.some.inj h1
  obtain rfl:=Option.some.inj h2
  exact h z (Yj hz)
section
variable {G:cK}{H R R2:cG}{m op A B d T:Nat}{x:MX}{y:MY}{p:PrG}{q:PtD}{ins:List Ins}{cs:List CuS}{n:jT}
theorem EU [hr:Rem H Mo m (x,y) R] [hc:Rem R Cl cuZ (x.cs.zip cs) R2] [hsc:Sl R2 x.cu ePt (x.cs.map fun b=> (b,0))] [hg:Glb G R2] [hpt:dq R2 x.pt q] [hpr:gE R2 x.pa p] (hS:jS) (hC:fg) (hk:MOk x p q cs) (hpl:y.pl=((d:Nat):Int)) (hn:p.nears[A]? =some n) (hnok:gl p n=true) (hT:∀c∈cs,dg c.ps≤T) (hTn:n.cs.length*T≤1000000000000) (hnl:n.cs.length≤100000000) (hnn:p.nears.length≤1000000000) (hB:B<18446744073709551616) (hd:d<q.ds.length) (hl:y.stk.length≤1000000000):
 SC G Tryz.prog 81 [.pointer (some ⟨m,0,none⟩),nw op A B] H (fun v H'=> v= .tuple #[]∧H'=Mo m (x,{y with stk:=y.stk++ [(mz (cS p q ins) d A B cs).1]})::Cl cuZ (x.cs.zip (mz (cS p q ins) d A B cs).2)::R2):=by
 have hcl:=hk.cl
 have hcn:=hk.n
 have hcu:=hk.cu
 have hav:=hk.av
 obtain⟨hn1,hno,hsl1,hsl2,hkb,hob⟩:=Au hnok
 have hAl:=(Yk.1 hn).1
 obtain⟨z,n',hz,hn',hz1,hz2,hz3⟩:=hpr.nr.get hAl
 obtain rfl:n=n':=Option.some.inj (hn.symm.trans hn')
 obtain⟨z1,z2,z3⟩:=z
 simp only at hz1 hz2 hz3
 subst hz3
 have hzl:=(Yk.1 hz).1
 have hgd0:∀c∈cs,GdC T c:=fun c hc9=> ⟨hk.ok c hc9,hT c hc9⟩
 have hnd:(cS p q ins).p.nears.getD A G4=n:=by show p.nears.getD A G4=n;rw[List.getD_eq_getElem?_getD,hn];all_goals rfl
 have hlm:(x.cs.map fun b=> ((b,0):Nat×Nat)).length=cs.length:=by rw[Yh,hcl]
 rw[mz,hnd]
 refine SC.less (cJ.rem hr (cJ.rem hc cJ.refl).keep) ?_
 refine nN (m:=m) (x:=x) (y:=y) (R:=Cl cuZ (x.cs.zip cs)::R2) inferInstance (fun s=> ?_)
 refine sWk Tryz.func81 Tryz.ntmps81 ?_
 refine gk (k:=bxx (k:=fun b3=>?_))
 refine go ?_
 refine df cI (fun i=> [9,10].contains i) (fun k H=> (k=4→cQ H m (mV x s y))∧(k=6→cQ H b3 [.int .i64 ((op:Nat):Int), .int .u64 ((A:Nat):Int), .int .u64 ((B:Nat):Int)])∧(k=7→Sl H x.pa.ne eNr x.pa.nz)∧(k=8→Sl H x.pa.ne eNr x.pa.nz)) (af_ 0 (q:=cD fun H hH=>mv) (k:=af_ 1 (q:=cD fun H hH=>nck) (k:=af_ 2 (q:=cD fun H hH=>fla) (k:=af_ 3 (q:=cD fun H hH=>fla) (k:=?_)))))
 refine cE 4 rfl rfl (a8) rfl (cD fun H hH=>ak) (?_)
 refine af_ 5 (q:=cD fun H hH=>fla) (k:=?_)
 refine cE 6 rfl rfl (a8) rfl (cD fun H hH=>ar) (?_)
 refine cE 7 rfl rfl (a8) rfl (cD fun H hH=>aV) (?_)
 refine cE 8 rfl rfl (a8) rfl (cD fun H hH=>by have hN:=hH.2.2.2 rfl;exact jn (hy:=hz)) (?_)
 refine cN 9 rfl (a8) rfl (fun k hk=> ⟨fun hi=> ab,fun hi=> ab,fun hi=> ab,fun hi=> ab⟩) (nK) ?_
 rintro _ _ ⟨b4,rfl,rfl⟩
 refine cN 10 rfl (a8) rfl (fun k hk=> ⟨fun hi=> ab,fun hi=> ab,fun hi=> ab,fun hi=> ab⟩) (dM rfl rfl rfl) ?_
 rintro _ _ ⟨rfl,rfl⟩
 refine db (a8) (fun k hk=> ⟨fun hi=> absurd hk (ad),fun hi=> absurd hk (ad),fun hi=> absurd hk (ad),fun hi=> absurd hk (ad)⟩) (qn_ (ws_ (ws_ (wr_ (?_)))))
 dsimp only
 refine gk (k:=dt (Nat×(List CuS)) (fun y=> y.1≤n.cs.length∧y.2.length=cs.length∧(∀c∈y.2,GdC T c)∧rQ d n.cs cs=rQ d (n.cs.drop y.1) y.2) (fun y=> [(23, .int .i64 ((y.1:Nat):Int))]) [(0,_),(3,_),(4,_),(21,_),(22,_)] (fun y=> [Cl cuZ (x.cs.zip y.2)]) _ (fun y=> n.cs.length - y.1) ((0,cs)) (h0:=?_) (k:=?_))
 ·try dsimp only
  exact⟨Yl _,rfl,hgd0,by rw[List.drop_zero]⟩
 rintro⟨i,ca⟩ ⟨hi,hal,hag,hall⟩
 try dsimp only[Yd,Ye]at*
 refine gk (k:=wi_ (k:=fun h1=>?_) (m:=fun h1=>?_))
 ·obtain⟨k0,hk0⟩:∃k,n.cs[i]? =some k:=⟨_,Yi (aa)⟩
  obtain⟨kb1,kb2⟩:=hkb k0 (Yj hk0)
  obtain⟨kn,rfl⟩:∃kn:Nat,k0=((kn:Nat):Int):=⟨k0.toNat,aa⟩
  obtain⟨b,hb⟩:∃b,x.cs[kn]? =some b:=⟨_,Yi (aa)⟩
  obtain⟨c,hcA⟩:∃c,ca[kn]? =some c:=⟨_,Yi (aa)⟩
  have hbp:(x.cs.map fun b=> ((b,0):Nat×Nat))[kn]? =some ((b,0):Nat×Nat):=by rw[Xd,hb];all_goals rfl
  have hgc:=hag c (Yj hcA)
  have hgdc:ca.getD ((kn:Nat):Int).toNat m5=c:=by rw[Int.toNat_natCast,List.getD_eq_getElem?_getD,hcA];all_goals rfl
  have hzc:=lB hb hcA
  have hzcl:=(Yk.1 hzc).1
  rw[dF hk0,rQ,hgdc,Int.toNat_natCast]at hall
  refine wk_ (qn_ (ws_ (wb_ (ws_ (wr_ (e_ ixa (k:=e_ (lel (hy:=hk0)) (k:=e_ asn (k:=on_ (qn_ (ws_ (wr_ (e_ mv (k:=?_))))))))))))))
  refine e_ mv (k:=e_ nck (k:=e_ fla (k:=e_ ldv (k:=e_ mv (k:=e_ ixa (k:=e_ (lel (hy:=hbp)) (k:=?_)))))))
  refine du (H':=CuH b c::Cl cuZ ((x.cs.zip ca).take kn)::Cl cuZ ((x.cs.zip ca).drop (kn+1))::Vr b4 [z1.val,z2.val, .int .i64 n.slop]::Vr b3 [.int .i64 ((op:Nat):Int), .int .u64 ((A:Nat):Int), .int .u64 ((B:Nat):Int)]::Vr m (mV x s y)::Row s eVV y.stk::R2) (cJ.trans (H':=Cl cuZ (x.cs.zip ca)::Vr b4 [z1.val,z2.val, .int .i64 n.slop]::Vr b3 [.int .i64 ((op:Nat):Int), .int .u64 ((A:Nat):Int), .int .u64 ((B:Nat):Int)]::Vr m (mV x s y)::Row s eVV y.stk::R2) (hsb) (qm hzc)) ?_
  refine d2_ rfl (Bu (x:=x) (y:=y) (s:=s) (c:=c) (d:=d) hpl hgc.1) (k:=gk (k:=wi_ (k:=fun h2=>?_) (m:=fun h2=>?_)))
  ·have hat:¬AD d (ei d c)=true:=by have h9:=h2;simpa using h9
   rw[if_neg hat]at hall
   refine ws_ (wr_ (e_ mv (k:=e_ (bld []) (k:=?_))))
   refine d2_ rfl (oX (x:=x) (y:=y) (s:=s) (a:=false) (v:=0) hl) (k:=gk (k:=rt_ Tryz.results81 (k:=?_)))
   rw[hall];dsimp only;rw[if_pos rfl];dsimp only;rw[←jy hb];exact⟨_,cJ.trans (H':=CuH b (ei d c)::Cl cuZ ((x.cs.zip ca).take kn)::Cl cuZ ((x.cs.zip ca).drop (kn+1))::Mo m (x,{y with stk:=y.stk++ [(false,0)]})::R2) (hsb) ((jD hzcl).trans (hsb)),rfl,rfl⟩
  have hat:AD d (ei d c)=true:=aO
  rw[if_pos hat]at hall
  refine wk_ (bn_ (qn_ (wr_ (?_))))
  refine du (H':=Cl cuZ (x.cs.zip (ca.set kn (ei d c)))::Vr b4 [z1.val,z2.val, .int .i64 n.slop]::Vr b3 [.int .i64 ((op:Nat):Int), .int .u64 ((A:Nat):Int), .int .u64 ((B:Nat):Int)]::Vr m (mV x s y)::Row s eVV y.stk::R2) (by rw[←jy hb];exact cJ.trans (H':=CuH b (ei d c)::Cl cuZ ((x.cs.zip ca).take kn)::Cl cuZ ((x.cs.zip ca).drop (kn+1))::Vr b4 [z1.val,z2.val, .int .i64 n.slop]::Vr b3 [.int .i64 ((op:Nat):Int), .int .u64 ((A:Nat):Int), .int .u64 ((B:Nat):Int)]::Vr m (mV x s y)::Row s eVV y.stk::R2) (hsb) (jD hzcl)) ?_
  refine go ?_
  refine ln_ ((i+1,ca.set kn (ei d c))) (k:=?_)
  try dsimp only
  exact⟨aa,by rw[List.length_set];exact hal,GY hag (GX hgc),hall⟩
 obtain rfl:i=n.cs.length:=aa
 rw[List.drop_length,rQ]at hall
 rw[hall];dsimp only;rw[if_neg (ag)]
 refine go ?_
 refine s_ (iN eSV rfl) (k:=?_)
 rintro _ _ ⟨s41,rfl,rfl⟩
 refine e_ asn (k:=on_ (qn_ (ws_ (ws_ (wr_ (?_))))))
 refine du (fe (f:=lnH) cJ.refl) ?_
 refine gk (k:=dt (Nat×(List CuS)×(List (SV×List Nat))×SV×(List SV)) (fun y=> y.1≤n.cs.length∧y.2.1.length=cs.length∧(∀c∈y.2.1,GdC T c)∧y.2.2.1.length=y.1∧y.2.2.2.2=y.2.2.1.map (·.1)∧((y.2.2.1.map (·.2)).map List.length).sum≤y.1*T∧jV n.cs ca=(y.2.2.1.map (·.2)++(jV (n.cs.drop y.1) y.2.1).1,(jV (n.cs.drop y.1) y.2.1).2)) (fun y=> [(7,y.2.2.2.1.val),(45, .int .i64 ((y.1:Nat):Int))]) [(0,_),(3,_),(4,_),(43,_),(44,_)] (fun y=> [Cl cuZ (x.cs.zip y.2.1),Row y.2.2.2.1 eSV y.2.2.2.2,Cl lnH y.2.2.1]) _ (fun y=> n.cs.length - y.1) ((0,ca, [],s41, [])) (h0:=?_) (k:=?_))
 ·try dsimp only
  exact⟨Yl _,hal,hag,rfl,rfl,Yl _,by rw[List.drop_zero];all_goals rfl⟩
 rintro⟨i2,cb,zs,sv,rw⟩ ⟨hi2,hbl,hbg,hzl2,hrw,hsum,htell⟩
 try dsimp only[Yd,Ye]at*
 refine gk (k:=wi_ (k:=fun h3=>?_) (m:=fun h3=>?_))
 ·obtain⟨k0,hk0⟩:∃k,n.cs[i2]? =some k:=⟨_,Yi (aa)⟩
  obtain⟨kb1,kb2⟩:=hkb k0 (Yj hk0)
  obtain⟨kn,rfl⟩:∃kn:Nat,k0=((kn:Nat):Int):=⟨k0.toNat,aa⟩
  obtain⟨b,hb⟩:∃b,x.cs[kn]? =some b:=⟨_,Yi (aa)⟩
  obtain⟨c,hcA⟩:∃c,cb[kn]? =some c:=⟨_,Yi (aa)⟩
  have hbp:(x.cs.map fun b=> ((b,0):Nat×Nat))[kn]? =some ((b,0):Nat×Nat):=by rw[Xd,hb];all_goals rfl
  have hgc:=hbg c (Yj hcA)
  have hgdc:cb.getD ((kn:Nat):Int).toNat m5=c:=by rw[Int.toNat_natCast,List.getD_eq_getElem?_getD,hcA];all_goals rfl
  have hzc:=lB hb hcA
  have hzcl:=(Yk.1 hzc).1
  rw[dF hk0,jV,hgdc,Int.toNat_natCast]at htell
  have hrwl:rw.length=i2:=by rw[hrw,Yh];exact hzl2
  have hhl:=Xi (JQ c) hgc.2
  refine wk_ (qn_ (ws_ (wb_ (ws_ (wr_ (e_ ixa (k:=e_ (lel (hy:=hk0)) (k:=e_ asn (k:=on_ (qn_ (wr_ (e_ mv (k:=e_ mv (k:=?_))))))))))))))
  refine e_ nck (k:=e_ fla (k:=e_ ldv (k:=e_ mv (k:=e_ ixa (k:=e_ (lel (hy:=hbp)) (k:=?_))))))
  refine du (H':=CuH b c::Cl cuZ ((x.cs.zip cb).take kn)::Cl cuZ ((x.cs.zip cb).drop (kn+1))::Row sv eSV rw::Cl lnH zs::Vr b4 [z1.val,z2.val, .int .i64 n.slop]::Vr b3 [.int .i64 ((op:Nat):Int), .int .u64 ((A:Nat):Int), .int .u64 ((B:Nat):Int)]::Vr m (mV x s y)::Row s eVV y.stk::R2) (cJ.trans (H':=Cl cuZ (x.cs.zip cb)::Row sv eSV rw::Cl lnH zs::Vr b4 [z1.val,z2.val, .int .i64 n.slop]::Vr b3 [.int .i64 ((op:Nat):Int), .int .u64 ((A:Nat):Int), .int .u64 ((B:Nat):Int)]::Vr m (mV x s y)::Row s eVV y.stk::R2) (hsb) (qm hzc)) ?_
  refine c1_ rfl (A1 (c:=c) hgc.1) (k:=?_)
  rintro _ _ ⟨s57,rfl,rfl⟩
  refine gz eSV (k:=fun s58=>?_)
  refine app (k:=fun s59=>?_)
  refine e_ asn (k:=on_ (bn_ (qn_ (wr_ (?_)))))
  refine du (H':=Cl cuZ (x.cs.zip (cb.set kn (ln c)))::Row s59 eSV (rw++ [s57])::Cl lnH (zs++ [(s57,eV c)])::Vr b4 [z1.val,z2.val, .int .i64 n.slop]::Vr b3 [.int .i64 ((op:Nat):Int), .int .u64 ((A:Nat):Int), .int .u64 ((B:Nat):Int)]::Vr m (mV x s y)::Row s eVV y.stk::R2) (by rw[←jy hb];exact cJ.trans (H':=CuH b (ln c)::Cl cuZ ((x.cs.zip cb).take kn)::Cl cuZ ((x.cs.zip cb).drop (kn+1))::Row s57 eI (cV (eV c))::Cl lnH zs::Row s59 eSV (rw++ [s57])::Vr b4 [z1.val,z2.val, .int .i64 n.slop]::Vr b3 [.int .i64 ((op:Nat):Int), .int .u64 ((A:Nat):Int), .int .u64 ((B:Nat):Int)]::Vr m (mV x s y)::Row s eVV y.stk::R2) (hsb) ((jD hzcl).trans (cJ.trans (H':=Row s57 eI (cV (eV c))::Cl lnH zs::Cl cuZ ((x.cs.zip cb).set kn (b,ln c))::Row s59 eSV (rw++ [s57])::Vr b4 [z1.val,z2.val, .int .i64 n.slop]::Vr b3 [.int .i64 ((op:Nat):Int), .int .u64 ((A:Nat):Int), .int .u64 ((B:Nat):Int)]::Vr m (mV x s y)::Row s eVV y.stk::R2) (hsb) ((C3 (s57,eV c)).trans (hsb))))) ?_
  refine go ?_
  refine ln_ ((i2+1,cb.set kn (ln c),zs++ [(s57,eV c)],s59,rw++ [s57])) (k:=?_)
  try dsimp only
  exact⟨aa,by rw[List.length_set];exact hbl,GY hbg (No hgc),by rw[Ya,hzl2];all_goals rfl,by rw[List.map_append,hrw];all_goals rfl,by rw[List.map_append,List.map_append,List.sum_append,Nat.add_mul];simp only[List.map_cons,List.map_nil,List.sum_cons,List.sum_nil];omega,by rw[htell];simp⟩
 obtain rfl:i2=n.cs.length:=aa
 rw[List.drop_length,jV,Ym]at htell
 rw[htell];dsimp only
 refine go ?_
 refine d3_ rfl (xG (ss:=rw) (lists:=zs.map (·.2)) (offs:=n.offs) (slop:=n.slop) hS hC (by rw[hrw,Yh,Yh]) (fun i s l h1 h2=> MJ (hrw ▸ h1) h2 (fun z hz=> by haveI:∀R,Sl (Cl lnH zs::R) z.1 eI (cV z.2):=fun R=> Lp (List.mem_iff_getElem?.1 hz).choose_spec (fun R=> (inferInstance:Sl (Row z.1 eI (cV z.2)::R) z.1 eI (cV z.2)));infer_instance)) (bW) (bW) (bW) hob hsl1 (aa) (aa)) (k:=gk (k:=wi_ (k:=fun h4=>?_) (m:=fun h4=>?_)))
 ·have hf0:jW (zs.map (·.2)) n.offs n.slop=0:=by have h9:=h4;omega
  rw[if_pos hf0]
  refine ws_ (wr_ (e_ mv (k:=e_ (bld []) (k:=?_))))
  refine d2_ rfl (oX (x:=x) (y:=y) (s:=s) (a:=false) (v:=0) hl) (k:=gk (k:=rt_ Tryz.results81 (k:=?_)))
  exact⟨_,hsb,rfl,rfl⟩
 have hf0:¬jW (zs.map (·.2)) n.offs n.slop=0:=by have h9:=h4;omega
 rw[if_neg hf0]
 obtain⟨k0,hk0⟩:∃k,n.cs[0]? =some k:=⟨_,Yi (aa)⟩
 obtain⟨kb1,kb2⟩:=hkb k0 (Yj hk0)
 obtain⟨kn,rfl⟩:∃kn:Nat,k0=((kn:Nat):Int):=⟨k0.toNat,aa⟩
 obtain⟨⟨fd,ky⟩,hfk⟩:∃z,p.curs[kn]? =some z:=⟨_,Yi (aa)⟩
 obtain⟨hf1,hf2⟩:=hk.fd _ (Yj hfk)
 simp only at hf1 hf2
 obtain⟨fn,rfl⟩:∃n:Nat,fd=((n:Nat):Int):=⟨fd.toNat,aa⟩
 have hhd:n.cs.headD 0=((kn:Nat):Int):=by rw[List.headD_eq_head?_getD,List.head?_eq_getElem?,hk0];all_goals rfl
 have hfo:ou (cS p q ins) (n.cs.headD 0).toNat=((fn:Nat):Int):=by rw[hhd,Int.toNat_natCast,ou];show(match p.curs[kn]? with|some x=> x.1|none=> 0)=_;rw[hfk]
 rw[hfo]
 refine go ?_
 refine df cI (fun i=> [17,18].contains i) (fun k H=> (k=3→cQ H b3 [.int .i64 ((op:Nat):Int), .int .u64 ((A:Nat):Int), .int .u64 ((B:Nat):Int)])∧(k=9→MoP H m x)∧(k=11→cQ H b4 [z1.val,z2.val, .int .i64 n.slop])∧(k=12→Sl H z1 eI n.cs)∧(k=13→Sl H z1 eI n.cs)∧(k=14→Sl H x.pa.cu eLf p.curs)∧(k=15→Sl H x.pa.cu eLf p.curs)∧(k=16→Sl H x.pa.cu eLf p.curs)) (af_ 0 (q:=cD fun H hH=>mv) (k:=af_ 1 (q:=cD fun H hH=>mv) (k:=af_ 2 (q:=cD fun H hH=>fla) (k:=?_))))
 refine cE 3 rfl rfl (a8) rfl (cD fun H hH=>ak) (?_)
 refine af_ 4 (q:=cD fun H hH=>mv) (k:=af_ 5 (q:=cD fun H hH=>mv) (k:=af_ 6 (q:=cD fun H hH=>nck) (k:=af_ 7 (q:=cD fun H hH=>fla) (k:=af_ 8 (q:=cD fun H hH=>fla) (k:=?_)))))
 refine cE 9 rfl rfl (a8) rfl (cD fun H hH=>by have hN:=hH.2.1 rfl;exact B0 (x:=x) m fun s y R=> ldv) (?_)
 refine af_ 10 (q:=cD fun H hH=>fla) (k:=?_)
 refine cE 11 rfl rfl (a8) rfl (cD fun H hH=>aF) (?_)
 refine cE 12 rfl rfl (a8) rfl (cD fun H hH=>by have hN:=hH.2.2.2.1 rfl;exact ixa (i:=0)) (?_)
 refine cE 13 rfl rfl (a8) rfl (cD fun H hH=>by have hN:=hH.2.2.2.2.1 rfl;exact lel (hy:=hk0)) (?_)
 refine cE 14 rfl rfl (a8) rfl (cD fun H hH=>by have hN:=hH.2.2.2.2.2.1 rfl;exact ixa) (?_)
 refine cE 15 rfl rfl (a8) rfl (cD fun H hH=>by have hN:=hH.2.2.2.2.2.2.1 rfl;exact fle) (?_)
 refine cE 16 rfl rfl (a8) rfl (cD fun H hH=>by have hN:=hH.2.2.2.2.2.2.2 rfl;exact lfl (hy:=hfk)) (?_)
 refine cN 17 rfl (a8) rfl (fun k hk=> ⟨fun hi=> ab,fun hi=> ab,fun hi=> ab,fun hi=> ab,fun hi=> ab,fun hi=> ab,fun hi=> ab,fun hi=> ab⟩) (cW (vs:= [_,_,_,_]) rfl (Bx (x:=x) (y:=y) (s:=s) (p:=p) (q:=q) (ins:=ins) (w:=B) (f:=jW (zs.map (·.2)) n.offs n.slop) (k:=fn) hpl (aa) (aa) hd hk.ap hB)) ?_
 rintro _ _ ⟨rfl,rfl⟩
 refine cN 18 rfl (a8) rfl (fun k hk=> ⟨fun hi=> absurd hk (ad),fun hi=> ab,fun hi=> ab,fun hi=> ab,fun hi=> ab,fun hi=> ab,fun hi=> ab,fun hi=> absurd hk (ad)⟩) (cW (vs:= [_,_]) rfl (oX (x:=x) (y:=y) (s:=s) hl)) ?_
 rintro _ _ ⟨rfl,rfl⟩
 refine db (a8) (fun k hk=> ⟨fun hi=> absurd hk (ad),fun hi=> ab,fun hi=> ab,fun hi=> ab,fun hi=> ab,fun hi=> ab,fun hi=> ab,fun hi=> absurd hk (ad)⟩) (rt_ Tryz.results81 (k:=?_))
 exact⟨_,hsb,rfl,rfl⟩
end
def MD:List Nat:= [75,76,78,79,80,81,82,85,87,89,91,93,95,96,97,98,101]
section
variable {G:cK}{H R R2:cG}{m op A B d T:Nat}{x:MX}{y:MY}{p:PrG}{q:PtD}{ins:List Ins}{cs:List CuS}
structure HV (p:PrG) (op A B h:Nat):Prop where
 opl:op≤16
 eff:∃h',iW (op,A,B) h=some h'
 oper:p9 p (op,A,B)=true
 a:A<18446744073709551616
 b:B<18446744073709551616
 jmp:op=15∨op=16→A≤1000000000
structure HO (p:PrG) (q:PtD) (T:Nat) (cs:List CuS):Prop where
 q:Bj q
 tot:∀c∈cs,dg c.ps≤T
 near:∀n∈p.nears,gl p n=true∧n.cs.length*T≤1000000000000∧n.cs.length≤100000000
 nn:p.nears.length≤1000000000
theorem tOp [hr:Rem H Mo m (x,y) R] [hc:Rem R Cl cuZ (x.cs.zip cs) R2] [hsc:Sl R2 x.cu ePt (x.cs.map fun b=> (b,0))] [hg:Glb G R2] [hpt:dq R2 x.pt q] [hpr:gE R2 x.pa p] (hS:jS) (hC:fg) (hk:MOk x p q cs) (hro:HO p q T cs) (hi:HV p op A B y.stk.length) (hpl:y.pl=((d:Nat):Int)) (hd:d<q.ds.length) (hl:y.stk.length≤1000000000) (hpc:y.pc≤1000000000):
 SC G Tryz.prog (MD.getD op 0) [.pointer (some ⟨m,0,none⟩),nw op A B] H (fun v H'=> v= .tuple #[]∧H'=Mo m (x,{y with stk:=(opV (cS p q ins) d (op,A,B) y.pc y.stk cs).2.1,pc:=(opV (cS p q ins) d (op,A,B) y.pc y.stk cs).1})::Cl cuZ (x.cs.zip (opV (cS p q ins) d (op,A,B) y.pc y.stk cs).2.2)::R2):=by
 refine SC.less (cJ.rem hr (cJ.rem hc cJ.refl).keep) ?_
 obtain⟨hop,⟨h',he⟩,hoo,hA,hB,hj⟩:=hi
 have hav:=hk.av
 have hcu:=hk.cu
 match op,hop with
 | 0,_=> exact tO1
 | 1,_=> exact tO2 hl
 | 2,_=> exact tO3 hl
 | 3,_=> exact O0 hpl (by have:=Yt hoo;simp only at this;omega) hro.q hd hl
 | 4,_=> exact Lz hk hpl (by have:=Yt hoo;simp only at this;omega) hB hd hl
 | 5,_=>
  have hAl:A<p.nears.length:=Yt hoo
  obtain⟨h1,h2,h3⟩:=hro.near _ (List.getElem_mem hAl)
  exact EU hS hC hk hpl (Yi hAl) h1 hro.tot h2 h3 hro.nn hB hd hl
 | 6,_=> exact tO6 (aJ) hl
 | 7,_=> exact tO7 (aJ) hl
 | 8,_=> exact tO8 (aJ) hl
 | 9,_=> exact tO9 (aJ) hl
 | 10,_=> exact PW (aJ) hl
 | 11,_=> exact PV (aL) hl
 | 12,_=> exact PU (aL) hl
 | 13,_=> exact PY (aL) hl
 | 14,_=> exact LU (by simp only[iW]at he;split at he;cases he;omega) hB hl
 | 15,_=> exact PT (aL) hl (hj (.inl rfl)) hpc
 | 16,_=> exact PS (aL) hl (hj (.inr rfl)) hpc
 |k+17,hk9=> exact absurd hk9 (aa)
end
end Go.Sx
