import Derived.Test.YtefgpomabdplbaaGreatDoorQ40
import Derived.Laws.StructEq
set_option linter.unusedVariables false
set_option linter.unusedSimpArgs false
set_option linter.unusedSectionVars false
set_option linter.unnecessarySimpa false
set_option maxHeartbeats 0
namespace Go.Sx
open Go Go.Proofs
set_option maxRecDepth 100000
section
variable {G:cK}{P:Program}{N:Nat}{Q:Go.Sx.Post}{t:Tm}{H:cG}{ops:Array Oper}{l:List Oper}
theorem MF {R:cG}(m:Nat) {x:MX}{y:MY} [hr:Rem H Mo m (x,y) R] (h:∀s,O G P N ops l Q t (Vr m (mV x s y)::Row s eVV y.stk::R)):O G P N ops l Q t H:=
 ⟨fun a w ha hw=> let ⟨s,hs⟩:=mo (K:=Mo) rfl hr hw;(h s).go a w ha hs⟩
end
theorem Js {c:Cfg}{d op A B pc:Nat}{st:List VV}{cs:List CuS}(hop:op≤16):(opV c d (op,A,B) pc st cs).2.1.length≤st.length+1:=by
 match op,hop with
 | 0,_| 1,_| 2,_| 3,_| 4,_| 5,_| 6,_| 7,_| 8,_| 9,_| 10,_| 11,_| 12,_| 13,_| 14,_| 15,_| 16,_=> simp only[opV,kh,nu,Ya,List.length_dropLast,Yg,Yb,Yc];omega
 |k+17,h=> exact absurd h (aa)
section
variable {G:cK}{H R R1 R2 R3:cG}{m op A B d T:Nat}{x:MX}{y yy:MY}{s:SV}{p:PrG}{q:PtD}{ins:List Ins}{cs:List CuS}{pss:List (List Po)}{tb:Hs}
theorem PR [h1:Rem H Vr m (mV x s y) R1] [h2:na R1 s eVV y.stk R] [hc:Rem R Cl cuZ (x.cs.zip cs) R2] [hsc:Sl R2 x.cu ePt (x.cs.map fun b=> (b,0))] [hg:Glb G R2] [hpt:dq R2 x.pt q] [hpr:gE R2 x.pa p] (hS:jS) (hC:fg) (hk:MOk x p q cs) (hro:HO p q T cs) (hi:HV p op A B y.stk.length) (hpl:y.pl=((d:Nat):Int)) (hd:d<q.ds.length) (hl:y.stk.length≤1000000000) (hpc:y.pc≤1000000000):
 SC G Tryz.prog (MD.getD op 0) [.pointer (some ⟨m,0,none⟩),nw op A B] H (fun v H'=> v= .tuple #[]∧H'=Mo m (x,{y with stk:=(opV (cS p q ins) d (op,A,B) y.pc y.stk cs).2.1,pc:=(opV (cS p q ins) d (op,A,B) y.pc y.stk cs).1})::Cl cuZ (x.cs.zip (opV (cS p q ins) d (op,A,B) y.pc y.stk cs).2.2)::R2):=
 SC.less ((cJ.rem h1 (gB h2 cJ.refl).keep).trans jB) (tOp (x:=x) (y:=y) (ins:=ins) hS hC hk hro hi hpl hd hl hpc)
theorem Lx [hr:Rem H Mo m (x,yy) R] [hc:Rem R Cl cuZ (x.cs.zip cs) R2] [hsc:Sl R2 x.cu ePt (x.cs.map fun b=> (b,0))] [hsi:Sl R2 x.co oE ins] [hg:Glb G R2] [hpt:dq R2 x.pt q] [hpr:gE R2 x.pa p] (hS:jS) (hC:fg) (hso:SOk x p q pss T ins) (hgp:zL p ins tb) (hcs:gW pss cs) (hpl:yy.pl=((d:Nat):Int)) (hd:d<q.ds.length) (hst:yy.st≤1000000000000000000) (hvi:yy.vi≤1000000000000000000):
 SC G Tryz.prog 62 [.pointer (some ⟨m,0,none⟩)] H (fun v H'=> v=vvV (qL (cS p q ins) d ins.length 0 [] cs yy.st).1∧∃y':MY,y'.pl=yy.pl∧y'.st=(qL (cS p q ins) d ins.length 0 [] cs yy.st).2.2∧y'.vi=yy.vi+1∧H'=Mo m (x,y')::Cl cuZ (x.cs.zip (qL (cS p q ins) d ins.length 0 [] cs yy.st).2.1)::R2):=by
 have hil:=hso.len
 have hne:=hgp.ne
 have hrun:=(wu (c:=cS p q ins) (d:=d) ins.length 0 [] cs yy.st hcs).2.2
 refine SC.less (cJ.rem hr (cJ.rem hc cJ.refl).keep) ?_
 refine nN (m:=m) (x:=x) (y:=yy) (R:=Cl cuZ (x.cs.zip cs)::R2) inferInstance (fun s=> ?_)
 refine sWk Tryz.func62 Tryz.ntmps62 ?_
 refine gk (k:=alc (k:=fun b2=>?_))
 refine gk (k:=xu 0 rfl (SV×(List VV)×Nat×Nat×(List CuS)×Nat) (fun y=> y.2.2.1<ins.length∧tb.getD y.2.2.1 none=some y.2.1.length∧y.2.1.length≤y.2.2.1∧gW pss y.2.2.2.2.1∧ins.length≤y.2.2.2.2.2+y.2.2.1∧y.2.2.2.1≤yy.st+y.2.2.1∧qL (cS p q ins) d ins.length 0 [] cs yy.st=qL (cS p q ins) d y.2.2.2.2.2 y.2.2.1 y.2.1 y.2.2.2.2.1 y.2.2.2.1) (fun y=> [(0, .pointer (some ⟨m,0,none⟩)),(2, .pointer (some ⟨b2,0,none⟩))]) (fun y=> Vr m (mV x y.1 ⟨y.2.1,yy.pl,y.2.2.1,y.2.2.2.1,yy.vi+1⟩)::Row y.1 eVV y.2.1::Cl cuZ (x.cs.zip y.2.2.2.2.1)::Vr b2 [.bool false, .int .u64 0]::R2) (fun y=> ins.length - y.2.2.1) (pass:=?_) (first:=fun hlab=>?_))
 ·rintro⟨s1,stk,pc,k1,ca,f⟩ ⟨hpc,htb,hsl,hca,hf,hk1,hrv⟩
  try dsimp only at*
  obtain⟨z,hz⟩:∃z,ins[pc]? =some z:=⟨_,Yi hpc⟩
  obtain⟨op,A,B⟩:=z
  have hio:=IV hso hgp hpc hz htb
  have hop:=hio.opl
  have hia:jR (cS p q ins) pc=(op,A,B):=by show ins.getD pc (0,0,0)=_;rw[List.getD_eq_getElem?_getD,hz];all_goals rfl
  obtain⟨f9,rfl⟩:∃g,f=g+1:=⟨f - 1,aa⟩
  rw[qL,hia]at hrv
  have hsl9:stk.length≤1000000000:=aa
  refine go ?_
  refine df cI (fun i=> [10,11].contains i) (fun k H=> (k=3→cQ H m (mV x s1 ⟨stk,yy.pl,pc,k1,yy.vi+1⟩))∧(k=7→cQ H m (mV x s1 ⟨stk,yy.pl,pc,k1,yy.vi+1⟩))∧(k=8→Sl H x.co oE ins)∧(k=9→Sl H x.co oE ins)) (af_ 0 (q:=cD fun H hH=>mv) (k:=af_ 1 (q:=cD fun H hH=>nck) (k:=af_ 2 (q:=cD fun H hH=>fla) (k:=?_))))
  refine cE 3 rfl rfl (a8) rfl (cD fun H hH=>ak) (?_)
  refine af_ 4 (q:=cD fun H hH=>mv) (k:=af_ 5 (q:=cD fun H hH=>nck) (k:=af_ 6 (q:=cD fun H hH=>fla) (k:=?_)))
  refine cE 7 rfl rfl (a8) rfl (cD fun H hH=>ar) (?_)
  refine cE 8 rfl rfl (a8) rfl (cD fun H hH=>aV) (?_)
  refine cE 9 rfl rfl (a8) rfl (cD fun H hH=>by have hN:=hH.2.2.2 rfl;exact jn (hy:=hz)) (?_)
  refine cN 10 rfl (a8) rfl (fun k hk=> ⟨fun hi=> ab,fun hi=> ab,fun hi=> ab,fun hi=> ab⟩) (nK) ?_
  rintro _ _ ⟨b3,rfl,rfl⟩
  refine cN 11 rfl (a8) rfl (fun k hk=> ⟨fun hi=> ab,fun hi=> ab,fun hi=> ab,fun hi=> ab⟩) (dM rfl rfl rfl) ?_
  rintro _ _ ⟨rfl,rfl⟩
  refine db (a8) (fun k hk=> ⟨fun hi=> absurd hk (ad),fun hi=> absurd hk (ad),fun hi=> absurd hk (ad),fun hi=> absurd hk (ad)⟩) (qn_ (ws_ (wr_ (e_ mv (k:=e_ nck (k:=e_ fla (k:=e_ ldv (k:=?_))))))))
  refine e_ (evq (wV rfl rfl (by dsimp only;omega)) (congrArg (Value.int .i64) (show _=((pc+1:Nat):Int)from by dsimp only;omega))) (k:=?_)
  refine e_ nck (k:=e_ fla (k:=sto (k:=on_ (qn_ (ws_ (wr_ (e_ mv (k:=e_ nck (k:=e_ fla (k:=e_ ldv (k:=?_)))))))))))
  refine e_ (evq (wV rfl rfl (by dsimp only;omega)) (congrArg (Value.int .i64) (show _=((k1+1:Nat):Int)from by dsimp only;omega))) (k:=?_)
  refine go ?_
  refine df cI (fun i=> [9].contains i) (fun k H=> (k=2→cQ H b3 [.int .i64 ((op:Nat):Int), .int .u64 ((A:Nat):Int), .int .u64 ((B:Nat):Int)])∧(k=6→MoP H m x)∧(k=8→cQ H b3 [.int .i64 ((op:Nat):Int), .int .u64 ((A:Nat):Int), .int .u64 ((B:Nat):Int)])) (?_)
  haveI hmop:∀(A:Hp) (R:cG),MoP (A::Vr m (mV x s1 ⟨stk,yy.pl,pc+1,k1+1,yy.vi+1⟩)::R) m x:=fun A R=> MoP.ofVr (s:=s1) (y:=⟨stk,yy.pl,pc+1,k1+1,yy.vi+1⟩)
  refine af_ 0 (q:=cD fun H hH=>mv) (k:=af_ 1 (q:=cD fun H hH=>fla) (k:=?_))
  refine cE 2 rfl rfl (a8) rfl (cD fun H hH=>ak) (?_)
  refine af_ 3 (q:=cD fun H hH=>nck) (k:=af_ 4 (q:=cD fun H hH=>fla) (k:=?_))
  refine cE 5 rfl rfl (a8) rfl (cD fun H hH=>evq (eM rfl rfl op rfl (aa)) (congrArg (fun n=> Value.pointer (some ⟨m,n,none⟩)) (show _=9+op from aa))) (?_)
  refine cE 6 rfl rfl (a8) rfl (cD fun H hH=>by have hN:=hH.2.1 rfl;exact B0 (x:=x) m fun s yy R=> by haveI:=Ko (OD (x:=x) (s:=s) (y:=yy) op hop);exact ldv) (?_)
  refine af_ 7 (q:=cD fun H hH=>mv) (k:=?_)
  refine cE 8 rfl rfl (a8) rfl (cD fun H hH=>by have hN:=hH.2.2 rfl;exact lds) (?_)
  refine cN 9 rfl (a8) rfl (fun k hk=> ⟨fun hi=> ab,fun hi=> ab,fun hi=> ab⟩) (nJ (fi:= []) (ca:= []) (vs:= [_,_]) rfl rfl (PR (x:=x) (y:=⟨stk,yy.pl,pc+1,k1+1,yy.vi+1⟩) (s:=s1) (ins:=ins) hS hC (hso.mok hca) (hso.rok hca) hio hpl hd hsl9 (by show pc+1≤_;omega))) ?_
  rintro _ _ ⟨rfl,rfl⟩
  refine db (a8) (fun k hk=> ⟨fun hi=> ab,fun hi=> absurd hk (ad),fun hi=> absurd hk (ad)⟩) (qn_ (ws_ (ws_ (wr_ (?_)))))
  refine MF m (fun s9=> ?_)
  refine gk (k:=wi_ (k:=fun h1=>?_) (m:=fun h1=>?_))
  ·have h0:¬op=0:=by have h9:=h1;omega
   rw[if_neg h0]at hrv
   obtain⟨hv1,hv2,hv3⟩:=FN (c:=cS p q ins) (d:=d) (st:=stk) (cs:=ca) (hgp.step pc hpc) hpc htb (by rw[hia];exact h0)
   rw[hia]at hv1 hv2 hv3
   have hln:=Js (c:=cS p q ins) (d:=d) (A:=A) (B:=B) (pc:=pc+1) (st:=stk) (cs:=ca) hop
   have hrv2:=hrv
   refine Eh (qg_ (?_))
   refine jg_ ((s9,(opV (cS p q ins) d (op,A,B) (pc+1) stk ca).2.1,(opV (cS p q ins) d (op,A,B) (pc+1) stk ca).1,k1+1,(opV (cS p q ins) d (op,A,B) (pc+1) stk ca).2.2,f9)) (hI:=?_) (hm:=by(try dsimp only);omega) (hs:=by(try dsimp only);exact sbt) (hh:=by(try dsimp only);exact hsb)
   try dsimp only
   exact⟨hv2,hv3,aa,FO hca,aa,aa,hrv2⟩
  obtain rfl:op=0:=az
  rw[if_pos rfl]at hrv
  rw[hrv]
  have hs19:0<stk.length:=by
   obtain⟨h',he⟩:=hio.eff
   simp only[iW]at he
   split at he
   ·omega
   ·cases he
  refine go ?_
  refine du (H':=Vr m (mV x s9 ⟨stk,yy.pl,pc+1,k1+1,yy.vi+1⟩)::Row s9 eVV stk::Cl cuZ (x.cs.zip ca)::_::_::R2) cJ.refl ?_
  refine go ?_
  refine d1_ rfl (Ly (x:=x) (y:=⟨stk,yy.pl,pc+1,k1+1,yy.vi+1⟩) (s:=s9) hs19 hsl9) (k:=gk (k:=jt_ (rt_ Tryz.results62 (k:=?_))))
  exact⟨_,cJ.trans (H':=Vr m (mV x s9 ⟨stk,yy.pl,pc+1,k1+1,yy.vi+1⟩)::Row s9 eVV stk::Cl cuZ (x.cs.zip ca)::R2) (hsb) jB,rfl,⟨stk,yy.pl,pc+1,k1+1,yy.vi+1⟩,rfl,rfl,rfl,rfl⟩
 refine ws_ (wr_ (e_ mv (k:=e_ nck (k:=e_ fla (k:=e_ ldv (k:=?_))))))
 refine e_ (evq iad (congrArg (Value.int .i64) (show _=((yy.vi+1:Nat):Int)from aa))) (k:=?_)
 refine e_ nck (k:=e_ fla (k:=sto (k:=on_ (qn_ (ws_ (wr_ (e_ mv (k:=e_ mv (k:=e_ nck (k:=e_ fla (k:=e_ ldv (k:=?_))))))))))))
 refine e_ (eL rfl (bQ) 0 0 rfl ⟨_,_,rfl,rfl⟩ (aa) (aa)) (k:=?_)
 refine e_ nck (k:=e_ fla (k:=sto (k:=on_ (qn_ (ws_ (wr_ (?_)))))))
 refine du (H':=Row (s.cut 2 0 0) eVV []::Vr m (mV x (s.cut 2 0 0) ⟨yy.stk,yy.pl,yy.pc,yy.st,yy.vi+1⟩)::Cl cuZ (x.cs.zip cs)::Vr b2 [.bool false, .int .u64 0]::R2) (cJ.trans (H':=Row s eVV yy.stk::Vr m (mV x (s.cut 2 0 0) ⟨yy.stk,yy.pl,yy.pc,yy.st,yy.vi+1⟩)::Cl cuZ (x.cs.zip cs)::Vr b2 [.bool false, .int .u64 0]::R2) (hsb) (tw (k:=0) (aa))) ?_
 refine e_ mv (k:=e_ nck (k:=e_ fla (k:=sto (k:=on_ (qn_ (hlab ((s.cut 2 0 0, [],0,yy.st,cs,ins.length)) _ _ ?_ (by(try dsimp only);exact sbt) (by(try dsimp only);exact hsb)))))))
 try dsimp only
 exact⟨hne,hgp.at0,Nat.le_refl _,hcs,aa,aa,rfl⟩
end
section
variable {G:cK}{H R R2:cG}{m T:Nat}{x:MX}{yy:MY}{p:PrG}{q:PtD}{ins:List Ins}{cs:List CuS}{pss:List (List Po)}
theorem LO [hr:Rem H Mo m (x,yy) R] [hc:Rem R Cl cuZ (x.cs.zip cs) R2] [hsc:Sl R2 x.cu ePt (x.cs.map fun b=> (b,0))] [hg:Glb G R2] [hpt:dq R2 x.pt q] [hpr:gE R2 x.pa p] (hso:SOk x p q pss T ins) (hcs:gW pss cs) (hxa:x.all=p.all) (hpl1: -1≤yy.pl) (hpl2:yy.pl<2147483647) (hdr:∀k∈p.drive,0≤k∧k<((pss.length:Nat):Int)) (hdl:p.drive.length≤1000000000):
 SC G Tryz.prog 61 [.pointer (some ⟨m,0,none⟩)] H (fun v H'=> v= .bool (er (cS p q ins) ⟨cs,yy.pl,yy.st,yy.vi⟩).1∧H'=Mo m (x,{yy with pl:=(er (cS p q ins) ⟨cs,yy.pl,yy.st,yy.vi⟩).2.pl})::Cl cuZ (x.cs.zip (er (cS p q ins) ⟨cs,yy.pl,yy.st,yy.vi⟩).2.cs)::R2):=by
 have hlm:(x.cs.map fun b=> ((b,0):Nat×Nat)).length=pss.length:=by rw[Yh,hso.cl]
 have hids:(cS p q ins).ids.length=q.ds.length:=by show(q.ds.map (·.1)).length=_;rw[Yh]
 obtain⟨sr,hsr⟩:∃sr,sr=gf (cS p q ins) 2147483648 yy.pl cs:=⟨_,rfl⟩
 refine SC.less (cJ.rem hr (cJ.rem hc cJ.refl).keep) ?_
 refine nN (m:=m) (x:=x) (y:=yy) (R:=Cl cuZ (x.cs.zip cs)::R2) inferInstance (fun s=> ?_)
 refine sWk Tryz.func61 Tryz.ntmps61 ?_
 refine gk (k:=xu 0 rfl (Int×(List CuS)×Nat) (fun y=> ¬p.all=true∧ -1≤y.1∧y.1<2147483647∧gW pss y.2.1∧2147483647≤((y.2.2:Nat):Int)+y.1∧sr=gf (cS p q ins) y.2.2 y.1 y.2.1) (fun y=> [(0, .pointer (some ⟨m,0,none⟩))]) (fun y=> Vr m (mV x s ⟨yy.stk,y.1,yy.pc,yy.st,yy.vi⟩)::Row s eVV yy.stk::Cl cuZ (x.cs.zip y.2.1)::R2) (fun y=> (2147483647 - y.1).toNat) (pass:=?_) (first:=fun hlab=>?_))
 ·rintro⟨pl,ca,f⟩ ⟨hna,hp1,hp2,hca,hf,hsm⟩
  try dsimp only at*
  obtain⟨f9,rfl⟩:∃g,f=g+1:=⟨f - 1,aa⟩
  rw[gf]at hsm
  refine go ?_
  refine gk (k:=dt (Nat×(List CuS)×Int) (fun y=> y.1≤p.drive.length∧gW pss y.2.1∧y.2.2≤2147483647∧pl<y.2.2∧mU pl p.drive ca 2147483647=mU pl (p.drive.drop y.1) y.2.1 y.2.2) (fun y=> [(5, .int .i64 y.2.2),(39, .int .i64 ((y.1:Nat):Int))]) [(0,_),(37,_),(38,_)] (fun y=> [Cl cuZ (x.cs.zip y.2.1)]) _ (fun y=> p.drive.length - y.1) ((0,ca,2147483647)) (h0:=?_) (k:=?_))
  ·try dsimp only
   exact⟨Yl _,hca,aa,hp2,by rw[List.drop_zero]⟩
  rintro⟨i,cb,le⟩ ⟨hi,hcb,hle,hlp,hdv⟩
  try dsimp only[Yd,Ye]at*
  refine gk (k:=wi_ (k:=fun h1=>?_) (m:=fun h1=>?_))
  ·obtain⟨k0,hk0⟩:∃k,p.drive[i]? =some k:=⟨_,Yi (aa)⟩
   obtain⟨kb1,kb2⟩:=hdr k0 (Yj hk0)
   obtain⟨kn,rfl⟩:∃kn:Nat,k0=((kn:Nat):Int):=⟨k0.toNat,aa⟩
   have hbl:=hcb.len
   have hxl:=hso.cl
   obtain⟨b,hb⟩:∃b,x.cs[kn]? =some b:=⟨_,Yi (aa)⟩
   obtain⟨c,hcA⟩:∃c,cb[kn]? =some c:=⟨_,Yi (aa)⟩
   have hbp:(x.cs.map fun b=> ((b,0):Nat×Nat))[kn]? =some ((b,0):Nat×Nat):=by rw[Xd,hb];all_goals rfl
   have hcok:=hcb.get hcA
   have hgdc:cb.getD ((kn:Nat):Int).toNat m5=c:=by rw[Int.toNat_natCast,List.getD_eq_getElem?_getD,hcA];all_goals rfl
   have hzc:=lB hb hcA
   have hzcl:=(Yk.1 hzc).1
   have hset:=hcb.set (f:=iH pl) kn (fun c hc=> ur hc) (fun c=> uq pl c)
   rw[show cb.getD kn m5=c from by rw[List.getD_eq_getElem?_getD,hcA];all_goals rfl]at hset
   have hgt:=zd (pl:=pl) hcok (aa)
   rw[dF hk0,mU,hgdc,Int.toNat_natCast]at hdv
   refine wk_ (qn_ (ws_ (wb_ (ws_ (wr_ (e_ ixa (k:=e_ (lel (hy:=hk0)) (k:=e_ asn (k:=on_ (qn_ (ws_ (wr_ (e_ mv (k:=?_))))))))))))))
   refine e_ nck (k:=e_ fla (k:=e_ ldv (k:=e_ mv (k:=e_ ixa (k:=e_ (lel (hy:=hbp)) (k:=?_))))))
   refine du (H':=CuH b c::Cl cuZ ((x.cs.zip cb).take kn)::Cl cuZ ((x.cs.zip cb).drop (kn+1))::Vr m (mV x s ⟨yy.stk,pl,yy.pc,yy.st,yy.vi⟩)::Row s eVV yy.stk::R2) (cJ.trans (H':=Cl cuZ (x.cs.zip cb)::Vr m (mV x s ⟨yy.stk,pl,yy.pc,yy.st,yy.vi⟩)::Row s eVV yy.stk::R2) (hsb) (qm hzc)) ?_
   refine go ?_
   refine df cI (fun i=> [3].contains i) (fun k H=> (k=7→cQ H m (mV x s ⟨yy.stk,pl,yy.pc,yy.st,yy.vi⟩))) (af_ 0 (q:=cD fun H hH=>mv) (k:=af_ 1 (q:=cD fun H hH=>nck) (k:=af_ 2 (q:=cD fun H hH=>fla) (k:=af_ 4 (q:=cD fun H hH=>mv) (k:=af_ 5 (q:=cD fun H hH=>nck) (k:=af_ 6 (q:=cD fun H hH=>fla) (k:=?_)))))))
   refine cE 7 rfl rfl (a8) rfl (cD fun H hH=>bA) (?_)
   refine cN 3 rfl (a8) rfl (fun k hk=> fun hi=> ab) (cW (vs:= [_]) rfl (uZ (c:=c))) ?_
   rintro _ _ ⟨rfl,rfl⟩
   refine af_ 8 (q:=cD fun H hH=>ile) (k:=db (a8) (fun k hk=> fun hi=> ab) (gk (k:=wi_ (k:=fun h2=>?_) (m:=fun h2=>?_))))
   ·have hdc:iH pl c=jE c (pl+1):=by rw[iH,if_pos h2]
    rw[hdc]at hdv hset hgt
    refine wr_ (e_ mv (k:=e_ mv (k:=e_ nck (k:=e_ fla (k:=e_ ldv (k:=?_))))))
    refine e_ (evq (wV rfl rfl (by dsimp only;omega)) (congrArg (Value.int .i64) (show _=pl+1 from rfl))) (k:=?_)
    refine d2_ rfl (O8 hcok) (k:=go ?_)
    refine d1_ rfl (uZ) (k:=?_)
    refine e_ (mN rfl rfl) (k:=?_)
    refine e_ asn (k:=on_ (bn_ (qn_ (wr_ (?_)))))
    refine du (H':=Cl cuZ (x.cs.zip (cb.set kn (jE c (pl+1))))::Vr m (mV x s ⟨yy.stk,pl,yy.pc,yy.st,yy.vi⟩)::Row s eVV yy.stk::R2) (by rw[←jy hb];exact cJ.trans (hsb) (jD hzcl)) ?_
    refine go ?_
    refine ln_ ((i+1,cb.set kn (jE c (pl+1)),min le (gJ (jE c (pl+1)).ps (jE c (pl+1)).u))) (k:=?_)
    try dsimp only
    exact⟨aa,hset,aa,aa,hdv⟩
   have hdc:iH pl c=c:=by rw[iH,if_neg h2]
   rw[hdc]at hdv hset hgt
   refine go ?_
   refine d1_ rfl (uZ) (k:=?_)
   refine e_ (mN rfl rfl) (k:=?_)
   refine e_ asn (k:=on_ (bn_ (qn_ (wr_ (?_)))))
   refine du (H':=Cl cuZ (x.cs.zip (cb.set kn c))::Vr m (mV x s ⟨yy.stk,pl,yy.pc,yy.st,yy.vi⟩)::Row s eVV yy.stk::R2) (by rw[←jy hb];exact cJ.trans (hsb) (jD hzcl)) ?_
   refine go ?_
   refine ln_ ((i+1,cb.set kn c,min le (gJ c.ps c.u))) (k:=?_)
   try dsimp only
   exact⟨aa,hset,aa,aa,hdv⟩
  obtain rfl:i=p.drive.length:=aa
  rw[List.drop_length,mU]at hdv
  rw[show mU pl (cS p q ins).p.drive ca 2147483647=(cb,le)from hdv]at hsm
  simp only at hsm
  refine gk (k:=wi_ (k:=fun h3=>?_) (m:=fun h3=>?_))
  ·rw[if_pos h3]at hsm
   refine gk (k:=jt_ (rt_ Tryz.results61 (k:=?_)))
   rw[er,show(cS p q ins).p.all=p.all from rfl,if_neg hna,←hsr,hsm];exact⟨_,cJ.trans (H':=Vr m (mV x s ⟨yy.stk,pl,yy.pc,yy.st,yy.vi⟩)::Row s eVV yy.stk::Cl cuZ (x.cs.zip cb)::R2) (hsb) jB,rfl,rfl⟩
  rw[if_neg h3]at hsm
  have hlt:le<2147483647:=cj
  have hal:ly (cS p q ins) le=(decide (0≤le) && decide (le<((q.ds.length:Nat):Int)) && !oG q.dw le.toNat):=by
   rw[ly,hids,show decide (le.toNat<q.ds.length)=decide (le<((q.ds.length:Nat):Int))from decide_eq_decide.2 (aa)];all_goals rfl
  rw[hal]at hsm
  obtain⟨av,hav0⟩:∃av,av=(decide (0≤le) && decide (le<((q.ds.length:Nat):Int)) && !oG q.dw le.toNat):=⟨_,rfl⟩
  rw[←hav0]at hsm
  refine go ?_
  refine go ?_
  refine d2_ rfl ((Mh (a:=x.pt) hso.q).mono (K':=fun v H'=> v= .bool av∧H'=_) (fun v H' h=> ⟨h.1.trans (by rw[hav0]),h.2⟩)) (k:=gk (k:=wi_ (k:=fun h4=>?_) (m:=fun h4=>?_)))
  ·have hav:¬av=true:=by have h9:=h4;simpa using h9
   rw[if_neg hav]at hsm
   refine Eh (qg_ (?_))
   refine jg_ ((le,cb,f9)) (hI:=?_) (hm:=by(try dsimp only);omega) (hs:=by(try dsimp only);exact sbt) (hh:=by(try dsimp only);exact hsb)
   try dsimp only
   exact⟨hna,aa,hlt,hcb,aa,hsm⟩
  have hav:av=true:=by have h9:=h4;simpa using h9
  rw[if_pos hav]at hsm
  refine gk (k:=jt_ (rt_ Tryz.results61 (k:=?_)))
  rw[er,show(cS p q ins).p.all=p.all from rfl,if_neg hna,←hsr,hsm];exact⟨_,cJ.trans (H':=Vr m (mV x s ⟨yy.stk,le,yy.pc,yy.st,yy.vi⟩)::Row s eVV yy.stk::Cl cuZ (x.cs.zip cb)::R2) (hsb) jB,rfl,rfl⟩
 refine gk (k:=wi_ (k:=fun h5=>?_) (m:=fun h5=>?_))
 ·have hall:p.all=true:=by rw[←hxa];exact h5
  rw[er,show(cS p q ins).p.all=true from hall,if_pos rfl,tK,hids]
  refine go ?_
  refine df cI (fun i=> [9].contains i) (fun k H=> (k=3→cQ H m (mV x s yy))∧(k=7→cQ H m (mV x s yy))) (af_ 0 (q:=cD fun H hH=>mv) (k:=af_ 1 (q:=cD fun H hH=>nck) (k:=af_ 2 (q:=cD fun H hH=>fla) (k:=?_))))
  refine cE 3 rfl rfl (a8) rfl (cD fun H hH=>ak) (?_)
  refine af_ 4 (q:=cD fun H hH=>mv) (k:=af_ 5 (q:=cD fun H hH=>nck) (k:=af_ 6 (q:=cD fun H hH=>fla) (k:=?_)))
  refine cE 7 rfl rfl (a8) rfl (cD fun H hH=>aE) (?_)
  refine af_ 8 (q:=cD fun H hH=>iad) (k:=?_)
  refine cN 9 rfl (a8) rfl (fun k hk=> ⟨fun hi=> ab,fun hi=> ab⟩) (cW (vs:= [_,_]) rfl (A3 (a:=x.pt) hso.q (aa))) ?_
  rintro _ _ ⟨(⟨dd,hfd,rfl⟩|⟨hfd,rfl⟩),rfl⟩
  ·rw[show((List.range q.ds.length).drop (yy.pl+1).toNat).find? (fun d=> !(cS p q ins).dead d)=some dd from hfd]
   refine af_ 10 (q:=cD fun H hH=>mv) (k:=af_ 11 (q:=cD fun H hH=>exr) (k:=af_ 12 (q:=cD fun H hH=>exr) (k:=af_ 13 (q:=cD fun H hH=>asn) (k:=af_ 14 (q:=cD fun H hH=>asn) (k:=db (a8) (fun k hk=> ⟨fun hi=> absurd hk (ad),fun hi=> ab⟩) (gk (k:=ift (k:=?_))))))))
   refine go ?_
   refine gk (k:=ft_ (rt_ Tryz.results61 (k:=?_)))
   exact⟨_,cJ.trans (H':=Vr m (mV x s {yy with pl:=((dd:Nat):Int)})::Row s eVV yy.stk::Cl cuZ (x.cs.zip cs)::R2) (hsb) jB,rfl,rfl⟩
  rw[show((List.range q.ds.length).drop (yy.pl+1).toNat).find? (fun d=> !(cS p q ins).dead d)=none from hfd]
  refine af_ 10 (q:=cD fun H hH=>mv) (k:=af_ 11 (q:=cD fun H hH=>exr) (k:=af_ 12 (q:=cD fun H hH=>exr) (k:=af_ 13 (q:=cD fun H hH=>asn) (k:=af_ 14 (q:=cD fun H hH=>asn) (k:=db (a8) (fun k hk=> ⟨fun hi=> absurd hk (ad),fun hi=> ab⟩) (gk (k:=eg (k:=?_))))))))
  refine gk (k:=ft_ (rt_ Tryz.results61 (k:=?_)))
  exact⟨_,cJ.trans (H':=Vr m (mV x s yy)::Row s eVV yy.stk::Cl cuZ (x.cs.zip cs)::R2) (hsb) jB,rfl,rfl⟩
 have hall:¬p.all=true:=by rw[←hxa];have h9:=h5;simpa using h9
 refine wk_ (qn_ (hlab ((yy.pl,cs,2147483648)) _ _ ?_ (by(try dsimp only);exact sbt) (by(try dsimp only);exact hsb)))
 try dsimp only
 exact⟨hall,hpl1,hpl2,hcs,aa,hsr⟩
end
class mb (H:cG) (x:MX) (p:outParam PrG) (ins:outParam (List Ins)):Prop where
 pr:gE H x.pa p
 co:Sl H x.co oE ins
 cu:Sl H x.cu ePt (x.cs.map fun b=> (b,0))
section
variable {H:cG}{x:MX}{p:PrG}{ins:List Ins}
theorem mb.less {H':cG}(hs:cJ H' H) (h:mb H x p ins):mb H' x p ins:=⟨h.pr.less hs,dD hs h.co,dD hs h.cu⟩
instance mb.tail {A:Hp} [h:mb H x p ins]:mb (A::H) x p ins:=h.less (cJ.drop cJ.refl)
instance [h:mb H x p ins]:gE H x.pa p:=h.pr
instance [h:mb H x p ins]:Sl H x.co oE ins:=h.co
instance [h:mb H x p ins]:Sl H x.cu ePt (x.cs.map fun b=> (b,0)):=h.cu
theorem v8 {F H:cG}:cJ (fB F::H) F:=fun L hL=> by
 obtain⟨L1,L2,rfl,h1,_⟩:=pM hL
 exact⟨L1,L2,h1,List.Perm.refl _⟩
instance mb.star {F:cG} [h:mb F x p ins]:mb (fB F::H) x p ins:=h.less v8
end
def Ma (m:Nat) (z:MX×MS):Hp:=Ex fun y:List VV×Nat=> [Mo m (z.1,⟨y.1,z.2.pl,y.2,z.2.steps,z.2.visits⟩),Cl cuZ (z.1.cs.zip z.2.cs)]
theorem yA {m:Nat}{x:MX}{y:MY}{cs:List CuS}{R:cG}:cJ (Mo m (x,y)::Cl cuZ (x.cs.zip cs)::R) (Ma m (x,⟨cs,y.pl,y.st,y.vi⟩)::R):=sA (K:=Ma) (i:=m) (a:=(x,⟨cs,y.pl,y.st,y.vi⟩)) rfl (y.stk,y.pc)
theorem Ft {G:cK}{P:Program}{H:cG}{f:FuncId}{args:List Value}{K:Value→cG→Prop}{R:cG}{m:Nat}{x:MX}{s:MS}(hr:Rem H Ma m (x,s) R) (h:∀(st:List VV) (pc:Nat),SC G P f args (Mo m (x,⟨st,s.pl,pc,s.steps,s.visits⟩)::Cl cuZ (x.cs.zip s.cs)::R) K):SC G P f args H K:=
 ⟨(h [] 0).enter,fun w hw=> let ⟨y,hs⟩:=mo (K:=Ma) rfl hr hw;(h y.1 y.2).call w hs⟩
structure pz (x:MX) (p:PrG) (q:PtD) (pss:List (List Po)) (T:Nat) (ins:List Ins) (tb:Hs):Prop where
 so:SOk x p q pss T ins
 gp:zL p ins tb
 all:x.all=p.all
 drl:p.drive.length≤1000000000
theorem zc {p:PrG}:∀{l:List Int}{b:Option Int},jx p b l=true→∀k∈l,0≤k∧k<((p.curs.length:Nat):Int)
 | [],_,_,k,hk=> by cases hk
 |a::r,b,h,k,hk=> by
  rw[uo,eh]at h
  simp only[Bool.and_eq_true,decide_eq_true_eq]at h
  rcases List.mem_cons.1 hk with rfl|hk
  ·omega
  ·exact zc h.2 k hk
theorem qG {p:PrG}(h:ie p=true):p.avgs.length≤16∧(∀a∈p.avgs,0≤a)∧(∀c∈p.curs,0≤c.1∧c.1<((p.avgs.length:Nat):Int)∧c.2.size≤64)∧(∀n∈p.nears,gl p n=true)∧jx p none p.drive=true:=by
 rw[ie]at h
 simp only[Bool.and_eq_true,List.all_eq_true,decide_eq_true_eq,eh]at h
 obtain⟨⟨⟨⟨⟨⟨h1,h2⟩,h3⟩,h4⟩,h5⟩,h6⟩,h7⟩:=h
 exact⟨h2,h3,fun c hc=> ⟨(h4 c hc).1.1,(h4 c hc).1.2,(h4 c hc).2⟩,h5,h7⟩
section
variable {x:MX}{p:PrG}{q:PtD}{pss:List (List Po)}{T:Nat}{ins:List Ins}{tb:Hs}
theorem pz.dr (h:pz x p q pss T ins tb):l3 (cS p q ins) pss.length:=fun k hk=> by
 have:=zc (qG h.gp.tab).2.2.2.2 k hk
 rw[h.so.cu]at this;exact this
theorem pz.ids (h:pz x p q pss T ins tb):(cS p q ins).ids.length=q.ds.length:=by show(q.ds.map (·.1)).length=_;rw[Yh]
theorem pz.few (h:pz x p q pss T ins tb):(cS p q ins).ids.length≤2147483647:=by have:=h.so.q.n;rw[h.ids];omega
theorem tL (h:pz x p q pss T ins tb) {s:MS}(hm:jO (cS p q ins) pss s):s.steps≤300000000000000000∧s.visits≤2147483647:=by
 have h1:=hm.vis
 have h2:=hm.hi
 have h3:=hm.stp
 have h4:=h.so.len
 have h5:s.visits*(cS p q ins).ins.length≤2147483647*100000000:=Nat.mul_le_mul (aa) h4
 omega
end
def OS (o:Option Hit):Value:=match o with
 |none=> .tuple #[.agg [.int .i64 0, .int .u64 0].toArray, .bool false]
 |some h=> .tuple #[.agg [.int .i64 h.1, .int .u64 ((h.2:Nat):Int)].toArray, .bool true]
section
variable {G:cK}{H R:cG}{m T:Nat}{x:MX}{s:MS}{p:PrG}{q:PtD}{ins:List Ins}{pss:List (List Po)}{tb:Hs}
theorem LQ [hr:Rem H Ma m (x,s) R] [hg:Glb G R] [hpt:dq R x.pt q] [hmf:mb R x p ins] (hro:pz x p q pss T ins tb) (hms:jO (cS p q ins) pss s):SC G Tryz.prog 61 [.pointer (some ⟨m,0,none⟩)] H (fun v H'=> v= .bool (er (cS p q ins) s).1∧H'=Ma m (x,(er (cS p q ins) s).2)::R):=by
 obtain⟨cs,pl,k,vi⟩:=s
 refine Ft hr (fun st pc=> ?_)
 obtain⟨_,h2,h3,_⟩:=q8 hro.dr hro.few hms
 refine SC.out ((LO (yy:=⟨st,pl,pc,k,vi⟩) (cs:=cs) (ins:=ins) (p:=p) (q:=q) (x:=x) (R2:=R) hro.so hms.cs hro.all hms.lo hms.hi hro.dr hro.drl).mono (fun v H' h=> ⟨_,?_,h.1,rfl⟩))
 have e:(er (cS p q ins) ⟨cs,pl,k,vi⟩).2=⟨(er (cS p q ins) ⟨cs,pl,k,vi⟩).2.cs,(er (cS p q ins) ⟨cs,pl,k,vi⟩).2.pl,k,vi⟩:=by
  have e2:∀z:MS,z.steps=k→z.visits=vi→z=⟨z.cs,z.pl,k,vi⟩:=fun z h4 h5=> by subst h4;subst h5;rfl
  exact e2 _ h2 h3
 have h9:cJ (Mo m (x,⟨st,(er (cS p q ins) ⟨cs,pl,k,vi⟩).2.pl,pc,k,vi⟩)::Cl cuZ (x.cs.zip (er (cS p q ins) ⟨cs,pl,k,vi⟩).2.cs)::R) (Ma m (x,⟨(er (cS p q ins) ⟨cs,pl,k,vi⟩).2.cs,(er (cS p q ins) ⟨cs,pl,k,vi⟩).2.pl,k,vi⟩)::R):=yA (y:=⟨st,(er (cS p q ins) ⟨cs,pl,k,vi⟩).2.pl,pc,k,vi⟩)
 rw[←e]at h9
 rw[h.2]
 exact h9
theorem Ip {d:Nat} [hr:Rem H Ma m (x,s) R] [hg:Glb G R] [hpt:dq R x.pt q] [hmf:mb R x p ins] (hS:jS) (hC:fg) (hro:pz x p q pss T ins tb) (hms:jO (cS p q ins) pss s) (hpl:s.pl=((d:Nat):Int)) (hd:d<q.ds.length):SC G Tryz.prog 62 [.pointer (some ⟨m,0,none⟩)] H (fun v H'=> v=vvV (hU (cS p q ins) s).1∧H'=Ma m (x,(hU (cS p q ins) s).2)::R):=by
 obtain⟨cs,pl,k,vi⟩:=s
 obtain⟨h1,h2⟩:=tL hro hms
 simp only at h1 h2 hpl
 subst hpl
 refine Ft hr (fun st pc=> ?_)
 refine SC.out ((Lx (yy:=⟨st,((d:Nat):Int),pc,k,vi⟩) (cs:=cs) (ins:=ins) (p:=p) (q:=q) (x:=x) (R2:=R) (d:=d) hS hC hro.so hro.gp hms.cs rfl hd (by show k≤_;omega) (by show vi≤_;omega)).mono (fun v H' h=> ⟨_,?_,h.1,rfl⟩))
 obtain⟨_,y',e1,e2,e3,rfl⟩:=h
 have h9:=yA (m:=m) (x:=x) (y:=y') (cs:=(qL (cS p q ins) d ins.length 0 [] cs k).2.1) (R:=R)
 rw[e1,e2,e3]at h9
 exact h9
theorem pI [hr:Rem H Ma m (x,s) R] [hmf:mb R x p ins] (hro:pz x p q pss T ins tb) (hms:jO (cS p q ins) pss s):SC G Tryz.prog 29 [.pointer (some ⟨m,0,none⟩)] H (fun v H'=> v= .tuple #[.int .i64 ((s.steps:Nat):Int), .int .i64 ((kX s:Nat):Int), .int .i64 ((s.visits:Nat):Int)]∧H'=Ma m (x,s)::R):=by
 obtain⟨cs,pl,k,vi⟩:=s
 refine Ft hr (fun st pc=> ?_)
 refine SC.out ((IJ (y:=⟨st,pl,pc,k,vi⟩) (cs:=cs) (p:=p) (q:=q) (x:=x) (R2:=R) (hro.so.mok hms.cs)).mono (fun v H' h=> ⟨_,?_,h.1,rfl⟩))
 rw[h.2]
 exact yA (y:=⟨st,pl,pc,k,vi⟩)
end
section
variable {G:cK}{P:Program}{N:Nat}{Q:Go.Sx.Post}{t:Tm}{H:cG}{ops:Array Oper}{l:List Oper}
end
section
variable {G:cK}{P:Program}{N:Nat}{Q:Go.Sx.Post}{t:Tm}{H:cG}{c:Code}
theorem Ls {R:cG}(m:Nat) {x:MX}{s:MS} [hr:Rem H Ma m (x,s) R] (h:∀(st:List VV) (pc:Nat),W G P N c Q t (Mo m (x,⟨st,s.pl,pc,s.steps,s.visits⟩)::Cl cuZ (x.cs.zip s.cs)::R)):W G P N c Q t H:=
 ⟨fun a w ha hw=> let ⟨y,hs⟩:=mo (K:=Ma) rfl hr hw;(h y.1 y.2).go a w ha hs⟩
end
section
variable {G:cK}{H R:cG}{m T:Nat}{x:MX}{s:MS}{p:PrG}{q:PtD}{ins:List Ins}{pss:List (List Po)}{tb:Hs}
theorem A2 [hr:Rem H Ma m (x,s) R] [hg:Glb G R] [hpt:dq R x.pt q] [hmf:mb R x p ins] (hS:jS) (hC:fg) (hro:pz x p q pss T ins tb) (hms:jO (cS p q ins) pss s):SC G Tryz.prog 28 [.pointer (some ⟨m,0,none⟩)] H (fun v H'=> v=OS (dV (cS p q ins) s).1∧H'=Ma m (x,(dV (cS p q ins) s).2)::R):=by
 have hids:=hro.ids
 have hlo:=hms.lo
 refine SC.less (cJ.rem hr cJ.refl) ?_
 refine sWk Tryz.func28 Tryz.ntmps28 ?_
 refine gk (k:=alc (k:=fun b2=>?_))
 refine gk (k:=dt (MS×Nat) (fun y=> 1≤y.2∧((q.ds.length:Nat):Int)≤((y.2:Nat):Int)+y.1.pl∧jO (cS p q ins) pss y.1∧dV (cS p q ins) s=qU (cS p q ins) y.2 y.1) (fun y=> []) [(0,_),(2,_)] (fun y=> [Ma m (x,y.1)]) _ (fun y=> y.2) ((s,q.ds.length+1)) (h0:=?_) (k:=?_))
 ·try dsimp only
  exact⟨aa,aa,hms,by rw[dV,hids]⟩
 rintro⟨sa,n⟩ ⟨hn1,hn2,hsa,hnx⟩
 try dsimp only[Yd,Ye]at*
 obtain⟨n,rfl⟩:∃g,n=g+1:=⟨n - 1,aa⟩
 rw[qU]at hnx
 refine go ?_
 refine d1_ rfl (LQ hro hsa) (k:=gk (k:=wi_ (k:=fun h1=>?_) (m:=fun h1=>?_)))
 ·have hy:(er (cS p q ins) sa).1=true:=h1
  rw[if_neg (by rw[hy];decide)]at hnx
  obtain⟨hsB,_,_,_,hal⟩:=q8 hro.dr hro.few hsa
  obtain⟨hgt,hal2⟩:=hal hy
  obtain⟨hp1,hp2⟩:=zD hal2
  obtain⟨hsc,_,hgt2,_⟩:=xy hro.dr hro.few hsa hy
  rw[hids]at hp2
  obtain⟨sb,hsBe⟩:∃sb,sb=(er (cS p q ins) sa).2:=⟨_,rfl⟩
  rw[←hsBe]at hnx hsB hgt hp1 hp2 hsc hgt2
  obtain⟨d,hd⟩:∃d:Nat,sb.pl=((d:Nat):Int):=⟨sb.pl.toNat,aa⟩
  have hdl:d<q.ds.length:=aa
  obtain⟨dc,hdc⟩:∃dc,q.ds[d]? =some dc:=⟨_,Yi hdl⟩
  have hid:(cS p q ins).ids.getD sb.pl.toNat 0=dc.1:=by rw[hd,Int.toNat_natCast];show(q.ds.map (·.1)).getD d 0=dc.1;rw[List.getD_eq_getElem?_getD,Xd,hdc];all_goals rfl
  obtain⟨vm,hvm⟩:∃vm,vm=hU (cS p q ins) sb:=⟨_,rfl⟩
  have hvp:vm.2.pl=((d:Nat):Int):=by rw[hvm];exact hd
  rw[←hvm]at hnx hsc hgt2
  rw[←hsBe]
  refine go ?_
  refine d1_ rfl ((Ip hS hC hro hsB hd hdl).mono (K':=fun v H'=> v=vvV vm.1∧H'=_) (fun v H' h=> ⟨by rw[hvm];exact h.1,by rw[h.2,←hvm]⟩)) (k:=alc (k:=fun b4=>?_))
  refine gk (k:=wi_ (k:=fun h2=>?_) (m:=fun h2=>?_))
  ·have hhit:vm.1.1=true:=h2
   rw[if_pos hhit]at hnx
   rw[hnx]
   refine Ls m (fun st1 pc1=> ?_)
   refine Lr m (fun s1=> ?_)
   refine go ?_
   refine cX cI (as_ 0 (q:=mv) (k:=as_ 1 (q:=nck) (k:=as_ 2 (q:=fla) (k:=as_ 3 (q:=ldv) (k:=as_ 4 (q:=nck) (k:=as_ 5 (q:=fla) (k:=as_ 6 (q:=ldv) (k:=as_ 7 (q:=mv) (k:=as_ 8 (q:=nck) (k:=as_ 9 (q:=fla) (k:=?_)))))))))))
   refine cE 10 rfl rfl (a8) rfl (dz (evq ldv (congrArg (Value.int .i64) hvp))) (?_)
   refine cE 11 rfl rfl (a8) rfl (gQ (vs:= [_,_]) rfl (PX (a:=x.pt) hdc)) (?_)
   refine as_ 12 (q:=mv) (k:=as_ 13 (q:=exr) (k:=as_ 14 (q:=exr) (k:=as_ 15 (q:=asn) (k:=as_ 16 (q:=asn) (k:=az_ (k:=qn_ (ws_ (wr_ (e_ mv (k:=e_ fla (k:=e_ ldv (k:=e_ (bld [(0,_),(1,_)]) (k:=go ?_)))))))))))))
   refine gk (k:=rt_ Tryz.results28 (k:=?_))
   exact⟨_,cJ.trans (H':=Vr m (mV x s1 ⟨st1,vm.2.pl,pc1,vm.2.steps,vm.2.visits⟩)::Row s1 eVV st1::Cl cuZ (x.cs.zip vm.2.cs)::R) (hsb) (jB.trans (yA (y:=⟨st1,vm.2.pl,pc1,vm.2.steps,vm.2.visits⟩))),by show _=OS (some ((cS p q ins).ids.getD sb.pl.toNat 0,vm.1.2));rw[hid];all_goals rfl,rfl⟩
  have hhit:¬vm.1.1=true:=aO
  rw[if_neg hhit]at hnx
  refine go ?_
  refine ln_ ((vm.2,n)) (k:=?_)
  try dsimp only
  exact⟨aa,aa,hsc,hnx⟩
 have hy:(er (cS p q ins) sa).1=false:=bL
 rw[if_pos hy]at hnx
 rw[hnx]
 refine we_ (qe_ (le_ (bh_ (qn_ (ws_ (wr_ (e_ (bld []) (k:=gk (k:=rt_ Tryz.results28 (k:=?_))))))))))
 exact⟨_,hsb,rfl,rfl⟩
end
structure NrG where
 s1:SV
 s2:SV
 n:jT
def nrH (z:NrG):cG:= [Row z.s1 eI z.n.cs,Row z.s2 eI z.n.offs]
def nrV (z:NrG):NrV:=(z.s1,z.s2,z.n.slop)
theorem JA {l:List NrG}(z:NrG) {H:cG}:cJ (Row z.s1 eI z.n.cs::Row z.s2 eI z.n.offs::Cl nrH l::H) (Cl nrH (l++ [z])::H):=mX (f:=nrH) z
theorem JB {l:List NrG}(z:NrG) {u:SV}{H:cG}:cJ (Row z.s1 eI z.n.cs::Row z.s2 eI z.n.offs::Cl nrH l::Row u eNr (l.map nrV++ [nrV z])::H) (Cl nrH (l++ [z])::Row u eNr ((l++ [z]).map nrV)::H):=by
 rw[List.map_append];exact JA z
theorem BW {l:List NrG}{i:Nat}{z:NrG}{H:cG}(h:l[i]? =some z):cJ (Cl nrH l::H) (Row z.s1 eI z.n.cs::Row z.s2 eI z.n.offs::Cl nrH (l.take i)::Cl nrH (l.drop (i+1))::H):=mY (f:=nrH) h
theorem OB {H R:cG}{zs:List NrG}(hr:nd H (Cl nrH zs) R):zH H (zs.map nrV) (zs.map (·.n)):=
 ⟨an,fun i z n hz hn=> by
   rw[Xd]at hz hn
   cases hg:zs[i]? with
   |none=> rw[hg]at hz;cases hz
   |some g=>
    rw[hg]at hz hn
    cases hz;cases hn
    exact⟨dD (fm hr (BW hg)) (show Sl _ g.s1 eI g.n.cs from inferInstance),dD (fm hr (BW hg)) (show Sl _ g.s2 eI g.n.offs from inferInstance),rfl⟩⟩
instance gE.star {F H:cG}{a:PrA}{p:PrG} [h:gE F a p]:gE (fB F::H) a p:=h.less v8
theorem IK {G:cK}{H:cG}{a:PrA}{p:PrG} [hp:gE H a p] (hps:HS p) (hos:∀n∈p.nears,n.offs.length≤1000000000):SC G Tryz.prog 47 [.agg (prV a p.all).toArray] H (fun v H'=> ∃(a':PrA) (F:cG),gE F a' p∧v= .agg (prV a' p.all).toArray∧H'=fB F::H):=by
 have q1:=hps.a
 have q2:=hps.c
 have q3:=hps.n
 have q4:=hps.d
 have hnz:=hp.nr.1
 refine sWk Tryz.func47 Tryz.ntmps47 ?_
 refine gk (k:=bxx (k:=fun b1=>?_))
 refine alc (k:=fun b2=>?_)
 refine on_ (qn_ (ws_ (wr_ (e_ fla (k:=e_ ldv (k:=e_ (bld [(3,_)]) (k:=alc (k:=fun b3=>?_))))))))
 refine go ?_
 refine df cI (fun i=> [2,5,8,10,12,14].contains i) (fun k H=> (k=1→cQ H b1 (prV a p.all))∧(k=4→cQ H b1 (prV a p.all))∧(k=7→cQ H b1 (prV a p.all))) (af_ 0 (q:=cD fun H hH=>fla) (k:=?_))
 refine cE 1 rfl rfl (a8) rfl (cD fun H hH=>ak) (?_)
 refine af_ 3 (q:=cD fun H hH=>fla) (k:=?_)
 refine cE 4 rfl rfl (a8) rfl (cD fun H hH=>ar) (?_)
 refine af_ 6 (q:=cD fun H hH=>fla) (k:=?_)
 refine cE 7 rfl rfl (a8) rfl (cD fun H hH=>aZ) (?_)
 refine cN 2 rfl (a8) rfl (fun k hk=> ⟨fun hi=> ab,fun hi=> ab,fun hi=> ab⟩) (ig rfl rfl rfl rfl (aa) (aa)) ?_
 rintro _ _ ⟨s11,rfl,rfl⟩
 refine af_ 9 (q:=cD fun H hH=>fla) (k:=?_)
 refine cN 5 rfl (a8) rfl (fun k hk=> ⟨fun hi=> absurd hk (ad),fun hi=> ab,fun hi=> ab⟩) (ig rfl rfl rfl rfl (aa) (aa)) ?_
 rintro _ _ ⟨s14,rfl,rfl⟩
 refine cN 8 rfl (a8) rfl (fun k hk=> ⟨fun hi=> absurd hk (ad),fun hi=> absurd hk (ad),fun hi=> ab⟩) (ig rfl rfl rfl rfl (aa) (aa)) ?_
 rintro _ _ ⟨s17,rfl,rfl⟩
 refine cN 10 rfl (a8) rfl (fun k hk=> ⟨fun hi=> absurd hk (ad),fun hi=> absurd hk (ad),fun hi=> absurd hk (ad)⟩) (dM rfl rfl rfl) ?_
 rintro _ _ ⟨rfl,rfl⟩
 refine af_ 11 (q:=cD fun H hH=>fla) (k:=?_)
 refine cN 12 rfl (a8) rfl (fun k hk=> ⟨fun hi=> absurd hk (ad),fun hi=> absurd hk (ad),fun hi=> absurd hk (ad)⟩) (dM rfl rfl rfl) ?_
 rintro _ _ ⟨rfl,rfl⟩
 refine af_ 13 (q:=cD fun H hH=>fla) (k:=?_)
 refine cN 14 rfl (a8) rfl (fun k hk=> ⟨fun hi=> absurd hk (ad),fun hi=> absurd hk (ad),fun hi=> absurd hk (ad)⟩) (dM rfl rfl rfl) ?_
 rintro _ _ ⟨rfl,rfl⟩
 refine db (a8) (fun k hk=> ⟨fun hi=> absurd hk (ad),fun hi=> absurd hk (ad),fun hi=> absurd hk (ad)⟩) (qn_ (ws_ (ws_ (wr_ (?_)))))
 refine du (cJ.nilRow (e:=eNr) (fe (f:=nrH) cJ.refl)) ?_
 refine gk (k:=dt (Nat×SV×(List NrG)) (fun y=> y.1≤p.nears.length∧y.2.2.map (·.n)=p.nears.take y.1) (fun y=> [(24, .int .i64 ((y.1:Nat):Int))]) [(2,_),(3,_),(22,_),(23,_)] (fun y=> [Vr b3 [s11.val,s17.val,y.2.1.val, .bool p.all,s14.val, .slice none 0 0],Row y.2.1 eNr (y.2.2.map nrV),Cl nrH y.2.2]) _ (fun y=> p.nears.length - y.1) ((0,SV.nil, [])) (h0:=?_) (k:=?_))
 ·try dsimp only
  exact⟨Yl _,rfl⟩
 rintro⟨i,u,zs⟩ ⟨hi,hzs⟩
 try dsimp only[Yd,Ye]at*
 refine gk (k:=wi_ (k:=fun h1=>?_) (m:=fun h1=>?_))
 ·obtain⟨⟨z1,z2,z3⟩,n,hz,hn,hz1,hz2,hz3⟩:=hp.nr.get (i:=i) (aa)
  dsimp only at hz1 hz2 hz3
  subst hz3
  have hnm:=Yj hn
  have hns:=hps.ns n hnm
  have hno:=hos n hnm
  haveI:=hz1
  haveI:=hz2
  have hzl:(zs.map nrV).length≤1000000000:=bP
  refine wk_ (qn_ (ws_ (wb_ (ws_ (wr_ (e_ ixa (k:=e_ (jn (hy:=hz)) (k:=alc (k:=fun b5=>?_)))))))))
  refine go ?_
  refine df cI (fun i=> [4,7,11,12,14].contains i) (fun k H=> (k=1→cQ H b3 [s11.val,s17.val,u.val, .bool p.all,s14.val, .slice none 0 0])∧(k=3→cQ H b5 [z1.val,z2.val, .int .i64 n.slop])∧(k=6→cQ H b5 [z1.val,z2.val, .int .i64 n.slop])∧(k=9→cQ H b5 [z1.val,z2.val, .int .i64 n.slop])) (af_ 0 (q:=cD fun H hH=>fla) (k:=?_))
  refine cE 1 rfl rfl (a8) rfl (cD fun H hH=>ak) (?_)
  refine af_ 2 (q:=cD fun H hH=>fla) (k:=?_)
  refine cE 3 rfl rfl (a8) rfl (cD fun H hH=>ar) (?_)
  refine af_ 5 (q:=cD fun H hH=>fla) (k:=?_)
  refine cE 6 rfl rfl (a8) rfl (cD fun H hH=>aF) (?_)
  refine af_ 8 (q:=cD fun H hH=>fla) (k:=?_)
  refine cE 9 rfl rfl (a8) rfl (cD fun H hH=>by have hN:=hH.2.2.2 rfl;exact ldv) (?_)
  refine cN 4 rfl (a8) rfl (fun k hk=> ⟨fun hi=> ab,fun hi=> ab,fun hi=> ab,fun hi=> ab⟩) (ig rfl rfl rfl rfl (aa) (aa)) ?_
  rintro _ _ ⟨s32,rfl,rfl⟩
  refine cN 7 rfl (a8) rfl (fun k hk=> ⟨fun hi=> ab,fun hi=> absurd hk (ad),fun hi=> ab,fun hi=> ab⟩) (ig rfl rfl rfl rfl (aa) (aa)) ?_
  rintro _ _ ⟨s35,rfl,rfl⟩
  refine af_ 10 (q:=cD fun H hH=>bld [(0,_),(1,_),(2,_)]) (k:=?_)
  refine cN 11 rfl (a8) rfl (fun k hk=> ⟨fun hi=> ab,fun hi=> absurd hk (ad),fun hi=> absurd hk (ad),fun hi=> ab⟩) (ew eNr rfl rfl) ?_
  rintro _ _ ⟨s39,rfl,rfl⟩
  refine cN 12 rfl (a8) rfl (fun k hk=> ⟨fun hi=> ab,fun hi=> absurd hk (ad),fun hi=> absurd hk (ad),fun hi=> ab⟩) (eY rfl rfl rfl rfl (af) (af)) ?_
  rintro _ _ ⟨s40,rfl,rfl⟩
  refine af_ 13 (q:=cD fun H hH=>fla) (k:=?_)
  refine cN 14 rfl (a8) rfl (fun k hk=> ⟨fun hi=> absurd hk (ad),fun hi=> absurd hk (ad),fun hi=> absurd hk (ad),fun hi=> ab⟩) (dM rfl rfl rfl) ?_
  rintro _ _ ⟨rfl,rfl⟩
  refine db (a8) (fun k hk=> ⟨fun hi=> absurd hk (ad),fun hi=> absurd hk (ad),fun hi=> absurd hk (ad),fun hi=> absurd hk (ad)⟩) (bn_ (qn_ (wr_ (?_))))
  refine du (cJ.trans (H':=Row s32 eI n.cs::Row s35 eI n.offs::Cl nrH zs::Row s40 eNr (zs.map nrV++ [nrV ⟨s32,s35,n⟩])::Vr b3 [s11.val,s17.val,s40.val, .bool p.all,s14.val, .slice none 0 0]::Row s17 eLf p.curs::Row s14 eI p.drive::Row s11 eI p.avgs::Vr b2 [.slice none 0 0, .slice none 0 0, .slice none 0 0, .bool false, .slice none 0 0, .slice none 0 0]::Vr b1 (prV a p.all)::H) (hsb) (JB ⟨s32,s35,n⟩)) ?_
  refine go ?_
  refine ln_ ((i+1,s40,zs++ [(⟨s32,s35,n⟩:NrG)])) (k:=?_)
  try dsimp only
  exact⟨aa,by rw[List.map_append,hzs,cP hn];all_goals rfl⟩
 obtain rfl:i=p.nears.length:=aa
 rw[List.take_length]at hzs
 refine gk (k:=rt_ Tryz.results47 (k:=?_))
 refine⟨_,?_,⟨s11,s17,u,s14,SV.nil,zs.map nrV⟩, [Row s11 eI p.avgs,Row s17 eLf p.curs,Row u eNr (zs.map nrV),Row s14 eI p.drive,Cl nrH zs],⟨inferInstance,inferInstance,inferInstance,?_,inferInstance⟩,rfl,rfl⟩
 ·exact cJ.trans (H':=Row s11 eI p.avgs::Row s17 eLf p.curs::Row u eNr (zs.map nrV)::Row s14 eI p.drive::Cl nrH zs::H) (hsb) (cJ.star (F:= [Row s11 eI p.avgs,Row s17 eLf p.curs,Row u eNr (zs.map nrV),Row s14 eI p.drive,Cl nrH zs]) cJ.refl)
 ·have:=OB (zs:=zs) (H:= [Row s11 eI p.avgs,Row s17 eLf p.curs,Row u eNr (zs.map nrV),Row s14 eI p.drive,Cl nrH zs]) inferInstance
  rw[hzs]at this
  exact this
set_option synthInstance.maxHeartbeats 400000
set_option synthInstance.maxSize 4000
structure xj (p:PrG) (q:PtD) (T:Nat):Prop where
 sm:HS p
 seg:jF q.fs q.ds
 pt:Bj q
 tot:∀ps∈iQ p q,dg ps≤T
 near:∀n∈p.nears,n.cs.length*T≤1000000000000∧n.cs.length≤100000000
 cn:p.curs.length≤100000000
 os:∀n∈p.nears,n.offs.length≤1000000000
theorem FF {p:PrG}{q:PtD}(h:jF q.fs q.ds):∀ps∈iQ p q,fW 0 ps∧e8 ps∧dg ps≤100000000:=fun ps hps=> by
 obtain⟨c,_,rfl⟩:=List.mem_map.1 hps
 obtain⟨h1,h2,h3⟩:=lU (k:=c.1.toNat % 256::cF c.2) h.goodT
 have:=h.toks
 exact⟨h1,h2,Xi h3 (aa)⟩
theorem Fw {x:MX}{p:PrG}{q:PtD}{T:Nat}{ins:List Ins}(hk:xj p q T) (hn:nv p q= .ok ins) (ha:x.all=p.all) (hc:x.cs.length=p.curs.length):(∃tb,pz x p q (iQ p q) T ins tb)∧jO (cS p q ins) (iQ p q) (lh (iQ p q)):=by
 obtain⟨⟨tb,h1,h2⟩,h3,h4⟩:=JD hn
 obtain⟨t1,t2,t3,t4,t5⟩:=qG h2.tab
 have hl:(iQ p q).length=p.curs.length:=Yh ..
 obtain⟨d1,d2⟩:=x7 _ _ _ hk.sm.cb h4
 have d3:=Ct _ _ _ h4
 have hsk:=hk.sm.k
 have hcn:=hk.cn
 have hnn:=hk.sm.n
 refine⟨⟨tb,⟨⟨by rw[hc,hl],by rw[hl],fun c hc=> by have:=t3 c hc;rw[h3];omega,h3.symm,t2,by rw[hl];exact hcn,hk.pt,hk.tot,fun n hn=> ⟨t4 n hn,hk.near n hn⟩,hnn,fun z hz=> ⟨d3 z hz,d1 z hz⟩,aa⟩,h2,ha,hk.sm.d⟩⟩,?_⟩
 exact Fe (FF hk.seg)
abbrev cu0 (p:PrG) (q:PtD):List CuS:=(iQ p q).map fun ps=> ⟨ps,0,0,false⟩
theorem Kq {p:PrG}{q:PtD}{i:Nat}{fd:Nat}{ky:ByteArray}(h:p.curs[i]? =some (((fd:Nat):Int),ky)):(cu0 p q)[i]? =some ⟨qn q.fs q.ds fd ky,0,0,false⟩:=by
 rw[cu0,iQ,Xd,Xd,h];all_goals rfl
theorem E8 {bs:List Nat}{cs:List CuS}{b:Nat}{c:CuS}(h:bs.length=cs.length):(bs++ [b]).zip (cs++ [c])=bs.zip cs++ [(b,c)]:=by rw[List.zip_append h];all_goals rfl
theorem Kn {l:List (Nat×CuS)}(b:Nat) (c:CuS) {H:cG}:cJ (CuH b c::Cl cuZ l::H) (Cl cuZ (l++ [(b,c)])::H):=mX (f:=cuZ) (b,c)
theorem Kp {bs:List Nat}{cs:List CuS}{i b:Nat}{c:CuS}{u:SV}{H:cG}(hc:cs[i]? =some c) (hb:bs.length=i):cJ (CuH b c::Cl cuZ (bs.zip (cs.take i))::Row u ePt ((bs.map fun b=> (b,0))++ [(b,0)])::H) (Cl cuZ ((bs++ [b]).zip (cs.take (i+1)))::Row u ePt ((bs++ [b]).map fun b=> (b,0))::H):=by
 have:=(Yk.1 hc).1
 rw[cP hc,E8 (aA),List.map_append];exact Kn b c
theorem BB {G:cK}{H:cG}{a:PrA}{p:PrG}{pt:PtA}{q:PtD}{T:Nat} [hg:Glb G H] [hia:Isa H] [hp:gE H a p] [hpc:qA H a p] [hpt:dq H pt q] (hk:xj p q T):SC G Tryz.prog 22 [.agg (prV a p.all).toArray, .pointer (some ⟨pt.p,0,none⟩)] H (fun v H'=>
 (∃e:Nat,nv p q= .error e∧(e=20∨e=9)∧v= .tuple #[.pointer none,G.err e]∧H'=H)∨
 (∃(ins:List Ins) (m:Nat) (a':PrA) (sc u:SV) (bs:List Nat) (F:cG),nv p q= .ok ins∧bs.length=p.curs.length∧mb F ⟨a',p.all,sc,pt,u,bs⟩ p ins∧v= .tuple #[.pointer (some ⟨m,0,none⟩), .nilIface]∧H'=Ma m (⟨a',p.all,sc,pt,u,bs⟩,lh (iQ p q))::fB F::H)):=by
 have hps:=hk.sm
 have hcn:=hk.cn
 refine sWk Tryz.func22 Tryz.ntmps22 ?_
 refine gk (k:=bxx (k:=fun b2=>?_))
 refine go ?_
 refine c1_ rfl (Mf (a:=a) (p:=p) hps) (k:=?_)
 rintro _ _ ⟨(⟨hno,rfl⟩|⟨tb,n8,m8,htb,rfl⟩),rfl⟩
 ·have hN:nv p q= .error 20:=by rw[nv,hno]
  refine gk (k:=alc (k:=fun b6=>?_))
  refine sto (k:=e_ asn (k:=on_ (qn_ (ws_ (wr_ (e_ mv (k:=?_)))))))
  refine e_ (cZ rfl) (k:=?_)
  refine gk (k:=ift (k:=go ?_))
  refine cX cI (as_ 0 (q:=ldv) (k:=as_ 1 (q:=asn) (k:=as_ 2 (q:=asn) (k:=az_ (k:=gk (k:=rt_ Tryz.results22 (k:=?_)))))))
  exact⟨_,hsb, .inl ⟨20,hN, .inl rfl,rfl,rfl⟩⟩
 obtain⟨ins0,hgp⟩:=vX htb
 have hdc0:=hgp.dec
 refine gk (k:=alc (k:=fun b6=>?_))
 refine sto (k:=e_ asn (k:=on_ (qn_ (ws_ (wr_ (e_ mv (k:=?_)))))))
 refine e_ (cM rfl) (k:=?_)
 refine gk (k:=eg (k:=go ?_))
 refine df cI (fun i=> [4,6].contains i) (fun k H=> (k=3→cQ H pt.p [.pointer (some ⟨pt.g,0,none⟩), .pointer (some ⟨pt.d,0,none⟩)])∧(k=8→cQ H b2 (prV a p.all))∧(k=9→Sl H a.av eI p.avgs)) (af_ 0 (q:=cD fun H hH=>mv) (k:=af_ 1 (q:=cD fun H hH=>nck) (k:=af_ 2 (q:=cD fun H hH=>fla) (k:=?_))))
 refine cE 3 rfl rfl (a8) rfl (cD fun H hH=>ak) (?_)
 refine af_ 7 (q:=cD fun H hH=>fla) (k:=?_)
 refine cE 8 rfl rfl (a8) rfl (cD fun H hH=>ar) (?_)
 refine cE 9 rfl rfl (a8) rfl (cD fun H hH=>by have hN:=hH.2.2 rfl;exact lnn) (?_)
 refine cN 4 rfl (a8) rfl (fun k hk=> ⟨fun hi=> ab,fun hi=> ab,fun hi=> ab⟩) (cW (vs:= [_]) rfl (ES (a:=pt) hk.pt)) ?_
 rintro _ _ ⟨s23,rfl,rfl⟩
 refine cE 5 rfl rfl (a8) rfl (cD fun H hH=>gA (ft:=22) (off:=0) Tryz.underlying24 rfl rfl rfl) (?_)
 refine cN 6 rfl (a8) rfl (fun k hk=> ⟨fun hi=> absurd hk (ad),fun hi=> ab,fun hi=> ab⟩) (Ev.st lnn) ?_
 rintro _ _ ⟨rfl,rfl⟩
 refine af_ 10 (q:=cD fun H hH=>ine) (k:=db (a8) (fun k hk=> ⟨fun hi=> absurd hk (ad),fun hi=> ab,fun hi=> ab⟩) (gk (k:=wi_ (k:=fun h1=>?_) (m:=fun h1=>?_))))
 ·have hN:nv p q= .error 9:=by rw[nv,htb];simp only;rw[if_neg (az)]
  refine go ?_
  refine cX cI (as_ 0 (q:=ldv) (k:=as_ 1 (q:=asn) (k:=as_ 2 (q:=asn) (k:=az_ (k:=gk (k:=rt_ Tryz.results22 (k:=?_)))))))
  exact⟨_,hsb, .inl ⟨9,hN, .inr rfl,rfl,rfl⟩⟩
 have hN:nv p q= .ok ins0:=by rw[nv,htb,hdc0];simp only;rw[if_pos (az)]
 obtain⟨t1,t2,t3,t4,t5⟩:=qG hgp.tab
 have hfa:q.fs.length=p.avgs.length:=az
 refine go ?_
 refine c1_ rfl (IK (a:=a) (p:=p) hps hk.os) (k:=?_)
 rintro _ _ ⟨a',F1,hF1,rfl,rfl⟩
 haveI:=hF1
 refine go ?_
 refine d0_ rfl (xH) (k:=e_ (bld [(0,_),(2,_),(4,_),(6,_)]) (k:=bxx (k:=fun b36=>?_)))
 refine go ?_
 refine c1_ rfl (BF (xs:=p.code) hps.k hps.cb) (k:=?_)
 rintro _ _ (⟨hdn,rfl,rfl⟩|⟨sc,code,hdc,rfl,rfl⟩)
 ·rw[lr,hdn]at hdc0;cases hdc0
 obtain rfl:code=ins0:=by rw[lr,hdc]at hdc0;exact Option.some.inj hdc0
 refine e_ mv (k:=e_ exr (k:=e_ exr (k:=e_ nck (k:=e_ fla (k:=sto (k:=on_ (qn_ (ws_ (ws_ (wr_ (?_)))))))))))
 refine du (cJ.nilRow (e:=ePt) (fe (f:=cuZ) cJ.refl)) ?_
 refine gk (k:=dt (Nat×SV×(List Nat)) (fun y=> y.1≤p.curs.length∧y.2.2.length=y.1) (fun y=> [(52, .int .i64 ((y.1:Nat):Int))]) [(1,_),(8,_),(50,_),(51,_)] (fun y=> [Vr b36 (mV ⟨a',p.all,sc,pt,y.2.1,y.2.2⟩ SV.nil ⟨[], -1,0,0,0⟩),Row y.2.1 ePt (y.2.2.map fun b=> (b,0)),Cl cuZ (y.2.2.zip ((cu0 p q).take y.1))]) _ (fun y=> p.curs.length - y.1) ((0,SV.nil, [])) (h0:=?_) (k:=?_))
 ·try dsimp only
  exact⟨Yl _,rfl⟩
 rintro⟨i,u,bs⟩ ⟨hi,hbs⟩
 try dsimp only[Yd,Ye]at*
 refine gk (k:=wi_ (k:=fun h2=>?_) (m:=fun h2=>?_))
 ·obtain⟨⟨fd0,ky⟩,hfk⟩:∃z,p.curs[i]? =some z:=⟨_,Yi (aa)⟩
  obtain⟨hf1,hf2,hf3⟩:=t3 _ (Yj hfk)
  simp only at hf1 hf2 hf3
  obtain⟨fd,rfl⟩:∃n:Nat,fd0=((n:Nat):Int):=⟨fd0.toNat,aa⟩
  have hc0:=Kq (q:=q) hfk
  have hbl:(bs.map fun b=> ((b,0):Nat×Nat)).length=i:=by rw[Yh,hbs]
  refine wk_ (qn_ (ws_ (wb_ (ws_ (wr_ (e_ ixa (k:=e_ (jn (hy:=hfk)) (k:=alc (k:=fun b10=>?_)))))))))
  refine go ?_
  refine df cI (fun i=> [13,14,15,18].contains i) (fun k H=> (k=4→cQ H b36 (mV ⟨a',p.all,sc,pt,u,bs⟩ SV.nil ⟨[], -1,0,0,0⟩))∧(k=8→cQ H pt.p [.pointer (some ⟨pt.g,0,none⟩), .pointer (some ⟨pt.d,0,none⟩)])∧(k=10→cQ H b10 [.int .i64 ((fd:Nat):Int), .string ky])∧(k=12→cQ H b10 [.int .i64 ((fd:Nat):Int), .string ky])) (af_ 0 (q:=cD fun H hH=>mv) (k:=af_ 1 (q:=cD fun H hH=>mv) (k:=af_ 2 (q:=cD fun H hH=>nck) (k:=af_ 3 (q:=cD fun H hH=>fla) (k:=?_)))))
  refine cE 4 rfl rfl (a8) rfl (cD fun H hH=>ak) (?_)
  refine af_ 5 (q:=cD fun H hH=>mv) (k:=af_ 6 (q:=cD fun H hH=>nck) (k:=af_ 7 (q:=cD fun H hH=>fla) (k:=?_)))
  refine cE 8 rfl rfl (a8) rfl (cD fun H hH=>ar) (?_)
  refine af_ 9 (q:=cD fun H hH=>fla) (k:=?_)
  refine cE 10 rfl rfl (a8) rfl (cD fun H hH=>aF) (?_)
  refine af_ 11 (q:=cD fun H hH=>fla) (k:=?_)
  refine cE 12 rfl rfl (a8) rfl (cD fun H hH=>by have hN:=hH.2.2.2 rfl;exact ldv) (?_)
  refine cN 13 rfl (a8) rfl (fun k hk=> ⟨fun hi=> ab,fun hi=> ab,fun hi=> ab,fun hi=> ab⟩) (cW (vs:= [_,_,_]) rfl (II (a:=pt) hk.seg (aa) (aa))) ?_
  rintro _ _ ⟨b69,rfl,rfl⟩
  refine cN 14 rfl (a8) rfl (fun k hk=> ⟨fun hi=> ab,fun hi=> absurd hk (ad),fun hi=> absurd hk (ad),fun hi=> absurd hk (ad)⟩) (ew ePt rfl rfl) ?_
  rintro _ _ ⟨s70,rfl,rfl⟩
  refine cN 15 rfl (a8) rfl (fun k hk=> ⟨fun hi=> ab,fun hi=> absurd hk (ad),fun hi=> absurd hk (ad),fun hi=> absurd hk (ad)⟩) (eY rfl rfl rfl rfl (af) (af)) ?_
  rintro _ _ ⟨s71,rfl,rfl⟩
  refine af_ 16 (q:=cD fun H hH=>nck) (k:=af_ 17 (q:=cD fun H hH=>fla) (k:=?_))
  refine cN 18 rfl (a8) rfl (fun k hk=> ⟨fun hi=> absurd hk (ad),fun hi=> absurd hk (ad),fun hi=> absurd hk (ad),fun hi=> absurd hk (ad)⟩) (dM rfl rfl rfl) ?_
  rintro _ _ ⟨rfl,rfl⟩
  refine db (a8) (fun k hk=> ⟨fun hi=> absurd hk (ad),fun hi=> absurd hk (ad),fun hi=> absurd hk (ad),fun hi=> absurd hk (ad)⟩) (bn_ (qn_ (wr_ (?_))))
  refine du (cJ.trans (H':=CuH b69 ⟨qn q.fs q.ds fd ky,0,0,false⟩::Cl cuZ (bs.zip ((cu0 p q).take i))::Row s71 ePt ((bs.map fun b=> (b,0))++ [(b69,0)])::Vr b36 (mV ⟨a',p.all,sc,pt,s71,bs++ [b69]⟩ SV.nil ⟨[], -1,0,0,0⟩)::Row sc oE code::fB F1::Row s23 eF q.fs::Vr b6 [.int .i64 n8, .int .i64 m8]::Vr b2 (prV a p.all)::H) (hsb) (Kp hc0 hbs)) ?_
  refine go ?_
  refine ln_ ((i+1,s71,bs++ [b69])) (k:=?_)
  try dsimp only
  exact⟨aa,by rw[Ya,hbs];all_goals rfl⟩
 obtain rfl:i=p.curs.length:=aa
 refine gk (k:=rt_ Tryz.results22 (k:=?_))
 have ht:(cu0 p q).take p.curs.length=cu0 p q:=List.take_of_length_le (by rw[cu0,iQ,Yh,Yh];exact Nat.le_refl _)
 refine⟨_,?_, .inr ⟨code,b36,a',sc,u,bs, [Row u ePt (bs.map fun b=> (b,0)),Row sc oE code,fB F1],hN,hbs,⟨inferInstance,inferInstance,inferInstance⟩,rfl,rfl⟩⟩
 exact(cJ.nilRow (e:=eVV) cJ.refl).trans (cJ.trans (H':=Vr b36 (mV ⟨a',p.all,sc,pt,u,bs⟩ SV.nil ⟨[], -1,0,0,0⟩)::Row SV.nil eVV []::Cl cuZ (bs.zip (cu0 p q))::Row u ePt (bs.map fun b=> (b,0))::Row sc oE code::fB F1::H) (by rw[ht];exact hsb) ((jB (x:=⟨a',p.all,sc,pt,u,bs⟩) (y:=⟨[], -1,0,0,0⟩)).trans ((yA (x:=⟨a',p.all,sc,pt,u,bs⟩) (y:=⟨[], -1,0,0,0⟩) (cs:=cu0 p q)).trans (cJ.keep (cJ.star (F:= [Row u ePt (bs.map fun b=> (b,0)),Row sc oE code,fB F1]) cJ.refl)))))
abbrev Mt:Value:= .agg [.slice none 0 0, .int .i64 0, .int .i64 0, .int .i64 0].toArray
abbrev Ol (sh:SV) (s:MS):Value:= .agg [sh.val, .int .i64 ((s.steps:Nat):Int), .int .i64 ((kX s:Nat):Int), .int .i64 ((s.visits:Nat):Int)].toArray
abbrev dK (p:PrG) (q:PtD) (ins:List Ins):List Hit×MS:=Fx (cS p q ins) (lh (iQ p q))
section
variable {G:cK}{H R:cG}{m T:Nat}{x:MX}{s:MS}{p:PrG}{q:PtD}{ins:List Ins}{pss:List (List Po)}{tb:Hs}
theorem LP [hr:Rem H Ma m (x,s) R] [hg:Glb G R] [hpt:dq R x.pt q] [hmf:mb R x p ins] (hS:jS) (hC:fg) (hro:pz x p q pss T ins tb) (hms:jO (cS p q ins) pss s):SC G Tryz.prog 28 [.pointer (some ⟨m,0,none⟩)] H (fun v H'=> ((∃h:Hit,(dV (cS p q ins) s).1=some h∧v= .tuple #[.agg [.int .i64 h.1, .int .u64 ((h.2:Nat):Int)].toArray, .bool true])∨((dV (cS p q ins) s).1=none∧v= .tuple #[.agg [.int .i64 0, .int .u64 0].toArray, .bool false]))∧H'=Ma m (x,(dV (cS p q ins) s).2)::R):=
 (A2 hS hC hro hms).mono fun v H' h=> ⟨by
   rw[h.1]
   cases(dV (cS p q ins) s).1 with
   |none=> exact .inr ⟨rfl,rfl⟩
   |some z=> exact .inl ⟨z,rfl,rfl⟩,h.2⟩
end
theorem Iw {G:cK}{H:cG}{a:PrA}{p:PrG}{pt:PtA}{q:PtD}{T:Nat}{fu:Int} [hg:Glb G H] [hia:Isa H] [hp:gE H a p] [hpc:qA H a p] [hpt:dq H pt q] (hS:jS) (hC:fg) (hk:xj p q T):SC G Tryz.prog 9 [.agg (prV a p.all).toArray, .pointer (some ⟨pt.p,0,none⟩), .int .i64 fu] H (fun v H'=>
 (∃e:Nat,nv p q= .error e∧(e=20∨e=9)∧v= .tuple #[Mt,G.err e]∧H'=H)∨
 (∃ins:List Ins,nv p q= .ok ins∧((fu.toNat<(dK p q ins).2.steps∧v= .tuple #[Mt,G.err 21]∧H'=H)∨((dK p q ins).2.steps≤fu.toNat∧∃sh:SV,v= .tuple #[Ol sh (dK p q ins).2, .nilIface]∧H'=Row sh rb (dK p q ins).1::H)))):=by
 refine sWk Tryz.func9 Tryz.ntmps9 ?_
 refine gk (k:=bxx (k:=fun b3=>?_))
 refine alc (k:=fun b6=>?_)
 refine go ?_
 refine c2_ rfl (BB (a:=a) (pt:=pt) hk) (k:=?_)
 rintro _ _ (⟨e,hne,he,rfl,rfl⟩|⟨ins,m,a',sc,u,bs,F,hnw,hbl,hmf,rfl,rfl⟩)
 ·refine e_ mv (k:=e_ exr (k:=e_ exr (k:=e_ asn (k:=e_ asn (k:=on_ (qn_ (ws_ (ws_ (wr_ (e_ mv (k:=?_)))))))))))
  refine e_ (cZ rfl) (k:=?_)
  refine gk (k:=ift (k:=ws_ (wr_ (e_ (bld []) (k:=gk (k:=rt_ Tryz.results9 (k:=?_)))))))
  exact⟨_,hsb, .inl ⟨e,hne,he,rfl,rfl⟩⟩
 haveI:=hmf
 obtain⟨⟨tb,hro⟩,hms0⟩:=Fw (x:=⟨a',p.all,sc,pt,u,bs⟩) hk hnw rfl hbl
 obtain⟨R0,hR0⟩:∃R0,R0=dK p q ins:=⟨_,rfl⟩
 refine e_ mv (k:=e_ exr (k:=e_ exr (k:=e_ asn (k:=e_ asn (k:=on_ (qn_ (ws_ (ws_ (wr_ (e_ mv (k:=?_)))))))))))
 refine e_ (cM rfl) (k:=?_)
 refine gk (k:=eg (k:=go ?_))
 refine du (cJ.nilRow (e:=rb) cJ.refl) ?_
 refine e_ (bld []) (k:=alc (k:=fun b10=>?_))
 refine gk (k:=dt (MS×Nat×(List Hit)×SV×Int×Int×Int) (fun y=> uE (cS p q ins) y.2.1 y.1∧jO (cS p q ins) (iQ p q) y.1∧R0=(y.2.2.1++(kS (cS p q ins) y.2.1 y.1).1,(kS (cS p q ins) y.2.1 y.1).2)∧((y.2.2.1.length:Nat):Int)≤y.1.pl+1) (fun y=> []) [(2,_),(6,_),(8,_),(10,_)] (fun y=> [Ma m (⟨a',p.all,sc,pt,u,bs⟩,y.1),Row y.2.2.2.1 rb y.2.2.1,Vr b10 [y.2.2.2.1.val, .int .i64 y.2.2.2.2.1, .int .i64 y.2.2.2.2.2.1, .int .i64 y.2.2.2.2.2.2]]) _ (fun y=> y.2.1) ((lh (iQ p q),(cS p q ins).ids.length+1, [],SV.nil,0,0,0)) (h0:=?_) (k:=?_))
 ·try dsimp only
  exact⟨pA hms0.lo,hms0,hR0,by show(0:Int)≤ -1+1;decide⟩
 rintro⟨sa,f,out,sh,k1,k2,k3⟩ ⟨hlf,hsa,hrun,hol⟩
 try dsimp only[Yd,Ye]at*
 obtain⟨f9,rfl⟩:∃g,f=g+1:=⟨f - 1,by have:=hlf.one;omega⟩
 obtain⟨hsB,hsm⟩:=tJ hro.dr hro.few hsa
 have hhi:=hsa.hi
 obtain⟨h6,h7⟩:=tL hro hsB
 refine go ?_
 refine c1_ rfl (LP hS hC hro hsa) (k:=?_)
 rintro _ _ ⟨(⟨hh,hnx,rfl⟩|⟨hnx,rfl⟩),rfl⟩
 ·rw[HH hnx]at hrun
  have hst:=(xf hro.dr hro.few f9 _ hsB).2
  have hle:(dV (cS p q ins) sa).2.steps≤R0.2.steps:=by rw[hrun];exact hst
  have hlf2:=hlf.next hro.dr hro.few hsa hnx
  have hpl:=(qd hro.dr hro.few ((cS p q ins).ids.length+1) sa hsa).2.2.2 (by intro h9;rw[show(qU (cS p q ins) ((cS p q ins).ids.length+1) sa).1=(dV (cS p q ins) sa).1 from rfl,hnx]at h9;cases h9)
  have hpl2:sa.pl<(dV (cS p q ins) sa).2.pl:=hpl.1
  refine gk (k:=alc (k:=fun b11=>?_))
  refine go ?_
  refine d1_ rfl (pI hro hsB) (k:=e_ mv (k:=e_ exr (k:=e_ exr (k:=e_ exr (k:=e_ fla (k:=sto (k:=e_ fla (k:=sto (k:=e_ fla (k:=sto (k:=on_ (qn_ (ws_ (?_))))))))))))))
  refine ws_ (wr_ (e_ fla (k:=e_ ldv (k:=e_ mv (k:=?_)))))
  refine e_ (mO rfl rfl) (k:=?_)
  refine gk (k:=wi_ (k:=fun h1=>?_) (m:=fun h1=>?_))
  ·have hlt:fu.toNat<R0.2.steps:=by have h9:=h1;omega
   rw[hR0]at hlt
   refine go ?_
   refine df cI (fun i=> [2].contains i) (fun k H=> (k=1→cQ H 0 [G.err 21])) (af_ 0 (q:=cD fun H hH=>bld []) (k:=?_))
   refine cE 1 rfl rfl (a8) rfl (cD fun H hH=>bA) (?_)
   refine cN 2 rfl (a8) rfl (fun k hk=> fun hi=> ab) (dM rfl rfl rfl) ?_
   rintro _ _ ⟨rfl,rfl⟩
   refine af_ 3 (q:=cD fun H hH=>asn) (k:=db (a8) (fun k hk=> fun hi=> ab) (gk (k:=rt_ Tryz.results9 (k:=?_))))
   exact⟨_,hsb, .inr ⟨ins,hnw, .inl ⟨hlt,rfl,rfl⟩⟩⟩
  have hge:(dV (cS p q ins) sa).2.steps≤fu.toNat:=az
  refine gk (k:=eg (k:=go ?_))
  refine gk (k:=gz rb (k:=fun s51=>?_))
  refine app (k:=fun s52=>?_)
  refine go ?_
  refine ln_ (((dV (cS p q ins) sa).2,f9,out++ [hh],s52,(((dV (cS p q ins) sa).2.steps:Nat):Int),((kX (dV (cS p q ins) sa).2:Nat):Int),(((dV (cS p q ins) sa).2.visits:Nat):Int))) (k:=?_)
  try dsimp only
  exact⟨hlf2,hsB,by rw[hrun,Yf];all_goals rfl,by rw[Ya];show((out.length+1:Nat):Int)≤_;omega⟩
 rw[HI hnx]at hrun
 have hle:(dV (cS p q ins) sa).2.steps≤R0.2.steps:=by rw[hrun];exact Nat.le_refl _
 refine gk (k:=alc (k:=fun b11=>?_))
 refine go ?_
 refine d1_ rfl (pI hro hsB) (k:=e_ mv (k:=e_ exr (k:=e_ exr (k:=e_ exr (k:=e_ fla (k:=sto (k:=e_ fla (k:=sto (k:=e_ fla (k:=sto (k:=on_ (qn_ (ws_ (?_))))))))))))))
 refine ws_ (wr_ (e_ fla (k:=e_ ldv (k:=e_ mv (k:=?_)))))
 refine e_ (mO rfl rfl) (k:=?_)
 refine gk (k:=wi_ (k:=fun h2=>?_) (m:=fun h2=>?_))
 ·have hlt:fu.toNat<R0.2.steps:=by have h9:=h2;omega
  rw[hR0]at hlt
  refine go ?_
  refine df cI (fun i=> [2].contains i) (fun k H=> (k=1→cQ H 0 [G.err 21])) (af_ 0 (q:=cD fun H hH=>bld []) (k:=?_))
  refine cE 1 rfl rfl (a8) rfl (cD fun H hH=>bA) (?_)
  refine cN 2 rfl (a8) rfl (fun k hk=> fun hi=> ab) (dM rfl rfl rfl) ?_
  rintro _ _ ⟨rfl,rfl⟩
  refine af_ 3 (q:=cD fun H hH=>asn) (k:=db (a8) (fun k hk=> fun hi=> ab) (gk (k:=rt_ Tryz.results9 (k:=?_))))
  exact⟨_,hsb, .inr ⟨ins,hnw, .inl ⟨hlt,rfl,rfl⟩⟩⟩
 have hge:(dV (cS p q ins) sa).2.steps≤fu.toNat:=aQ
 refine gk (k:=ift (k:=go ?_))
 refine gk (k:=rt_ Tryz.results9 (k:=?_))
 refine⟨_,?_, .inr ⟨ins,hnw, .inr ⟨?_,sh,?_,rfl⟩⟩⟩
 ·rw[←hR0,hrun,Ym];exact hsb
 ·rw[←hR0,hrun];exact hge
 ·rw[←hR0,hrun];all_goals rfl
theorem Dn:(Tryz.prog.fieldsOf 56).toList= [{name:= "Id",type:=3,offset:=0,embedded:=false,tag:= "",pkgPath:= "",byteOffset:=0},
 {name:= "Score",type:=54,offset:=1,embedded:=false,tag:= "",pkgPath:= "",byteOffset:=8}]:=by
 rw[Program.fieldsOf,Tryz.underlying56]
theorem Nj:Tryz.prog.underlying 56=some (.struct (Tryz.prog.fieldsOf 56)):=by
 rw[Program.fieldsOf,Tryz.underlying56]
theorem JP:Tryz.prog.stoodInHeld 56=false:=a8
theorem yI:Tryz.prog.eqGuardType Tryz.prog.depth 56=false:=a8
theorem yH {P:Program}{T:TypeId} [One P T] {xs:Array Value}{o:Nat}{v:Value}(h:xs[o]? =some v) (w:World):(part T xs o).run P w= .ok v w:=by
 simp only[part,Sem.run_bind,fT,Result.andThen_ok,Bool.false_eq_true,↓reduceIte,h,Sem.run_pure]
theorem tu (a b:Hit) (w:World):(Op.equalIn 10000 56 (.agg [.int .i64 a.1, .int .u64 ((a.2:Nat):Int)].toArray) (.agg [.int .i64 b.1, .int .u64 ((b.2:Nat):Int)].toArray)).run Tryz.prog w= .ok (decide (a=b)) w:=by
 rw[run_equalIn_struct w 9999 56 _ _ Nj JP,Dn]
 have n1:("Id" :String)≠ "_" :=ag
 have n2:("Score" :String)≠ "_" :=ag
 have q0:∀(x0 x1:Value) (w:World),(part 3 [x0,x1].toArray 0).run Tryz.prog w= .ok x0 w:=fun _ _ w=> yH rfl w
 have q1:∀(x0 x1:Value) (w:World),(part 54 [x0,x1].toArray 1).run Tryz.prog w= .ok x1 w:=fun _ _ w=> yH rfl w
 have e1:=fun w=> run_equalIn_int (P:=Tryz.prog) w 9998 3 .i64 .i64 a.1 b.1 Tryz.underlying3
 have e2:=fun w=> run_equalIn_int (P:=Tryz.prog) w 9998 54 .u64 .u64 ((a.2:Nat):Int) ((b.2:Nat):Int) Tryz.underlying54
 simp only[Op.eqFields,n1,n2,ne_eq,not_false_eq_true,↓reduceIte,Sem.run_bind,q0,Result.andThen_ok,e1]
 obtain⟨ia,sa⟩:=a
 obtain⟨ib,sb⟩:=b
 simp only[Prod.mk.injEq]
 by_cases h1:ia=ib
 ·subst h1
  simp only[beq_self_eq_true,Bool.not_true,Bool.false_eq_true,↓reduceIte,Sem.run_bind,q1,Result.andThen_ok,e2,true_and]
  by_cases h2:sa=sb
  ·subst h2
   simp only[beq_self_eq_true,Bool.not_true,Bool.false_eq_true,↓reduceIte,Sem.run_pure,decide_true]
  ·have h6:(((sa:Nat):Int)==((sb:Nat):Int))=false:=beq_false_of_ne (aa)
   simp only[h6,Bool.not_false,↓reduceIte,Sem.run_pure,Yr h2]
 ·have h6:(ia==ib)=false:=by simpa using h1
  simp only[h6,Bool.not_false,↓reduceIte,Sem.run_pure]
  rw[Yr (fun h=> h1 h.1)]
section
variable {G:cK}{t:Tm}{H:cG}{dst:Option Tmp}{ty:TypeId}{pos:String}{after:Array Edge}{g:Option (Nat×Bool)}
theorem ph {U:TypeId}{x y:Operand}(a b:Hit) (hx:evo t x=some (.agg [.int .i64 a.1, .int .u64 ((a.2:Nat):Int)].toArray)) (hy:evo t y=some (.agg [.int .i64 b.1, .int .u64 ((b.2:Nat):Int)].toArray)):
 Ev G Tryz.prog ⟨dst, .binOp .neq 56 x y U,ty,pos,after,g⟩ t H (.bool (!decide (a=b))):=
 fun ρ hρ w _=> by
  simp only[execOp,hρ _ _ hx,hρ _ _ hy,Sem.run_bind,run_eqGuard_agg w .neq 56 x y _ _ yI,Result.andThen_ok,run_neq_struct,tu,Sem.run_pure]
end
theorem LI {G:cK}{H:cG}{s s2:SV}{xs ys:List Hit} [Sl H s rb xs] [Sl H s2 rb ys] (hn:xs.length≤1000000000000):SC G Tryz.prog 20 [s.val,s2.val] H (fun v H'=> v= .bool (decide (xs=ys))∧H'=H):=by
 refine sWk Tryz.func20 Tryz.ntmps20 ?_
 refine go ?_
 refine gk (k:=wi_ (k:=fun h1=>?_) (m:=fun h1=>?_))
 ·have hne:¬xs=ys:=by rintro rfl;have h9:=h1;omega
  refine gk (k:=rt_ Tryz.results20 (k:=?_))
  exact⟨_,hsb,by rw[Yr hne];all_goals rfl,rfl⟩
 have hl:xs.length=ys.length:=az
 refine gk (k:=dt (Nat) (fun y=> y≤xs.length∧∀j,j<y→xs[j]? =ys[j]?) (fun y=> [(13, .int .i64 ((y:Nat):Int))]) [(0,_),(1,_),(12,_)] (fun y=> []) _ (fun y=> xs.length - y) (0) (h0:=?_) (k:=?_))
 ·try dsimp only
  exact⟨Yl _,fun j h=> absurd h (Nat.not_lt_zero _)⟩
 rintro i ⟨hi,hall⟩
 try dsimp only[Yd,Ye]at*
 refine gk (k:=wi_ (k:=fun h2=>?_) (m:=fun h2=>?_))
 ·obtain⟨x,hx⟩:∃x,xs[i]? =some x:=⟨_,Yi (aa)⟩
  obtain⟨y9,hy⟩:∃x,ys[i]? =some x:=⟨_,Yi (aa)⟩
  refine go ?_
  refine cX cI (as_ 0 (q:=mv) (k:=as_ 1 (q:=mv) (k:=as_ 2 (q:=ixa) (k:=as_ 3 (q:=jn (hy:=hx)) (k:=as_ 4 (q:=mv) (k:=as_ 5 (q:=mv) (k:=as_ 6 (q:=ixa) (k:=as_ 7 (q:=jn (hy:=hy)) (k:=?_)))))))))
  refine cE 8 rfl rfl (a8) rfl (dz (ph x y9 rfl rfl)) (?_)
  refine az_ (k:=gk (k:=wi_ (k:=fun h3=>?_) (m:=fun h3=>?_)))
  ·have hne:¬xs=ys:=by rintro rfl;rw[hx]at hy;cases hy;have h9:=h3;simp at h9
   refine gk (k:=rt_ Tryz.results20 (k:=?_))
   exact⟨_,hsb,by rw[Yr hne];all_goals rfl,rfl⟩
  have heq:x=y9:=by have h9:=h3;simpa using h9
  refine go ?_
  refine ln_ (i+1) (k:=?_)
  try dsimp only
  refine⟨aa,fun j hj=> ?_⟩
  rcases Nat.lt_or_eq_of_le (Nat.le_of_lt_succ hj)with h|rfl
  ·exact hall j h
  ·rw[hx,hy,heq]
 obtain rfl:i=xs.length:=aa
 have heq:xs=ys:=List.ext_getElem? fun j=> by
  by_cases hj:j<xs.length
  ·exact hall j hj
  ·rw[List.getElem?_eq_none (aa),List.getElem?_eq_none (aa)]
 refine gk (k:=rt_ Tryz.results20 (k:=?_))
 exact⟨_,hsb,by rw[Ys heq];all_goals rfl,rfl⟩
theorem By {G:cK}{H:cG}{s s2:SV}{xs ys:List Hit}{a b c d e f:Int} [Sl H s rb xs] [Sl H s2 rb ys] (hn:xs.length≤1000000000000):SC G Tryz.prog 11 [.agg [s.val, .int .i64 a, .int .i64 b, .int .i64 c].toArray, .agg [s2.val, .int .i64 d, .int .i64 e, .int .i64 f].toArray] H (fun v H'=> v= .bool (decide (a=d) && decide (b=e) && decide (c=f) && decide (xs=ys))∧H'=H):=by
 refine sWk Tryz.func11 Tryz.ntmps11 ?_
 refine gk (k:=bxx (k:=fun b2=>?_))
 refine bxx (k:=fun b3=>?_)
 refine gk (k:=dh 6 16 (k:=fun h1=>gk (k:=edq)) (q:=gk (k:=dh 6 23 (k:=fun h2=>gk (k:=edq)) (q:=?_))))
 refine gk (k:=dh 6 30 (k:=fun h3=>gk (k:=kK (vs:=[_,_]) (hc:=(LI hn)) (k:=gk (k:=edq)))) (q:=gk (k:=rt_ Tryz.results11 (k:=?_))))
 exact⟨_,hsb,rfl,rfl⟩
abbrev fxF:List FV:= [⟨⟨#[116]⟩,1,false,false,false⟩]
abbrev fxD:List Doc:= [(0, [(⟨#[116]⟩,⟨#[97,32,97,32,98]⟩)]),(1, [(⟨#[116]⟩,⟨#[98]⟩)]),(2, [(⟨#[116]⟩,⟨#[97]⟩)])]
abbrev fxP:PrG:=⟨[1], [(0,⟨#[97]⟩)], [],false, [0], [4,0,1,0]⟩
abbrev fxQ:PtD:=⟨fxF,fxD, [0]⟩
abbrev fxI:List Ins:= [(4,0,1),(0,0,0)]
theorem AT:oF fxF fxD=0:=ay
theorem wL:nv fxP fxQ= .ok fxI:=by
 have h1:(gD fxP).isSome=true:=ay
 have h2:lr fxP=some fxI:=ay
 obtain⟨tb,h3⟩:=Option.isSome_iff_exists.1 h1
 rw[nv,h3,h2];all_goals rfl
def fxR:List Hit×MS:=Fx (cS fxP fxQ fxI) (lh (iQ fxP fxQ))
theorem Np:fxR.1= [(0,409),(2,465)]∧fxR.2.steps=4∧kX fxR.2=3∧fxR.2.visits=2:=ay
end Go.Sx
