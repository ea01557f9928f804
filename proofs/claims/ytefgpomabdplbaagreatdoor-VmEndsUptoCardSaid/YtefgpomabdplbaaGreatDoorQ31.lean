import Derived.Test.YtefgpomabdplbaaGreatDoorQ30
import Derived.Recover
set_option linter.unusedVariables false
set_option linter.unusedSimpArgs false
set_option linter.unusedSectionVars false
set_option linter.unnecessarySimpa false
set_option maxHeartbeats 0
namespace Go.Sx
open Go Go.Proofs
set_option maxRecDepth 100000
theorem Q5 {G:cK}{P:Program}{t:Tm}{H:cG}{dst:Option Tmp}{ty:TypeId}{pos:String}{after:Array Edge}{g:Option (Nat×Bool)}{T U:TypeId}{x y:Operand}{a b:ByteArray}(hx:evo t x=some (.string a):=by exact rfl) (hy:evo t y=some (.string b):=by exact rfl):Ev G P ⟨dst, .binOp .gtr T x y U,ty,pos,after,g⟩ t H (.bool (decide (cF b<cF a))):=
 fun ρ hρ w _=> by
  have e:(!(Op.bytesLess a.toList b.toList ||a.toList==b.toList))=decide (cF b<cF a):=by
   rw[kN,xd,Bool.eq_iff_iff]
   simp only[Bool.not_eq_true',Bool.or_eq_false_iff,decide_eq_false_iff_not,decide_eq_true_eq]
   rw[←not_or,←List.le_iff_lt_or_eq,List.not_le]
  simp only[execOp,hρ _ _ hx,hρ _ _ hy,eqGuard,binOp_string_gtr,e]
  rfl
theorem BD {G:cK}{H R:cG}{b k:Nat}{xs:List Nat} [hr:Rem H Rd b (xs,k) R] (hk:k≤xs.length) (hn:xs.length≤1000000000000):SC G Tryz.prog 39 [.pointer (some ⟨b,0,none⟩)] H (fun v H'=> v= .int .i64 ((xs.length - k:Nat):Int)∧H'=Rd b (xs,k)::R):=
 SC.out (ya hr fun s=> SC.mono (left (k:=(k:Int)) (n:=(xs.length:Int)) (r:= [s.val]) (aa)) fun v H' ⟨h1,h2⟩=> ⟨Rd b (xs,k)::R,by rw[h2];exact hsb,by rw[h1];exact congrArg (Value.int .i64) (aa),rfl⟩)
theorem A4 {G:cK}{H R:cG}{b:Nat}{l:List En} [hg:Glb G R] [hr:Rem H Rd b (fA l,0) R] (hok:rV l) (hl:l.length≤100000000) (hn:(fA l).length≤1000000000):SC G Tryz.prog 158 [.pointer (some ⟨b,0,none⟩)] H (fun v H'=> ∃s:SV,v=s.val∧H'=Row s eEn l::R):=by
 have hb:=zj l
 have hge:=Ht l
 have hend:=DM l
 have hbk:16*eQ l≤l.length+15∧l.length≤16*eQ l:=cq
 obtain⟨xs,hxs⟩:∃xs,xs=fA l:=⟨_,rfl⟩
 rw[←hxs]at hb hge hend hn
 obtain⟨A,hA⟩:∃A,A=(uv l.length).length:=⟨_,rfl⟩
 obtain⟨B,hB⟩:∃B,B=eQ l:=⟨_,rfl⟩
 obtain⟨Z,hZ⟩:∃Z,Z=A+(dn l B).1.length:=⟨_,rfl⟩
 rw[←hB]at hbk hend
 have h0:fG (xs.length - 0) (xs.drop 0)= .ok (l.length,A):=by
  rw[List.drop_zero,Nat.sub_zero,hxs,fA,Yf,hA]
  exact ey _ (aa) (by rw[←Yf,←fA,←hxs];omega)
 have hD1:∀j,j<B→(dn l j).1.length≤(dn l B).1.length:=fun j hj=> by
  obtain⟨r,r',h1,_⟩:=j7 l j B (aa)
  rw[h1,Ya];omega
 have hD2:∀j,j≤B→(dn l j).2.length≤(dn l B).2.length:=fun j hj=> by
  obtain⟨r,r',_,h1⟩:=j7 l j B (aa)
  rw[h1,Ya];omega
 have hr':Rem H Rd b (xs,0) R:=by rw[hxs];exact hr
 clear hr
 refine SC.rem (h:=hr') ?_
 refine sWk Tryz.func158 Tryz.ntmps158 ?_
 refine go ?_
 refine d1_ rfl (BD (aa) (aa)) (k:=?_)
 refine d2_ rfl (sn (most:=xs.length - 0) (aa) (aa) hb (aa) h0) (k:=?_)
 refine du (cJ.nilRow (e:=eI) cJ.refl) ?_
 rw[show Row SV.nil eI ([]:List Int)=Row SV.nil eI (kl l 0)from rfl,Nat.zero_add]
 refine go ?_
 refine gk (k:=dt (Nat×Nat×SV×Nat) (fun y=> y.1=16*y.2.1∧y.2.1≤B∧y.2.2.2=A+(dn l y.2.1).1.length) (fun y=> [(4,y.2.2.1.val),(5, .int .i64 ((y.1:Nat):Int))]) [(0,_),(3,_)] (fun y=> [Row y.2.2.1 eI (kl l y.2.1),Rd b (xs,y.2.2.2)]) _ (fun y=> B - y.2.1) ((0,0,SV.nil,A)) (h0:=?_) (k:=?_))
 ·try dsimp only
  exact⟨rfl,Yl _,rfl⟩
 rintro⟨i,j,u,kk⟩ ⟨hi,hj,hkk⟩
 try dsimp only[Yd,Ye]at*
 refine gk (k:=wi_ (k:=fun h1=>?_) (m:=fun h1=>?_))
 ·have hjB:j<B:=by omega
  obtain⟨r,hdr,hdl⟩:=DK (l:=l) (j:=j) (aa)
  have hs1:=hD1 j hjB
  have hsl:=tn l j
  have hkx:kk≤xs.length:=aa
  have hdr2:xs.drop kk=uv (dI [] (eC l j)).length++r:=by rw[hxs,hkk,hA];exact hdr
  have hlr:=congrArg List.length hdr2
  rw[Yo,Ya]at hlr
  have hrd:fG (xs.length - kk) (xs.drop kk)= .ok ((dI [] (eC l j)).length,(uv (dI [] (eC l j)).length).length):=by
   rw[hdr2];exact ey _ (aa) (aa)
  refine go ?_
  refine d1_ rfl (BD hkx (aa)) (k:=?_)
  refine d2_ rfl (sn (most:=xs.length - kk) hkx (aa) hb (aa) hrd) (k:=gz eI (k:=fun s31=>?_))
  refine app (k:=fun s32=>?_)
  rw[←xX]
  refine go ?_
  refine ln_ ((i+16,j+1,s32,kk+(uv (dI [] (eC l j)).length).length)) (k:=?_)
  try dsimp only
  exact⟨aa,aa,by rw[dn];simp only[Ya];omega⟩
 have hjj:j=B:=aa
 rw[hjj]at hkk⊢
 have hsl:=tn l B
 rw[←hZ]at hkk
 refine we_ (qe_ (le_ (bh_ (qn_ (ws_ (wr_ (e_ asn (k:=on_ (qn_ (ws_ (ws_ (wr_ (?_)))))))))))))
 refine du (cJ.nilRow (e:=eEn) cJ.refl) ?_
 rw[show Row SV.nil eEn ([]:List En)=Row SV.nil eEn (l.take (16*0))from rfl]
 refine gk (k:=dt (Nat×SV×Nat) (fun y=> y.1≤B∧y.2.2=Z+(dn l y.1).2.length) (fun y=> [(6,y.2.1.val),(35, .int .i64 ((y.1:Nat):Int))]) [(0,_),(3,_),(33,_),(34,_)] (fun y=> [Row y.2.1 eEn (l.take (16*y.1)),Rd b (xs,y.2.2)]) (Row u eI (kl l B)::R) (fun y=> B - y.1) ((0,SV.nil,kk)) (h0:=?_) (k:=?_))
 ·try dsimp only
  exact⟨Yl _,hkk⟩
 rintro⟨j,w,kk⟩ ⟨hj,hkk⟩
 try dsimp only[Yd,Ye]at*
 refine gk (k:=wi_ (k:=fun h2=>?_) (m:=fun h2=>?_))
 ·have hjB:j<B:=by omega
  have hgt:=Ac (l:=l) hjB
  have hs2:=hD2 j (aa)
  have hs3:=hD2 (j+1) (aa)
  rw[dn]at hs3
  simp only[Ya]at hs3
  have hkx:kk≤xs.length:=aa
  obtain⟨r,hdr⟩:=Hr (l:=l) (j:=j) (aa)
  rw[←hxs,←hB,←hA,←hZ,←hkk]at hdr
  have hbel:=o6 l j
  refine go ?_
  refine go ?_
  refine d1_ rfl (tl) (k:=go ?_)
  refine d1_ rfl (BD hkx (aa)) (k:=?_)
  refine e_ (evq ile (congrArg Value.bool (Ys (aa)))) (k:=?_)
  refine d1_ rfl (ru) (k:=go ?_)
  refine gk (k:=dt (Nat×SV×ByteArray×Nat) (fun y=> y.1≤16∧(16*j+y.1≤l.length)∧cF y.2.2.1=kC [] ((eC l j).take y.1)∧y.2.2.1.size≤65∧y.2.2.2=kk+(dI [] ((eC l j).take y.1)).length) (fun y=> [(6,y.2.1.val),(10, .string y.2.2.1),(11, .int .i64 ((y.1:Nat):Int))]) [(0,_),(3,_),(9,_),(33,_),(34,_),(35,_)] (fun y=> [Row y.2.1 eEn (l.take (16*j+y.1)),Rd b (xs,y.2.2.2)]) (Row u eI (kl l B)::R) (fun y=> 16 - y.1) ((0,w,ByteArray.empty,kk)) (h0:=?_) (k:=?_))
  ·try dsimp only
   exact⟨aa,aa,rfl,ag,rfl⟩
  rintro⟨kn,y2,last,kq⟩ ⟨hk,hkl,hlk,hls,hkq⟩
  try dsimp only[Yd,Ye]at*
  have htl:(l.take (16*j+kn)).length=16*j+kn:=aA
  refine gk (k:=dh 5 59 (k:=fun h3=>gk (k:=edq)) (q:=gk (k:=wi_ (k:=fun h4=>?_) (m:=fun h4=>?_))))
  ·obtain⟨e,he⟩:∃e,l[16*j+kn]? =some e:=⟨_,Yi (aa)⟩
   obtain⟨r',hdq⟩:=Ky hdr (aa) he
   rw[←hkq,←hlk]at hdq
   obtain⟨e1,e2,e3,e4,e5,e6⟩:=hok.1 e (Yj he)
   have hbg:(eC l j)[kn]? =some e:=by rw[zx l j kn (aa)];exact he
   have hlq:=congrArg List.length hdq
   rw[Yo,Ya]at hlq
   have hkqx:kq≤xs.length:=by
    have h9:=congrArg List.length (show eC l j=(eC l j).take kn++(eC l j).drop kn from(List.take_append_drop ..).symm)
    have h8:dI [] (eC l j)=dI [] ((eC l j).take kn)++dI (kC [] ((eC l j).take kn)) ((eC l j).drop kn):=by
     conv=> lhs;rw[show eC l j=(eC l j).take kn++(eC l j).drop kn from(List.take_append_drop ..).symm]
     exact ow _ _ _
    have h7:=congrArg List.length h8
    rw[Ya]at h7
    omega
   have htk:=cP he
   refine go ?_
   refine d3_ rfl (F4 (e:=e) hkqx (aa) hb hdq ⟨e1,e2⟩ hls (fun x hx=> by simp only[gG,List.mem_cons,List.not_mem_nil,or_false]at hx;rcases hx with rfl|rfl|rfl|rfl <;> omega)) (k:=alc (k:=fun b12=>?_))
   refine go ?_
   refine df cI (fun i=> [15].contains i) (fun k H=> (k=1→Sl H y2 eEn (l.take (16*j+kn)))∧(k=5→cQ H b12 [.string e.key, .int .i64 ((e.docs:Nat):Int), .int .i64 ((e.tot:Nat):Int), .int .i64 ((e.at_:Nat):Int), .int .i64 ((e.size:Nat):Int)])∧(k=8→Sl H y2 eEn (l.take (16*j+kn)))∧(k=10→Sl H y2 eEn (l.take (16*j+kn)))∧(k=11→Sl H y2 eEn (l.take (16*j+kn)))∧(k=12→Sl H y2 eEn (l.take (16*j+kn)))) (af_ 0 (q:=cD fun H hH=>mv) (k:=?_))
   refine cE 1 rfl rfl (a8) rfl (cD fun H hH=>by have hN:=hH.1 rfl;exact lnn) (?_)
   refine af_ 2 (q:=cD fun H hH=>ieq) (k:=?_)
   refine gq 3 rfl rfl (a8) rfl (cD fun H hH=>mv) (fun h5=> ?_) (fun h5=> ?_)
   ·replace h5:=nrm h5
    refine ao_ 4 (k:=ao_ 5 (k:=ao_ 6 (k:=ao_ 7 (k:=ao_ 8 (k:=ao_ 9 (k:=ao_ 10 (k:=ao_ 11 (k:=ao_ 12 (k:=ao_ 13 (k:=af_ 14 (q:=cD fun H hH=>pkt) (k:=?_)))))))))))
    refine cN 15 rfl (a8) rfl (fun k hk=> ⟨fun hi=> ab,fun hi=> ab,fun hi=> ab,fun hi=> ab,fun hi=> ab,fun hi=> ab⟩) (cW (vs:= [_]) rfl (ru)) ?_
    rintro _ _ ⟨rfl,rfl⟩
    refine db (a8) (fun k hk=> ⟨fun hi=> ab,fun hi=> ab,fun hi=> ab,fun hi=> ab,fun hi=> ab,fun hi=> ab⟩) (gk (k:=gz eEn (k:=fun s85=>?_)))
    refine app (k:=fun s86=>?_)
    rw[show l.take (16*j+kn)++ [(⟨e.key,e.docs,e.tot,e.at_,e.size⟩:En)]=l.take (16*j+(kn+1))from htk.symm]
    refine go ?_
    refine go ?_
    refine ln_ ((kn+1,s86,e.key,kq+(lZ (cF last) e).length)) (k:=?_)
    try dsimp only
    exact⟨aa,aa,(pe hbg []).symm,e2,by rw[hkq,mT hbg,hlk,Ya];omega⟩
   replace h5:=nrm h5
   obtain⟨d,hd⟩:∃d,l[16*j+kn - 1]? =some d:=⟨_,Yi (aa)⟩
   have hlt:=hok.2 (16*j+kn - 1) d e hd (by rw[Nat.sub_add_cancel (aa)];exact he)
   have hd2:(l.take (16*j+kn))[(l.take (16*j+kn)).length - 1]? =some d:=by rw[htl,List.getElem?_take_of_lt (aa)];exact hd
   refine ag_ 4 (q:=cD fun H hH=>fla) (k:=?_)
   refine ld 5 rfl rfl rfl rfl (a8) rfl (cD fun H hH=>ar) (?_)
   refine ag_ 6 (q:=cD fun H hH=>mv) (k:=ag_ 7 (q:=cD fun H hH=>mv) (k:=?_))
   refine ld 8 rfl rfl rfl rfl (a8) rfl (cD fun H hH=>cf) (?_)
   refine ag_ 9 (q:=cD fun H hH=>isb) (k:=?_)
   refine ld 10 rfl rfl rfl rfl (a8) rfl (cD fun H hH=>bV) (?_)
   refine ld 11 rfl rfl rfl rfl (a8) rfl (cD fun H hH=>by have hN:=hH.2.2.2.2.1 rfl;exact fle) (?_)
   refine ld 12 rfl rfl rfl rfl (a8) rfl (cD fun H hH=>by have hN:=hH.2.2.2.2.2 rfl;exact lfl) (?_)
   refine ld 13 rfl rfl rfl rfl (a8) rfl (cD fun H hH=>evq Q5 (congrArg Value.bool (Ys hlt))) (?_)
   refine af_ 14 (q:=cD fun H hH=>pkf) (k:=?_)
   refine cN 15 rfl (a8) rfl (fun k hk=> ⟨fun hi=> ab,fun hi=> ab,fun hi=> ab,fun hi=> ab,fun hi=> ab,fun hi=> ab⟩) (cW (vs:= [_]) rfl (ru)) ?_
   rintro _ _ ⟨rfl,rfl⟩
   refine db (a8) (fun k hk=> ⟨fun hi=> ab,fun hi=> ab,fun hi=> ab,fun hi=> ab,fun hi=> ab,fun hi=> ab⟩) (gk (k:=gz eEn (k:=fun s85=>?_)))
   refine app (k:=fun s86=>?_)
   rw[show l.take (16*j+kn)++ [(⟨e.key,e.docs,e.tot,e.at_,e.size⟩:En)]=l.take (16*j+(kn+1))from htk.symm]
   refine go ?_
   refine go ?_
   refine ln_ ((kn+1,s86,e.key,kq+(lZ (cF last) e).length)) (k:=?_)
   try dsimp only
   exact⟨aa,aa,(pe hbg []).symm,e2,by rw[hkq,mT hbg,hlk,Ya];omega⟩
  have hbt:(eC l j).take kn=eC l j:=List.take_of_length_le (by rw[hbel];omega)
  rw[hbt]at hkq
  have hlt16:l.take (16*j+kn)=l.take (16*(j+1)):=by
   by_cases h9:kn=16
   ·rw[h9];all_goals rfl
   ·rw[List.take_of_length_le (aa),List.take_of_length_le (aa)]
  rw[hlt16]
  refine go ?_
  refine d1_ rfl (tl) (k:=e_ mv (k:=?_))
  refine e_ (evq ieq (congrArg Value.bool (Ys (aa)))) (k:=?_)
  refine d1_ rfl (ru) (k:=go ?_)
  refine ln_ ((j+1,y2,kq)) (k:=?_)
  try dsimp only
  exact⟨aa,by rw[dn];simp only[Ya];omega⟩
 have hjj:j=B:=aa
 rw[hjj]at hkk⊢
 rw[show l.take (16*B)=l from List.take_of_length_le (aa)]
 have hkx:kk=xs.length:=aa
 refine go ?_
 refine d1_ rfl (SC.mono (pO (aa)) (fun v H' h=> (by
  rcases h with⟨h1,(⟨h2,_⟩|⟨_,h3⟩)⟩
  ·omega
  ·exact⟨h3,h1⟩:v= .nilIface∧H'=_))) (k:=?_)
 refine e_ (fy rfl) (k:=?_)
 refine d1_ rfl (ru) (k:=gk (k:=rt_ Tryz.results158 (k:=?_)))
 exact⟨_,hsb,w,rfl,rfl⟩
theorem iV (a:Act) (ds:List Deferred) (dst:Option Tmp) (v:Value):({a with defers:=a.defers++ds}:Act).put dst v={a.put dst v with defers:=(a.put dst v).defers++ds}:=by cases dst <;> rfl
theorem rl {P:Program}{ops:Array Oper}{Q:Exit→Act→World→Prop}(ds:List Deferred):∀(l:List Oper) (a:Act) (w:World),wpList P ops (fun e a' w'=> Q e {a' with defers:=a'.defers++ds} w') l a w→wpList P ops Q l {a with defers:=a.defers++ds} w
 | [],_,_,h=> h
 |o::l,a,w,h=> by
  have ih:=rl (P:=P) (ops:=ops) (Q:=Q) ds l
  unfold wpList at h⊢
  by_cases hw:Region.wanted o (yielded ops a.tmps)=true
  ·rw[if_pos hw]at h
   rw[if_pos (by exact hw)]
   rcases h with h|⟨h,a0,w0,hq⟩
   ·left
    change o.upon P a _ _ ((execOp a.eval o).run P w)at h
    show o.upon P {a with defers:=a.defers++ds} _ _ ((execOp a.eval o).run P w)
    generalize (execOp a.eval o).run P w=r at h⊢
    unfold Oper.upon at h⊢
    split at h
    ·rw[iV];exact ih _ _ h
    ·rw[iV];exact ih _ _ h
    ·rename_i d w'
     have:=iV {a with defers:=d::a.defers} ds o.dst undef
     simp only at this⊢
     rw[show(d::(a.defers++ds))=(d::a.defers)++ds from rfl,this];exact ih _ _ h
    ·exact Calls.mono h fun e w' he=> by
       cases e with
       |returned v=> simp only at he⊢;rw[iV];exact ih _ _ he
       |panicked chain=> exact he
       |outgrown=> obtain⟨a0,w0,hq⟩:=he;exact⟨_,w0,hq⟩
    ·exact Rows.mono h fun v w' he=> by rw[iV];exact ih _ _ he
    ·exact h
    ·exact h.elim
   ·exact .inr ⟨h,_,w0,hq⟩
  ·rw[if_neg hw]at h
   rw[if_neg (by exact hw),iV]
   exact ih _ _ h
theorem rn {P:Program}{ops:Array Oper}{Q Q':Exit→Act→World→Prop}(hq:∀e a w,Q e a w→Q' e a w):∀(l:List Oper) (a:Act) (w:World),wpList P ops Q l a w→wpList P ops Q' l a w
 | [],_,_,h=> hq _ _ _ h
 |o::l,a,w,h=> by
  have ih:=rn (P:=P) (ops:=ops) hq l
  unfold wpList at h⊢
  by_cases hw:Region.wanted o (yielded ops a.tmps)=true
  ·rw[if_pos hw]at h⊢
   rcases h with h|⟨h,a0,w0,hq0⟩
   ·left
    change o.upon P a _ _ ((execOp a.eval o).run P w)at h
    show o.upon P a _ _ ((execOp a.eval o).run P w)
    generalize (execOp a.eval o).run P w=r at h⊢
    unfold Oper.upon at h⊢
    split at h
    ·exact ih _ _ h
    ·exact ih _ _ h
    ·exact ih _ _ h
    ·exact Calls.mono h fun e w' he=> by
       cases e with
       |returned v=> exact ih _ _ he
       |panicked chain=> exact hq _ _ _ he
       |outgrown=> obtain⟨a0,w0,hq0⟩:=he;exact⟨_,w0,hq _ _ _ hq0⟩
    ·exact Rows.mono h fun v w' he=> ih _ _ he
    ·exact hq _ _ _ h
    ·exact h.elim
   ·exact .inr ⟨h,_,w0,hq _ _ _ hq0⟩
  ·rw[if_neg hw]at h⊢
   exact ih _ _ h
theorem FA (b2 b3:Value) (w:World):CallsD Tryz.prog 157 #[b2,b3] .returning w fun e u' w'=> e= .returned (.tuple #[])∧u'= .returning∧w'=w:=by
 have hnn:∀w:World,(binOp BinOp.neq 20 .nilIface .nilIface).run Tryz.prog w= .ok (.bool false) w:=fun _=> a8
 refine callsD_of_wpS Tryz.func157 rfl fun c₀ cs hu=> ?_
 apply wpS_seq
 apply wpS_region
 simp[wpOpsS,go_sem,recoverD,hu,Tryz.ntmps157,Exit.thenS]
 apply wpS_seq
 apply wpS_region
 simp[wpOpsS,go_sem,hnn,Exit.thenS]
 refine wpS_cond (t:=false) (by simp[Act.eval,Array.replicate]) ?_
 simp only[Bool.false_eq_true,if_false]
 refine wpS_of_wp (wp_skip ?_)
 cases c₀
 simp_all [bodyPostS,results,Tryz.results157]
theorem ko {P:Program}{f:FuncId}{fn:Func}{c:Code}(hf:P.funcs[f]? =some fn) (hb:fn.body=some c) (hn:(fn.name== "runtime.NumGoroutine")=false) (xs:Array Value) (w:World):(callFunc f xs).run P w= .ok (.enter f xs) w:=by
 have hn':¬fn.name= "runtime.NumGoroutine" :=by simpa using hn
 simp[callFunc,hf,hb,hn']
theorem CU {G:cK}{H:cG}{s:SV}{l:List En} [hg:Glb G H] [hs:Sl H s eB (fA l)] (hok:rV l) (hl:l.length≤100000000) (hn:(fA l).length≤1000000000):SC G Tryz.prog 111 [s.val] H (fun v H'=> ∃(b:Nat) (se:SV),v= .tuple #[.pointer (some ⟨b,0,none⟩), .nilIface]∧H'=Vr b [se.val]::Row se eEn l::H):=by
 refine⟨ko Tryz.func111 rfl (a8),fun w hw=> ?_⟩
 refine calls_of_wp_defers Tryz.func111 rfl ?_
 have hN:Tryz.f111.ntmps=10:=rfl
 have ha0:Fr 10 (rO 0 [s.val]) {tmps:= [s.val].toArray++Array.replicate (Tryz.f111.ntmps - [s.val].toArray.size) undef,defers:= []}:=by
  refine⟨by simp[hN],rfl,fun n v hv=> ?_⟩
  obtain⟨_,h2⟩:=tM [s.val] 0 n v hv
  have hlt:=(Yk.1 h2).1
  rw[Array.getElem?_append_left (by simpa using hlt)]
  simpa using h2
 have hW0:W G Tryz.prog 10 (Code.region 0 [(⟨some 2, .alloc 104,0, "dict.go:79", #[],none⟩:Oper),⟨some 3, .alloc 49,0, "dict.go:79", #[],none⟩].toArray false) (fun e t H'=> e= .normal∧∃b2 b3:Nat,t=put (put (rO 0 [s.val]) (some 2) (.pointer (some ⟨b2,0,none⟩))) (some 3) (.pointer (some ⟨b3,0,none⟩))∧H'=Vr b3 [.nilIface]::Vr b2 [.pointer none]::H) (rO 0 [s.val]) H:=
  wr_ (alc (k:=fun b2=> alc (k:=fun b3=> on_ ⟨rfl,b2,b3,rfl,rfl⟩)))
 refine wp_seq (wp_mono (hW0.go _ w ha0 hw) ?_)
 rintro e a1 w1 ⟨t1,H1,ha1,hw1,rfl,b2,b3,rfl,rfl⟩
 simp only[Exit.then]
 have hL0:=ha1.look 0 s.val rfl
 have hL2:=ha1.look 2 _ rfl
 have hL3:=ha1.look 3 _ rfl
 refine wp_seq (wp_region_lit (l:= [(⟨some 4, .makeFunc (.func 157) #[] #[.tmp 2, .tmp 3],1, "dict.go:80", #[],none⟩:Oper),⟨none, .defer ⟨.value (.tmp 4), #[], #[]⟩,0, "dict.go:80", #[⟨0, .data⟩],none⟩]) ?_)
 have e2:a1.eval (.tmp 2)= .pointer (some ⟨b2,0,none⟩):=ha1.agree _ _ rfl
 have e3:a1.eval (.tmp 3)= .pointer (some ⟨b3,0,none⟩):=ha1.agree _ _ rfl
 unfold wpList
 rw[if_pos (cg)]
 left
 show Oper.upon _ _ _ _ _ ((execOp a1.eval _).run _ _)
 have hx:(execOp a1.eval ⟨some 4, .makeFunc (.func 157) #[] #[.tmp 2, .tmp 3],1, "dict.go:80", #[],none⟩).run Tryz.prog w1= .ok (.value (.func (.func 157) #[] #[.pointer (some ⟨b2,0,none⟩), .pointer (some ⟨b3,0,none⟩)])) w1:=by
  simp[execOp,Instr.makeFunc,e2,e3,Sem.run_bind,Sem.run_pure,Result.andThen_ok]
 rw[hx,Oper.upon_value]
 have ha2:=ha1.put (d:=some 4) rfl (.func (.func 157) #[] #[.pointer (some ⟨b2,0,none⟩), .pointer (some ⟨b3,0,none⟩)])
 obtain⟨a2,ea2⟩:∃a2,a2=a1.put (some 4) (.func (.func 157) #[] #[.pointer (some ⟨b2,0,none⟩), .pointer (some ⟨b3,0,none⟩)]):=⟨_,rfl⟩
 rw[←ea2]at ha2
 show wpList _ _ _ _ (a1.put (some 4) _) w1
 rw[←ea2]
 have e4:a2.eval (.tmp 4)= .func (.func 157) #[] #[.pointer (some ⟨b2,0,none⟩), .pointer (some ⟨b3,0,none⟩)]:=ha2.agree _ _ rfl
 unfold wpList
 rw[if_pos (cg)]
 left
 show Oper.upon _ _ _ _ _ ((execOp a2.eval _).run _ _)
 have hy:(execOp a2.eval ⟨none, .defer ⟨.value (.tmp 4), #[], #[]⟩,0, "dict.go:80", #[⟨0, .data⟩],none⟩).run Tryz.prog w1= .ok (.defer ⟨.fn (.func 157) #[.pointer (some ⟨b2,0,none⟩), .pointer (some ⟨b3,0,none⟩)], #[]⟩) w1:=by
  simp[execOp,resolve,e4,Deferred.ofValue,Sem.run_bind,Sem.run_pure,Result.andThen_ok]
 rw[hy,Oper.upon_defer]
 refine wpList_nil ?_
 simp only[Exit.then]
 have ed:a2.defers= []:=ha2.defers
 obtain⟨d,hd⟩:∃d:Deferred,d=⟨.fn (.func 157) #[.pointer (some ⟨b2,0,none⟩), .pointer (some ⟨b3,0,none⟩)], #[]⟩:=⟨_,rfl⟩
 rw[←hd,show Act.put {a2 with defers:=d::a2.defers} none undef={a2 with defers:=a2.defers++ [d]}from by rw[ed];all_goals rfl]
 refine wp_seq (wp_region_lit (l:= [(⟨some 5, .move (.tmp 0),31, "dict.go:85", #[],none⟩:Oper),⟨some 6, .call ⟨.value (.func 38), #[.tmp 5], #[31]⟩,123, "dict.go:85", #[⟨0, .data⟩],none⟩,⟨some 7, .call ⟨.value (.func 158), #[.tmp 6], #[123]⟩,175, "dict.go:85", #[⟨1, .data⟩,⟨1, .chain⟩],none⟩,⟨some 8, .build 177 #[(0, .tmp 7)],177, "dict.go:85", #[⟨2, .data⟩],none⟩,⟨some 9, .box 177 (.tmp 8),104, "dict.go:85", #[⟨3, .data⟩],none⟩,⟨none, .store 104 (.tmp 2) (.tmp 9),0, "dict.go:85", #[⟨4, .data⟩,⟨2, .chain⟩,⟨0, .phase⟩,⟨1, .phase⟩,⟨2, .phase⟩,⟨3, .phase⟩,⟨4, .phase⟩],none⟩,⟨none, .store 49 (.tmp 3) (.const .nilIface),0, "dict.go:85", #[⟨5, .chain⟩,⟨0, .phase⟩,⟨1, .phase⟩,⟨2, .phase⟩,⟨3, .phase⟩,⟨4, .phase⟩,⟨5, .phase⟩],none⟩]) (rl [d] _ a2 w1 ?_))
 refine rn (Q:=up G 10 (fun e t H'=> e= .normal∧∃(b:Nat) (se:SV),cJ H' (Vr b [se.val]::Row se eEn l::H)∧HQ Tryz.prog Tryz.f111 (fun v _=> v= .tuple #[.pointer (some ⟨b,0,none⟩), .nilIface]) .ret t H')) (fun e a' w' hu=> ?_) _ _ _ (O.go ?_ a2 w1 ha2 hw1)
 ·obtain⟨t',H',ha',hw',rfl,b,se,hsu,he,v,rfl,hrun⟩:=hu
  simp only[Exit.then]
  refine wp_ret ?_
  show Leaves _ _ a'.tmps _ (a'.defers++ [d]) .returning w'
  rw[ha'.defers,Ye,hd]
  refine leaves_cons (f:=157) (args:= #[.pointer (some ⟨b2,0,none⟩), .pointer (some ⟨b3,0,none⟩)]) (an) ?_ ?_
  ·show(callFunc 157 (#[]++ #[_,_])).run _ _=_
   exact ko Tryz.func157 rfl (a8) _ _
  ·refine(FA _ _ w').mono ?_
   rintro e u' w'' ⟨rfl,rfl,rfl⟩
   exact⟨_,hrun G 10 a' _ ha' hw',_,hsu.sat hw',b,se,rfl,rfl⟩
 ·refine e_ mv (k:=c1_ rfl (iS (xs:=fA l) (aa)) (k:=?_))
  rintro _ _ ⟨br,rfl,rfl⟩
  refine c1_ rfl (A4 hok hl hn) (k:=?_)
  rintro _ _ ⟨se,rfl,rfl⟩
  refine e_ (bld [(0,_)]) (k:=bxx (k:=fun b9=> sto (k:=sto (k:=on_ ⟨rfl,b9,se,hsb,?_⟩))))
  exact rt_ Tryz.results111 (k:=rfl)
def eW:Enc Nat:=⟨fun n=> [.int .u64 (n:Int)],1,false,fun _=> rfl,fun _ v h=> ba,ag,fun _=> rfl,ag⟩
instance {n:Nat}:fK eW (.int .u64 ((n:Nat):Int)) n:=⟨rfl⟩
instance {n:Nat}:jG eW n (.int .u64 ((n:Nat):Int)):=⟨rfl⟩
structure DsG where
 n:Nat
 c:Nat
 ws:List Nat
def Ds (b:Nat) (p:DsG):Hp:=Ex fun s:SV=> [Vr b [.int .i64 ((p.n:Nat):Int), .int .i64 ((p.c:Nat):Int),s.val],Row s eW p.ws]
theorem Hm {b n c:Nat}{ws:List Nat}{s:SV}{R:cG}:cJ (Vr b [.int .i64 ((n:Nat):Int), .int .i64 ((c:Nat):Int),s.val]::Row s eW ws::R) (Ds b ⟨n,c,ws⟩::R):=sA (K:=Ds) (i:=b) (a:=⟨n,c,ws⟩) rfl s
theorem Og {G:cK}{P:Program}{H:cG}{f:FuncId}{args:List Value}{K:Value→cG→Prop}{R:cG}{b:Nat}{p:DsG}(hr:Rem H Ds b p R) (h:∀s:SV,SC G P f args (Vr b [.int .i64 ((p.n:Nat):Int), .int .i64 ((p.c:Nat):Int),s.val]::Row s eW p.ws::R) K):SC G P f args H K:=
 ⟨(h SV.nil).enter,fun w hw=> let ⟨s,hs⟩:=mo (K:=Ds) rfl hr hw;(h s).call w hs⟩
theorem KW {G:cK}{H:cG}{b n:Nat}{i:Int}{v1 v2:Value} [cQ H b [.int .i64 ((n:Nat):Int),v1,v2]]:SC G Tryz.prog 113 [.pointer (some ⟨b,0,none⟩), .int .i64 i] H (fun v H'=> v= .bool (decide (0≤i) && decide (i<((n:Nat):Int)))∧H'=H):=by
 refine sWk Tryz.func113 Tryz.ntmps113 ?_
 refine gk (k:=dh 7 14 (k:=fun h1=>gk (k:=edq)) (q:=go ?_))
 refine gk (k:=rt_ Tryz.results113 (k:=?_))
 exact⟨_,hsb,rfl,rfl⟩
theorem LY {G:cK}{H:cG}{b n c i:Nat}{s:SV}{ws:List Nat} [cQ H b [.int .i64 ((n:Nat):Int), .int .i64 ((c:Nat):Int),s.val]] [hs:Sl H s eW ws] (hi:i<n) (hn:n≤1048576) (hl:ws.length=(n+63) / 64) (hw:okW ws):SC G Tryz.prog 60 [.pointer (some ⟨b,0,none⟩), .int .i64 ((i:Nat):Int)] H (fun v H'=> v= .bool (oG ws i)∧H'=H):=by
 have hi64:i / 64<ws.length:=aa
 have hwi:ws[i / 64]? =some (ws.getD (i / 64) 0):=by rw[List.getD_eq_getElem?_getD,Yi hi64];all_goals rfl
 have hx:=tE hw (i / 64)
 have hm:i % 64<64:=Nat.mod_lt _ (ag)
 have hd:ws.getD (i / 64) 0 / 2 ^ (i % 64)≤ws.getD (i / 64) 0:=Nat.div_le_self ..
 have hrng:(decide ((0:Int)≤((i:Nat):Int)) && decide (((i:Nat):Int)<((n:Nat):Int)))=true:=by rw[Ys (aa),Ys (aa)];all_goals rfl
 refine sWk Tryz.func60 Tryz.ntmps60 ?_
 refine go ?_
 refine d2_ rfl (KW) (k:=?_)
 rw[hrng]
 refine e_ mv (k:=dh 14 22 (k:=fun h1=>eg_ mv (k:=eg_ nck (k:=eg_ fla (k:=eg_ ldv (k:=eg_ mv (k:=eg_ (gn rfl rfl i 64 rfl rfl (ag) (aq)) (k:=eg_ ixa (k:=eg_ lel (k:=eg_ mv (k:=eg_ (kG rfl rfl i 64 rfl rfl (ag)) (k:=eg_ (fC rfl rfl (ws.getD (i / 64) 0) (i % 64) rfl rfl (by show _≤64;omega)) (k:=eg_ (mR 18446744073709551616 rfl rfl rfl rfl (ws.getD (i / 64) 0 / 2 ^ (i % 64)) 1 rfl rfl (aa) (aa)) (k:=eg_ ieq (k:=e_ pkt (k:=on_ (edq)))))))))))))))) (q:=e_ asn (k:=on_ (qn_ (wt_ (rt_ Tryz.results60 (k:=?_)))))))
 exact⟨_,hsb,congrArg Value.bool (by
  rw[oG,Bool.true_and,Bool.eq_iff_iff,decide_eq_true_eq,←Kz];omega),rfl⟩
theorem CT {G:cK}{H:cG}{n:Nat}(hn:n≤1048576):SC G Tryz.prog 112 [.int .i64 ((n:Nat):Int)] H (fun v H'=> ∃b,v= .pointer (some ⟨b,0,none⟩)∧H'=Ds b ⟨n,0,List.replicate ((n+63) / 64) 0⟩::H):=by
 refine sWk Tryz.func112 Tryz.ntmps112 ?_
 refine ws_ (wr_ (e_ asn (k:=on_ (qn_ (ws_ (wr_ (e_ mv (k:=e_ mv (k:=e_ iad (k:=?_))))))))))
 refine e_ (gn rfl rfl (n+63) 64 (aa) rfl (ag) (aq)) (k:=?_)
 refine s_ (eX eW 0 rfl rfl ((n+63) / 64) ((n+63) / 64) rfl rfl rfl (aa) (aa) (aa)) (k:=?_)
 rintro _ _ ⟨s7,rfl,h7n,h7c,rfl⟩
 refine e_ (bld [(0,_),(2,_)]) (k:=bxx (k:=fun b9=>?_))
 refine gk (k:=rt_ Tryz.results112 (k:=?_))
 exact⟨_,Hm,b9,rfl,rfl⟩
theorem Iy {G:cK}{H:cG}{n:Nat}(hn:n≤1048576):SC G Tryz.prog 55 [.int .i64 ((n:Nat):Int)] H (fun v H'=> ∃b,v= .tuple #[.pointer (some ⟨b,0,none⟩), .nilIface]∧H'=Ds b ⟨n,0,List.replicate ((n+63) / 64) 0⟩::H):=by
 refine sWk Tryz.func55 Tryz.ntmps55 ?_
 refine ws_ (wr_ (e_ asn (k:=e_ asn (k:=on_ (qn_ (ws_ (ws_ (wr_ (e_ mv (k:=e_ ilt (k:=e_ mv (k:=dN 3 9 (k:=fun h1=>eg_ mv (k:=eg_ igt (k:=e_ pkf (k:=on_ (edq))))) (q:=on_ (?_))))))))))))))
 refine qn_ (wi_ (k:=fun h2=>?_) (m:=fun h2=>?_))
 ·exact absurd h2 (aa)
 refine wk_ (qn_ (ws_ (wr_ (e_ mv (k:=?_)))))
 refine c1_ rfl (CT hn) (k:=?_)
 rintro _ _ ⟨b,rfl,rfl⟩
 refine e_ asn (k:=e_ asn (k:=on_ (qn_ (wt_ (rt_ Tryz.results55 (k:=?_))))))
 exact⟨_,hsb,b,rfl,rfl⟩
theorem Q3 {G:cK}{H R:cG}{b n c:Nat}{ws:List Nat}{i:Int} [hg:Glb G R] [hr:Rem H Ds b ⟨n,c,ws⟩ R] (hn:n≤1048576) (hc:c≤1000000000) (hl:ws.length=(n+63) / 64) (hw:okW ws):SC G Tryz.prog 56 [.pointer (some ⟨b,0,none⟩), .int .i64 i] H (fun v H'=> ((i<0∨((n:Nat):Int)≤i)∧v= .tuple #[.bool false,G.err 1]∧H'=R)∨(0≤i∧i<((n:Nat):Int)∧∃(x:Bool) (c':Nat) (ws':List Nat),v= .tuple #[.bool x, .nilIface]∧H'=Ds b ⟨n,c',ws'⟩::R∧c'≤c+1∧ws'.length=ws.length∧okW ws'∧∀j:Nat,oG ws' j=(decide (((j:Nat):Int)=i) ||oG ws j))):=by
 refine SC.rem (h:=hr) ?_
 refine Og (b:=b) (p:=⟨n,c,ws⟩) (R:=R) inferInstance fun s=> ?_
 dsimp only
 refine sWk Tryz.func56 Tryz.ntmps56 ?_
 refine go ?_
 refine d2_ rfl (KW) (k:=gk (k:=wi_ (k:=fun h1=>?_) (m:=fun h1=>?_)))
 ·have hr:i<0∨((n:Nat):Int)≤i:=by have h9:=h1;omega
  refine go ?_
  refine cX cI (as_ 0 (q:=ldv) (k:=as_ 1 (q:=asn) (k:=as_ 2 (q:=asn) (k:=az_ (k:=gk (k:=rt_ Tryz.results56 (k:=?_)))))))
  exact⟨_,hsb, .inl ⟨hr,rfl,rfl⟩⟩
 have hr:0≤i∧i<((n:Nat):Int):=az
 obtain⟨m,rfl⟩:=Int.eq_ofNat_of_zero_le hr.1
 have hmn:m<n:=aa
 have hm64:m / 64<ws.length:=aa
 have hwi:ws[m / 64]? =some (ws.getD (m / 64) 0):=by rw[List.getD_eq_getElem?_getD,Yi hm64];all_goals rfl
 have hx:=tE hw (m / 64)
 have hp2:=L7 (k:=m % 64) (Nat.mod_lt _ (ag))
 refine go ?_
 refine d2_ rfl (LY hmn hn hl hw) (k:=gk (k:=wi_ (k:=fun h2=>?_) (m:=fun h2=>?_)))
 ·have hbt:oG ws m=true:=h2
  refine gk (k:=rt_ Tryz.results56 (k:=?_))
  exact⟨_,Hm, .inr ⟨aa,hr.2,false,c,ws,rfl,rfl,aa,rfl,hw,fun j=> by by_cases hj:((j:Nat):Int)=((m:Nat):Int) <;> simp[hj] <;> (obtain rfl:j=m:=by omega) <;> exact hbt⟩⟩
 refine go ?_
 refine df cI (fun i=> [13].contains i) (fun k H=> (k=3→cQ H b [.int .i64 ((n:Nat):Int), .int .i64 ((c:Nat):Int),s.val])∧(k=6→Sl H s eW ws)∧(k=7→Sl H s eW ws)∧(k=12→Sl H s eW ws)) (af_ 0 (q:=cD fun H hH=>mv) (k:=af_ 1 (q:=cD fun H hH=>nck) (k:=af_ 2 (q:=cD fun H hH=>fla) (k:=?_))))
 refine cE 3 rfl rfl (a8) rfl (cD fun H hH=>ak) (?_)
 refine af_ 4 (q:=cD fun H hH=>mv) (k:=?_)
 refine cE 5 rfl rfl (a8) rfl (cD fun H hH=>gn rfl rfl m 64 rfl rfl (ag) (aq)) (?_)
 refine cE 6 rfl rfl (a8) rfl (cD fun H hH=>by have hN:=hH.2.1 rfl;exact ixa) (?_)
 refine cE 7 rfl rfl (a8) rfl (cD fun H hH=>by have hN:=hH.2.2.1 rfl;exact lel) (?_)
 refine af_ 8 (q:=cD fun H hH=>mv) (k:=?_)
 refine cE 9 rfl rfl (a8) rfl (cD fun H hH=>kG rfl rfl m 64 rfl rfl (ag)) (?_)
 refine cE 10 rfl rfl (a8) rfl (cD fun H hH=>wR 18446744073709551616 rfl rfl rfl rfl 1 (m % 64) rfl rfl (aa)) (?_)
 refine cE 11 rfl rfl (a8) rfl (cD fun H hH=>iE 18446744073709551616 rfl rfl rfl rfl (ws.getD (m / 64) 0) (1*2 ^ (m % 64)) rfl rfl (aa) (aa)) (?_)
 refine cE 12 rfl rfl (a8) rfl (cD fun H hH=>by have hN:=hH.2.2.2 rfl;exact ixa) (?_)
 refine cN 13 rfl (a8) rfl (fun k hk=> ⟨fun hi=> ab,fun hi=> ab,fun hi=> ab,fun hi=> ab⟩) (dH (i:=m / 64) rfl rfl rfl (aa)) ?_
 rintro _ _ ⟨rfl,rfl⟩
 rw[Nat.one_mul,show ws.set (m / 64) (ws.getD (m / 64) 0 ||| 2 ^ (m % 64))=E3 ws m from rfl]
 refine db (a8) (fun k hk=> ⟨fun hi=> absurd hk (ad),fun hi=> absurd hk (ad),fun hi=> absurd hk (ad),fun hi=> absurd hk (ad)⟩) (go ?_)
 refine gk (k:=rt_ Tryz.results56 (k:=?_))
 exact⟨_,Hm, .inr ⟨aa,hr.2,true,c+1,E3 ws m,rfl,rfl,Nat.le_refl _,HK ws m,KC hw m,fun j=> by rw[HB hm64];congr 1;exact decide_eq_decide.2 (aa)⟩⟩
end Go.Sx
