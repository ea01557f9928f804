import Derived.Test.YtcbidldebfibkaaGreatDoorQ34
import Derived.Recover
set_option linter.unusedVariables false
set_option linter.unusedSimpArgs false
set_option linter.unusedSectionVars false
set_option linter.unnecessarySimpa false
set_option maxHeartbeats 0
namespace Go.Sx
open Go Go.Proofs
set_option maxRecDepth 100000
theorem MS {G:cM}{P:Program}{t:Tm}{H:cG}{dst:Option Tmp}{ty:TypeId}{pos:String}{after:Array Edge}{g:Option (Nat×Bool)}{T U:TypeId}{x y:Operand}{a b:ByteArray}(hx:evo t x=some (.string a):=by exact rfl) (hy:evo t y=some (.string b):=by exact rfl):Ev G P ⟨dst, .binOp .gtr T x y U,ty,pos,after,g⟩ t H (.bool (decide (cF b<cF a))):=
 fun ρ hρ w _=> by
  have e:(!(Op.bytesLess a.toList b.toList ||a.toList==b.toList))=decide (cF b<cF a):=by
   rw[jE,uN,Bool.eq_iff_iff]
   simp only[Bool.not_eq_true',Bool.or_eq_false_iff,decide_eq_false_iff_not,decide_eq_true_eq]
   rw[←not_or,←List.le_iff_lt_or_eq,List.not_le]
  simp only[execOp,hρ _ _ hx,hρ _ _ hy,eqGuard,binOp_string_gtr,e]
  rfl
theorem Dz {G:cM}{H R:cG}{b k:Nat}{xs:List Nat} [hr:Rem H Rd b (xs,k) R] (hk:k≤xs.length) (hn:xs.length≤1000000000000):SC G Tryz.prog 118 [.pointer (some ⟨b,0,none⟩)] H (fun v H'=> v= .int .i64 ((xs.length - k:Nat):Int)∧H'=Rd b (xs,k)::R):=
 SC.out (xS hr fun s=> SC.mono (left (k:=(k:Int)) (n:=(xs.length:Int)) (r:= [s.val]) (a8)) fun v H' ⟨h1,h2⟩=> ⟨Rd b (xs,k)::R,by rw[h2];exact hsb,by rw[h1];exact congrArg (Value.int .i64) (a8),rfl⟩)
theorem zr {G:cM}{H R:cG}{b:Nat}{l:List En} [hg:Glb G R] [hr:Rem H Rd b (fU l,0) R] (hok:uV l) (hl:l.length≤100000000) (hn:(fU l).length≤1000000000):SC G Tryz.prog 171 [.pointer (some ⟨b,0,none⟩)] H (fun v H'=> ∃s:SV,v=s.val∧H'=Row s eEn l::R):=by
 have hb:=yQ l
 have hge:=G7 l
 have hend:=CX l
 have hbk:16*eg l≤l.length+15∧l.length≤16*eg l:=bH
 obtain⟨xs,hxs⟩:∃xs,xs=fU l:=⟨_,rfl⟩
 rw[←hxs]at hb hge hend hn
 obtain⟨A,hA⟩:∃A,A=(uv l.length).length:=⟨_,rfl⟩
 obtain⟨B,hB⟩:∃B,B=eg l:=⟨_,rfl⟩
 obtain⟨Z,hZ⟩:∃Z,Z=A+(dj l B).1.length:=⟨_,rfl⟩
 rw[←hB]at hbk hend
 have h0:ec (xs.length - 0) (xs.drop 0)= .ok (l.length,A):=by
  rw[List.drop_zero,Nat.sub_zero,hxs,fU,Yf,hA]
  exact gL _ (a8) (by rw[←Yf,←fU,←hxs];omega)
 have hD1:∀j,j<B→(dj l j).1.length≤(dj l B).1.length:=fun j hj=> by
  obtain⟨r,r',h1,_⟩:=jC l j B (a8)
  rw[h1,Ya];omega
 have hD2:∀j,j≤B→(dj l j).2.length≤(dj l B).2.length:=fun j hj=> by
  obtain⟨r,r',_,h1⟩:=jC l j B (a8)
  rw[h1,Ya];omega
 have hr':Rem H Rd b (xs,0) R:=by rw[hxs];exact hr
 clear hr
 refine SC.rem (h:=hr') ?_
 refine sWk Tryz.func171 Tryz.ntmps171 ?_
 refine go ?_
 refine d1_ rfl (Dz (a8) (a8)) (k:=?_)
 refine d2_ rfl (sN (most:=xs.length - 0) (a8) (a8) hb (a8) h0) (k:=?_)
 refine dE (cK.nilRow (e:=eI) cK.refl) ?_
 rw[show Row SV.nil eI ([]:List Int)=Row SV.nil eI (l9 l 0)from rfl,Nat.zero_add]
 refine go ?_
 refine gk (k:=dn (Nat×Nat×SV×Nat) (fun y=> y.1=16*y.2.1∧y.2.1≤B∧y.2.2.2=A+(dj l y.2.1).1.length) (fun y=> [(4,y.2.2.1.val),(5, .int .i64 ((y.1:Nat):Int))]) [(0,_),(3,_)] (fun y=> [Row y.2.2.1 eI (l9 l y.2.1),Rd b (xs,y.2.2.2)]) _ (fun y=> B - y.2.1) ((0,0,SV.nil,A)) (h0:=?_) (k:=?_))
 ·try dsimp only
  exact⟨rfl,Yl _,rfl⟩
 rintro⟨i,j,u,kk⟩ ⟨hi,hj,hkk⟩
 try dsimp only[Yd,Ye]at*
 refine gk (k:=wi_ (k:=fun h1=>?_) (m:=fun h1=>?_))
 ·have hjB:j<B:=by omega
  obtain⟨r,hdr,hdl⟩:=CV (l:=l) (j:=j) (a8)
  have hs1:=hD1 j hjB
  have hsl:=tA l j
  have hkx:kk≤xs.length:=a8
  have hdr2:xs.drop kk=uv (dB [] (eJ l j)).length++r:=by rw[hxs,hkk,hA];exact hdr
  have hlr:=congrArg List.length hdr2
  rw[Yo,Ya]at hlr
  have hrd:ec (xs.length - kk) (xs.drop kk)= .ok ((dB [] (eJ l j)).length,(uv (dB [] (eJ l j)).length).length):=by
   rw[hdr2];exact gL _ (a8) (a8)
  refine go ?_
  refine d1_ rfl (Dz hkx (a8)) (k:=?_)
  refine d2_ rfl (sN (most:=xs.length - kk) hkx (a8) hb (a8) hrd) (k:=dD eI (k:=fun s31=>?_))
  refine app (k:=fun s32=>?_)
  rw[←xL]
  refine go ?_
  refine ln_ ((i+16,j+1,s32,kk+(uv (dB [] (eJ l j)).length).length)) (k:=?_)
  try dsimp only
  exact⟨a8,a8,by rw[dj];simp only[Ya];omega⟩
 have hjj:j=B:=a8
 rw[hjj]at hkk⊢
 have hsl:=tA l B
 rw[←hZ]at hkk
 refine we_ (qe_ (le_ (bh_ (qn_ (ws_ (wr_ (e_ asn (k:=on_ (qn_ (ws_ (ws_ (wr_ (?_)))))))))))))
 refine dE (cK.nilRow (e:=eEn) cK.refl) ?_
 rw[show Row SV.nil eEn ([]:List En)=Row SV.nil eEn (l.take (16*0))from rfl]
 refine gk (k:=dn (Nat×SV×Nat) (fun y=> y.1≤B∧y.2.2=Z+(dj l y.1).2.length) (fun y=> [(6,y.2.1.val),(35, .int .i64 ((y.1:Nat):Int))]) [(0,_),(3,_),(33,_),(34,_)] (fun y=> [Row y.2.1 eEn (l.take (16*y.1)),Rd b (xs,y.2.2)]) (Row u eI (l9 l B)::R) (fun y=> B - y.1) ((0,SV.nil,kk)) (h0:=?_) (k:=?_))
 ·try dsimp only
  exact⟨Yl _,hkk⟩
 rintro⟨j,w,kk⟩ ⟨hj,hkk⟩
 try dsimp only[Yd,Ye]at*
 refine gk (k:=wi_ (k:=fun h2=>?_) (m:=fun h2=>?_))
 ·have hjB:j<B:=by omega
  have hgt:=zC (l:=l) hjB
  have hs2:=hD2 j (a8)
  have hs3:=hD2 (j+1) (a8)
  rw[dj]at hs3
  simp only[Ya]at hs3
  have hkx:kk≤xs.length:=a8
  obtain⟨r,hdr⟩:=G6 (l:=l) (j:=j) (a8)
  rw[←hxs,←hB,←hA,←hZ,←hkk]at hdr
  have hbel:=lG l j
  refine go ?_
  refine go ?_
  refine d1_ rfl (wu) (k:=go ?_)
  refine d1_ rfl (Dz hkx (a8)) (k:=?_)
  refine e_ (evq ile (congrArg Value.bool (Ys (a8)))) (k:=?_)
  refine d1_ rfl (rP) (k:=go ?_)
  refine gk (k:=dn (Nat×SV×ByteArray×Nat) (fun y=> y.1≤16∧(16*j+y.1≤l.length)∧cF y.2.2.1=jB [] ((eJ l j).take y.1)∧y.2.2.1.size≤65∧y.2.2.2=kk+(dB [] ((eJ l j).take y.1)).length) (fun y=> [(6,y.2.1.val),(10, .string y.2.2.1),(11, .int .i64 ((y.1:Nat):Int))]) [(0,_),(3,_),(9,_),(33,_),(34,_),(35,_)] (fun y=> [Row y.2.1 eEn (l.take (16*j+y.1)),Rd b (xs,y.2.2.2)]) (Row u eI (l9 l B)::R) (fun y=> 16 - y.1) ((0,w,ByteArray.empty,kk)) (h0:=?_) (k:=?_))
  ·try dsimp only
   exact⟨a8,a8,rfl,ag,rfl⟩
  rintro⟨kn,y2,last,kq⟩ ⟨hk,hkl,hlk,hls,hkq⟩
  try dsimp only[Yd,Ye]at*
  have htl:(l.take (16*j+kn)).length=16*j+kn:=ax
  refine gk (k:=cY 5 59 (k:=fun h3=>gk (k:=edq)) (q:=gk (k:=wi_ (k:=fun h4=>?_) (m:=fun h4=>?_))))
  ·obtain⟨e,he⟩:∃e,l[16*j+kn]? =some e:=⟨_,Yi (a8)⟩
   obtain⟨r',hdq⟩:=IX hdr (a8) he
   rw[←hkq,←hlk]at hdq
   obtain⟨e1,e2,e3,e4,e5,e6⟩:=hok.1 e (Yj he)
   have hbg:(eJ l j)[kn]? =some e:=by rw[qJ l j kn (a8)];exact he
   have hlq:=congrArg List.length hdq
   rw[Yo,Ya]at hlq
   have hkqx:kq≤xs.length:=by
    have h9:=congrArg List.length (show eJ l j=(eJ l j).take kn++(eJ l j).drop kn from(List.take_append_drop ..).symm)
    have h8:dB [] (eJ l j)=dB [] ((eJ l j).take kn)++dB (jB [] ((eJ l j).take kn)) ((eJ l j).drop kn):=by
     conv=> lhs;rw[show eJ l j=(eJ l j).take kn++(eJ l j).drop kn from(List.take_append_drop ..).symm]
     exact oE _ _ _
    have h7:=congrArg List.length h8
    rw[Ya]at h7
    omega
   have htk:=cP he
   refine go ?_
   refine d3_ rfl (DA (e:=e) hkqx (a8) hb hdq ⟨e1,e2⟩ hls (fun x hx=> by simp only[iw,List.mem_cons,List.not_mem_nil,or_false]at hx;rcases hx with rfl|rfl|rfl|rfl <;> omega)) (k:=alc (k:=fun b12=>?_))
   refine go ?_
   refine di cL (fun i=> [15].contains i) (fun k H=> (k=1→Sl H y2 eEn (l.take (16*j+kn)))∧(k=5→dh H b12 [.string e.key, .int .i64 ((e.docs:Nat):Int), .int .i64 ((e.tot:Nat):Int), .int .i64 ((e.at_:Nat):Int), .int .i64 ((e.size:Nat):Int)])∧(k=8→Sl H y2 eEn (l.take (16*j+kn)))∧(k=10→Sl H y2 eEn (l.take (16*j+kn)))∧(k=11→Sl H y2 eEn (l.take (16*j+kn)))∧(k=12→Sl H y2 eEn (l.take (16*j+kn)))) (af_ 0 (q:=cE fun H hH=>mv) (k:=?_))
   refine cH 1 rfl rfl (aa) rfl (cE fun H hH=>by have hN:=hH.1 rfl;exact lnn) (?_)
   refine af_ 2 (q:=cE fun H hH=>ieq) (k:=?_)
   refine gp 3 rfl rfl (aa) rfl (cE fun H hH=>mv) (fun h5=> ?_) (fun h5=> ?_)
   ·replace h5:=nrm h5
    refine ao_ 4 (k:=ao_ 5 (k:=ao_ 6 (k:=ao_ 7 (k:=ao_ 8 (k:=ao_ 9 (k:=ao_ 10 (k:=ao_ 11 (k:=ao_ 12 (k:=ao_ 13 (k:=af_ 14 (q:=cE fun H hH=>pkt) (k:=?_)))))))))))
    refine cQ 15 rfl (aa) rfl (fun k hk=> ⟨fun hi=> ab,fun hi=> ab,fun hi=> ab,fun hi=> ab,fun hi=> ab,fun hi=> ab⟩) (dm (vs:= [_]) rfl (rP)) ?_
    rintro _ _ ⟨rfl,rfl⟩
    refine db (aa) (fun k hk=> ⟨fun hi=> ab,fun hi=> ab,fun hi=> ab,fun hi=> ab,fun hi=> ab,fun hi=> ab⟩) (gk (k:=dD eEn (k:=fun s85=>?_)))
    refine app (k:=fun s86=>?_)
    rw[show l.take (16*j+kn)++ [(⟨e.key,e.docs,e.tot,e.at_,e.size⟩:En)]=l.take (16*j+(kn+1))from htk.symm]
    refine go ?_
    refine go ?_
    refine ln_ ((kn+1,s86,e.key,kq+(m9 (cF last) e).length)) (k:=?_)
    try dsimp only
    exact⟨a8,a8,(n7 hbg []).symm,e2,by rw[hkq,lC hbg,hlk,Ya];omega⟩
   replace h5:=nrm h5
   obtain⟨d,hd⟩:∃d,l[16*j+kn - 1]? =some d:=⟨_,Yi (a8)⟩
   have hlt:=hok.2 (16*j+kn - 1) d e hd (by rw[Nat.sub_add_cancel (a8)];exact he)
   have hd2:(l.take (16*j+kn))[(l.take (16*j+kn)).length - 1]? =some d:=by rw[htl,List.getElem?_take_of_lt (a8)];exact hd
   refine ag_ 4 (q:=cE fun H hH=>fla) (k:=?_)
   refine jN 5 rfl rfl rfl rfl (aa) rfl (cE fun H hH=>aO) (?_)
   refine ag_ 6 (q:=cE fun H hH=>mv) (k:=ag_ 7 (q:=cE fun H hH=>mv) (k:=?_))
   refine jN 8 rfl rfl rfl rfl (aa) rfl (cE fun H hH=>by have hN:=hH.2.2.1 rfl;exact lnn) (?_)
   refine ag_ 9 (q:=cE fun H hH=>isb) (k:=?_)
   refine jN 10 rfl rfl rfl rfl (aa) rfl (cE fun H hH=>by have hN:=hH.2.2.2.1 rfl;exact ixa) (?_)
   refine jN 11 rfl rfl rfl rfl (aa) rfl (cE fun H hH=>by have hN:=hH.2.2.2.2.1 rfl;exact fle) (?_)
   refine jN 12 rfl rfl rfl rfl (aa) rfl (cE fun H hH=>by have hN:=hH.2.2.2.2.2 rfl;exact lfl) (?_)
   refine jN 13 rfl rfl rfl rfl (aa) rfl (cE fun H hH=>evq MS (congrArg Value.bool (Ys hlt))) (?_)
   refine af_ 14 (q:=cE fun H hH=>pkf) (k:=?_)
   refine cQ 15 rfl (aa) rfl (fun k hk=> ⟨fun hi=> ab,fun hi=> ab,fun hi=> ab,fun hi=> ab,fun hi=> ab,fun hi=> ab⟩) (dm (vs:= [_]) rfl (rP)) ?_
   rintro _ _ ⟨rfl,rfl⟩
   refine db (aa) (fun k hk=> ⟨fun hi=> ab,fun hi=> ab,fun hi=> ab,fun hi=> ab,fun hi=> ab,fun hi=> ab⟩) (gk (k:=dD eEn (k:=fun s85=>?_)))
   refine app (k:=fun s86=>?_)
   rw[show l.take (16*j+kn)++ [(⟨e.key,e.docs,e.tot,e.at_,e.size⟩:En)]=l.take (16*j+(kn+1))from htk.symm]
   refine go ?_
   refine go ?_
   refine ln_ ((kn+1,s86,e.key,kq+(m9 (cF last) e).length)) (k:=?_)
   try dsimp only
   exact⟨a8,a8,(n7 hbg []).symm,e2,by rw[hkq,lC hbg,hlk,Ya];omega⟩
  have hbt:(eJ l j).take kn=eJ l j:=List.take_of_length_le (by rw[hbel];omega)
  rw[hbt]at hkq
  have hlt16:l.take (16*j+kn)=l.take (16*(j+1)):=by
   by_cases h9:kn=16
   ·rw[h9];all_goals rfl
   ·rw[List.take_of_length_le (a8),List.take_of_length_le (a8)]
  rw[hlt16]
  refine go ?_
  refine d1_ rfl (wu) (k:=e_ mv (k:=?_))
  refine e_ (evq ieq (congrArg Value.bool (Ys (a8)))) (k:=?_)
  refine d1_ rfl (rP) (k:=go ?_)
  refine ln_ ((j+1,y2,kq)) (k:=?_)
  try dsimp only
  exact⟨a8,by rw[dj];simp only[Ya];omega⟩
 have hjj:j=B:=a8
 rw[hjj]at hkk⊢
 rw[show l.take (16*B)=l from List.take_of_length_le (a8)]
 have hkx:kk=xs.length:=a8
 refine go ?_
 refine d1_ rfl (SC.mono (mj (a8)) (fun v H' h=> (by
  rcases h with⟨h1,(⟨h2,_⟩|⟨_,h3⟩)⟩
  ·omega
  ·exact⟨h3,h1⟩:v= .nilIface∧H'=_))) (k:=?_)
 refine e_ (gS rfl) (k:=?_)
 refine d1_ rfl (rP) (k:=gk (k:=rt_ Tryz.results171 (k:=?_)))
 exact⟨_,hsb,w,rfl,rfl⟩
theorem jq (a:Act) (ds:List Deferred) (dst:Option Tmp) (v:Value):({a with defers:=a.defers++ds}:Act).put dst v={a.put dst v with defers:=(a.put dst v).defers++ds}:=by cases dst <;> rfl
theorem rL {P:Program}{ops:Array Oper}{Q:Exit→Act→World→Prop}(ds:List Deferred):∀(l:List Oper) (a:Act) (w:World),wpList P ops (fun e a' w'=> Q e {a' with defers:=a'.defers++ds} w') l a w→wpList P ops Q l {a with defers:=a.defers++ds} w
 | [],_,_,h=> h
 |o::l,a,w,h=> by
  have ih:=rL (P:=P) (ops:=ops) (Q:=Q) ds l
  unfold wpList at h⊢
  by_cases hw:Region.wanted o (yielded ops a.tmps)=true
  ·rw[if_pos hw]at h
   rw[if_pos (by exact hw)]
   rcases h with h|⟨h,a0,w0,hq⟩
   ·left
    change o.upon P a _ _ ((execOp a.eval o).run P w)at h
    show o.upon P {a with defers:=a.defers++ds} _ _ ((execOp a.eval o).run P w)
    generalize (execOp a.eval o).run P w=r at h⊢
    unfold Oper.upon at h⊢
    split at h
    ·rw[jq];exact ih _ _ h
    ·rw[jq];exact ih _ _ h
    ·rename_i d w'
     have:=jq {a with defers:=d::a.defers} ds o.dst undef
     simp only at this⊢
     rw[show(d::(a.defers++ds))=(d::a.defers)++ds from rfl,this];exact ih _ _ h
    ·exact Calls.mono h fun e w' he=> by
       cases e with
       |returned v=> simp only at he⊢;rw[jq];exact ih _ _ he
       |panicked chain=> exact he
       |outgrown=> obtain⟨a0,w0,hq⟩:=he;exact⟨_,w0,hq⟩
    ·exact Rows.mono h fun v w' he=> by rw[jq];exact ih _ _ he
    ·exact h
    ·exact h.elim
   ·exact .inr ⟨h,_,w0,hq⟩
  ·rw[if_neg hw]at h
   rw[if_neg (by exact hw),jq]
   exact ih _ _ h
theorem rM {P:Program}{ops:Array Oper}{Q Q':Exit→Act→World→Prop}(hq:∀e a w,Q e a w→Q' e a w):∀(l:List Oper) (a:Act) (w:World),wpList P ops Q l a w→wpList P ops Q' l a w
 | [],_,_,h=> hq _ _ _ h
 |o::l,a,w,h=> by
  have ih:=rM (P:=P) (ops:=ops) hq l
  unfold wpList at h⊢
  by_cases hw:Region.wanted o (yielded ops a.tmps)=true
  ·rw[if_pos hw]at h⊢
   rcases h with h|⟨h,a0,w0,hq0⟩
   ·left
    change o.upon P a _ _ ((execOp a.eval o).run P w)at h
    show o.upon P a _ _ ((execOp a.eval o).run P w)
    generalize (execOp a.eval o).run P w=r at h⊢
    unfold Oper.upon at h⊢
    split at h
    ·exact ih _ _ h
    ·exact ih _ _ h
    ·exact ih _ _ h
    ·exact Calls.mono h fun e w' he=> by
       cases e with
       |returned v=> exact ih _ _ he
       |panicked chain=> exact hq _ _ _ he
       |outgrown=> obtain⟨a0,w0,hq0⟩:=he;exact⟨_,w0,hq _ _ _ hq0⟩
    ·exact Rows.mono h fun v w' he=> ih _ _ he
    ·exact hq _ _ _ h
    ·exact h.elim
   ·exact .inr ⟨h,_,w0,hq _ _ _ hq0⟩
  ·rw[if_neg hw]at h⊢
   exact ih _ _ h
theorem Em (b2 b3:Value) (w:World):CallsD Tryz.prog 170 #[b2,b3] .returning w fun e u' w'=> e= .returned (.tuple #[])∧u'= .returning∧w'=w:=by
 have hnn:∀w:World,(binOp BinOp.neq 20 .nilIface .nilIface).run Tryz.prog w= .ok (.bool false) w:=fun _=> aa
 refine callsD_of_wpS Tryz.func170 rfl fun c₀ cs hu=> ?_
 apply wpS_seq
 apply wpS_region
 simp[wpOpsS,go_sem,recoverD,hu,Tryz.ntmps170,Exit.thenS]
 apply wpS_seq
 apply wpS_region
 simp[wpOpsS,go_sem,hnn,Exit.thenS]
 refine wpS_cond (t:=false) (by simp[Act.eval,Array.replicate]) ?_
 simp only[Bool.false_eq_true,if_false]
 refine wpS_of_wp (wp_skip ?_)
 cases c₀
 simp_all [bodyPostS,results,Tryz.results170]
theorem pV {P:Program}{f:FuncId}{fn:Func}{c:Code}(hf:P.funcs[f]? =some fn) (hb:fn.body=some c) (hn:(fn.name== "runtime.NumGoroutine")=false) (xs:Array Value) (w:World):(callFunc f xs).run P w= .ok (.enter f xs) w:=by
 have hn':¬fn.name= "runtime.NumGoroutine" :=by simpa using hn
 simp[callFunc,hf,hb,hn']
theorem BZ {G:cM}{H:cG}{s:SV}{l:List En} [hg:Glb G H] [hs:Sl H s eB (fU l)] (hok:uV l) (hl:l.length≤100000000) (hn:(fU l).length≤1000000000):SC G Tryz.prog 148 [s.val] H (fun v H'=> ∃b,v= .tuple #[.pointer (some ⟨b,0,none⟩), .nilIface]∧H'=H):=by
 refine⟨pV Tryz.func148 rfl (aa),fun w hw=> ?_⟩
 refine calls_of_wp_defers Tryz.func148 rfl ?_
 have hN:Tryz.f148.ntmps=10:=rfl
 have ha0:Fr 10 (sq 0 [s.val]) {tmps:= [s.val].toArray++Array.replicate (Tryz.f148.ntmps - [s.val].toArray.size) undef,defers:= []}:=by
  refine⟨by simp[hN],rfl,fun n v hv=> ?_⟩
  obtain⟨_,h2⟩:=uf [s.val] 0 n v hv
  have hlt:=(Yk.1 h2).1
  rw[Array.getElem?_append_left (by simpa using hlt)]
  simpa using h2
 have hW0:W G Tryz.prog 10 (Code.region 0 [(⟨some 2, .alloc 186,0, "dict.go:79", #[],none⟩:Oper),⟨some 3, .alloc 34,0, "dict.go:79", #[],none⟩].toArray false) (fun e t H'=> e= .normal∧∃b2 b3:Nat,t=put (put (sq 0 [s.val]) (some 2) (.pointer (some ⟨b2,0,none⟩))) (some 3) (.pointer (some ⟨b3,0,none⟩))∧H'=Vr b3 [.nilIface]::Vr b2 [.pointer none]::H) (sq 0 [s.val]) H:=
  wr_ (alc (k:=fun b2=> alc (k:=fun b3=> on_ ⟨rfl,b2,b3,rfl,rfl⟩)))
 refine wp_seq (wp_mono (hW0.go _ w ha0 hw) ?_)
 rintro e a1 w1 ⟨t1,H1,ha1,hw1,rfl,b2,b3,rfl,rfl⟩
 simp only[Exit.then]
 have hL0:=ha1.look 0 s.val rfl
 have hL2:=ha1.look 2 _ rfl
 have hL3:=ha1.look 3 _ rfl
 refine wp_seq (wp_region_lit (l:= [(⟨some 4, .makeFunc (.func 170) #[] #[.tmp 2, .tmp 3],1, "dict.go:80", #[],none⟩:Oper),⟨none, .defer ⟨.value (.tmp 4), #[], #[]⟩,0, "dict.go:80", #[⟨0, .data⟩],none⟩]) ?_)
 have e2:a1.eval (.tmp 2)= .pointer (some ⟨b2,0,none⟩):=ha1.agree _ _ rfl
 have e3:a1.eval (.tmp 3)= .pointer (some ⟨b3,0,none⟩):=ha1.agree _ _ rfl
 unfold wpList
 rw[if_pos (c6)]
 left
 show Oper.upon _ _ _ _ _ ((execOp a1.eval _).run _ _)
 have hx:(execOp a1.eval ⟨some 4, .makeFunc (.func 170) #[] #[.tmp 2, .tmp 3],1, "dict.go:80", #[],none⟩).run Tryz.prog w1= .ok (.value (.func (.func 170) #[] #[.pointer (some ⟨b2,0,none⟩), .pointer (some ⟨b3,0,none⟩)])) w1:=by
  simp[execOp,Instr.makeFunc,e2,e3,Sem.run_bind,Sem.run_pure,Result.andThen_ok]
 rw[hx,Oper.upon_value]
 have ha2:=ha1.put (d:=some 4) rfl (.func (.func 170) #[] #[.pointer (some ⟨b2,0,none⟩), .pointer (some ⟨b3,0,none⟩)])
 obtain⟨a2,ea2⟩:∃a2,a2=a1.put (some 4) (.func (.func 170) #[] #[.pointer (some ⟨b2,0,none⟩), .pointer (some ⟨b3,0,none⟩)]):=⟨_,rfl⟩
 rw[←ea2]at ha2
 show wpList _ _ _ _ (a1.put (some 4) _) w1
 rw[←ea2]
 have e4:a2.eval (.tmp 4)= .func (.func 170) #[] #[.pointer (some ⟨b2,0,none⟩), .pointer (some ⟨b3,0,none⟩)]:=ha2.agree _ _ rfl
 unfold wpList
 rw[if_pos (c6)]
 left
 show Oper.upon _ _ _ _ _ ((execOp a2.eval _).run _ _)
 have hy:(execOp a2.eval ⟨none, .defer ⟨.value (.tmp 4), #[], #[]⟩,0, "dict.go:80", #[⟨0, .data⟩],none⟩).run Tryz.prog w1= .ok (.defer ⟨.fn (.func 170) #[.pointer (some ⟨b2,0,none⟩), .pointer (some ⟨b3,0,none⟩)], #[]⟩) w1:=by
  simp[execOp,resolve,e4,Deferred.ofValue,Sem.run_bind,Sem.run_pure,Result.andThen_ok]
 rw[hy,Oper.upon_defer]
 refine wpList_nil ?_
 simp only[Exit.then]
 have ed:a2.defers= []:=ha2.defers
 obtain⟨d,hd⟩:∃d:Deferred,d=⟨.fn (.func 170) #[.pointer (some ⟨b2,0,none⟩), .pointer (some ⟨b3,0,none⟩)], #[]⟩:=⟨_,rfl⟩
 rw[←hd,show Act.put {a2 with defers:=d::a2.defers} none undef={a2 with defers:=a2.defers++ [d]}from by rw[ed];all_goals rfl]
 refine wp_seq (wp_region_lit (l:= [(⟨some 5, .move (.tmp 0),29, "dict.go:85", #[],none⟩:Oper),⟨some 6, .call ⟨.value (.func 45), #[.tmp 5], #[29]⟩,92, "dict.go:85", #[⟨0, .data⟩],none⟩,⟨some 7, .call ⟨.value (.func 171), #[.tmp 6], #[92]⟩,198, "dict.go:85", #[⟨1, .data⟩,⟨1, .chain⟩],none⟩,⟨some 8, .build 285 #[(0, .tmp 7)],285, "dict.go:85", #[⟨2, .data⟩],none⟩,⟨some 9, .box 285 (.tmp 8),186, "dict.go:85", #[⟨3, .data⟩],none⟩,⟨none, .store 186 (.tmp 2) (.tmp 9),0, "dict.go:85", #[⟨4, .data⟩,⟨2, .chain⟩,⟨0, .phase⟩,⟨1, .phase⟩,⟨2, .phase⟩,⟨3, .phase⟩,⟨4, .phase⟩],none⟩,⟨none, .store 34 (.tmp 3) (.const .nilIface),0, "dict.go:85", #[⟨5, .chain⟩,⟨0, .phase⟩,⟨1, .phase⟩,⟨2, .phase⟩,⟨3, .phase⟩,⟨4, .phase⟩,⟨5, .phase⟩],none⟩]) (rL [d] _ a2 w1 ?_))
 refine rM (Q:=up G 10 (fun e t H'=> e= .normal∧cK H' H∧Gt Tryz.prog Tryz.f148 (fun v _=> ∃b:Nat,v= .tuple #[.pointer (some ⟨b,0,none⟩), .nilIface]) .ret t H')) (fun e a' w' hu=> ?_) _ _ _ (O.go ?_ a2 w1 ha2 hw1)
 ·obtain⟨t',H',ha',hw',rfl,hsu,he,v,⟨b,rfl⟩,hrun⟩:=hu
  simp only[Exit.then]
  refine wp_ret ?_
  show Leaves _ _ a'.tmps _ (a'.defers++ [d]) .returning w'
  rw[ha'.defers,Ye,hd]
  refine leaves_cons (f:=170) (args:= #[.pointer (some ⟨b2,0,none⟩), .pointer (some ⟨b3,0,none⟩)]) (aj) ?_ ?_
  ·show(callFunc 170 (#[]++ #[_,_])).run _ _=_
   exact pV Tryz.func170 rfl (aa) _ _
  ·refine(Em _ _ w').mono ?_
   rintro e u' w'' ⟨rfl,rfl,rfl⟩
   exact⟨_,hrun G 10 a' _ ha' hw',H,hsu.sat hw',b,rfl,rfl⟩
 ·refine e_ mv (k:=c1_ rfl (jo (xs:=fU l) (a8)) (k:=?_))
  rintro _ _ ⟨br,rfl,rfl⟩
  refine c1_ rfl (zr hok hl hn) (k:=?_)
  rintro _ _ ⟨se,rfl,rfl⟩
  refine e_ (bld [(0,_)]) (k:=bxx (k:=fun b9=> sto (k:=sto (k:=on_ ⟨rfl,hsb,?_⟩))))
  exact rt_ Tryz.results148 (k:=⟨b9,rfl⟩)
structure SG where
 b:Nat
 v0:Value
 v2:Value
 v3:Value
 v4:Value
 sd:SV
 sa:SV
 zs:List DG
 xs:List Nat
def sgV (g:SG):List Value:= [g.v0,g.sd.val,g.v2,g.v3,g.v4,g.sa.val]
def sgH (g:SG):cG:= [Vr g.b (sgV g),Row g.sd eD (g.zs.map dgV),Cl dgH g.zs,Row g.sa eB g.xs]
theorem Cd {fs:List FV}{ds:List Doc}{xs:List Nat}{bl:List (Nat×List Nat)}(hck:k8 fs ds=0) (hz:dsz ds≤30000000) (ht:(gA fs ds).length≤2000000) (hs:rb fs ds=xs) (hr:eZ 83 xs=some bl):bl=ld fs ds:=by
 have h:=(qG hck hz ht).blocks
 have h1:eZ 83 (jW 83 (ld fs ds))=some (ld fs ds):=tO (ag) (ag) (by simp[ld]) (fun q hq=> by
  obtain⟨a,b,c⟩:=h.1 q hq
  have:=ic hq
  exact⟨a,b,c,by have:=h.2.1;omega⟩)
 rw[show jW 83 (ld fs ds)=xs from hs,hr]at h1
 exact Option.some.inj h1
theorem Hm {G:cM}{H:cG}{fv s:SV}{fs:List FV}{xs:List Nat} [hg:Glb G H] [Tab H 26 ig] [Tab H 24 fF] [hf:Sl H fv eF fs] [hs:Sl H s eB xs] [Spc H] (hT:gE G) (hS:kh) (hc:e7 fs=true) (hn:xs.length≤2000000) (hb:∀x∈xs,x<256):
 SC G Tryz.prog 124 [.agg [fv.val].toArray,s.val] H (fun v H'=> (fM fs xs=none∧v= .tuple #[.pointer none,G.err 10]∧H'=H)∨(∃g:SG,fM fs xs=some (g.zs.map dgD)∧g.xs=xs∧v= .tuple #[.pointer (some ⟨g.b,0,none⟩), .nilIface]∧H'=sgH g++H)):=by
 obtain⟨hc1,hc2⟩:=eG hc
 have hne:fs≠ []:=fun h=> by rw[h]at hc1;simp at hc1
 refine sWk Tryz.func124 Tryz.ntmps124 ?_
 refine gk (k:=bxx (k:=fun b2=>?_))
 refine go ?_
 refine c1_ rfl (po (fs:=fs) (a8) (fun f hf=> aY)) (k:=?_)
 rintro _ _ ⟨rfl,(⟨hc0,rfl⟩|⟨hc0,rfl⟩)⟩
 ·exact absurd hc0 (bW)
 refine e_ asn (k:=on_ (qn_ (ws_ (wr_ (e_ mv (k:=?_))))))
 refine e_ (cN rfl) (k:=?_)
 refine gk (k:=dw (k:=go ?_))
 refine c2_ rfl (By 83 (ag) (a8) hb) (k:=?_)
 rintro _ _ (⟨hr,rfl,e,rfl⟩|⟨bl,lb,F0,s21,hr,hB,rfl,rfl⟩)
 ·refine e_ mv (k:=e_ exr (k:=e_ exr (k:=e_ asn (k:=e_ asn (k:=on_ (qn_ (ws_ (ws_ (wr_ (e_ mv (k:=?_)))))))))))
  refine e_ (cR rfl) (k:=?_)
  refine gk (k:=ift (k:=go ?_))
  refine cW cL (as_ 0 (q:=ldv) (k:=as_ 1 (q:=asn) (k:=as_ 2 (q:=asn) (k:=az_ (k:=gk (k:=rt_ Tryz.results124 (k:=?_)))))))
  exact⟨_,hsb, .inl ⟨by rw[fM,hr],rfl,rfl⟩⟩
 have hq:=Ls hb hr
 have hlb:=hB.1
 refine e_ mv (k:=e_ exr (k:=e_ exr (k:=e_ asn (k:=e_ asn (k:=on_ (qn_ (ws_ (ws_ (wr_ (e_ mv (k:=?_)))))))))))
 refine e_ (cN rfl) (k:=?_)
 refine gk (k:=wi_ (k:=fun h1=>?_) (m:=fun h1=>?_))
 ·have hD:fM fs xs=none:=by rw[fM,hr];simp only[];rw[if_neg (a8)]
  refine go ?_
  refine cW cL (as_ 0 (q:=ldv) (k:=as_ 1 (q:=asn) (k:=as_ 2 (q:=asn) (k:=az_ (k:=gk (k:=rt_ Tryz.results124 (k:=?_)))))))
  exact⟨_,hsb, .inl ⟨hD,rfl,rfl⟩⟩
 have hl6:bl.length=6:=a8
 obtain⟨p1,q1,hp1,hq1,hs1⟩:=hB.at6 (i:=1) (a8)
 obtain⟨p3,q3,hp3,hq3,hs3⟩:=hB.at6 (i:=3) (a8)
 obtain⟨p4,q4,hp4,hq4,hs4⟩:=hB.at6 (i:=4) (a8)
 obtain⟨p5,q5,hp5,hq5,hs5⟩:=hB.at6 (i:=5) (a8)
 obtain⟨hb1,hl1⟩:=hq _ (Yj hq1)
 obtain⟨hb5,hl5⟩:=hq _ (Yj hq5)
 have hSS:=xQ (fs:=fs) hr hl6 hq1 hq5
 refine go ?_
 refine di cL (fun i=> [9].contains i) (fun k H=> (k=0→dh H b2 [fv.val])∧(k=2→Sl H s21 eK lb)∧(k=3→Sl H s21 eK lb)∧(k=4→Sl H s21 eK lb)∧(k=6→Sl H s21 eK lb)∧(k=7→Sl H s21 eK lb)∧(k=8→Sl H s21 eK lb)) (?_)
 refine cH 0 rfl rfl (aa) rfl (cE fun H hH=>aF) (?_)
 refine af_ 1 (q:=cE fun H hH=>mv) (k:=?_)
 refine cH 2 rfl rfl (aa) rfl (cE fun H hH=>by have hN:=hH.2.1 rfl;exact ixa (i:=1)) (?_)
 refine cH 3 rfl rfl (aa) rfl (cE fun H hH=>bV) (?_)
 refine cH 4 rfl rfl (aa) rfl (cE fun H hH=>by have hN:=hH.2.2.2.1 rfl;exact lfl) (?_)
 refine af_ 5 (q:=cE fun H hH=>mv) (k:=?_)
 refine cH 6 rfl rfl (aa) rfl (cE fun H hH=>by have hN:=hH.2.2.2.2.1 rfl;exact ixa (i:=5)) (?_)
 refine cH 7 rfl rfl (aa) rfl (cE fun H hH=>by have hN:=hH.2.2.2.2.2.1 rfl;exact fle) (?_)
 refine cH 8 rfl rfl (aa) rfl (cE fun H hH=>by have hN:=hH.2.2.2.2.2.2 rfl;exact lfl) (?_)
 refine cQ 9 rfl (aa) rfl (fun k hk=> ⟨fun hi=> ab,fun hi=> ab,fun hi=> ab,fun hi=> ab,fun hi=> ab,fun hi=> ab,fun hi=> ab⟩) (dm (vs:= [_,_,_]) rfl (LK (ids:=q1.2) (body:=q5.2) hc (a8) (a8) hb1 hb5)) ?_
 rintro _ _ (⟨hd,s42,rfl,rfl⟩|⟨zs,s42,hd,rfl,rfl⟩)
 ·have hD:fM fs xs=none:=by rw[hSS,hd]
  refine af_ 10 (q:=cE fun H hH=>mv) (k:=af_ 11 (q:=cE fun H hH=>exr) (k:=af_ 12 (q:=cE fun H hH=>exr) (k:=af_ 13 (q:=cE fun H hH=>asn) (k:=af_ 14 (q:=cE fun H hH=>asn) (k:=db (aa) (fun k hk=> ⟨fun hi=> absurd hk (ad),fun hi=> ab,fun hi=> ab,fun hi=> absurd hk (ad),fun hi=> ab,fun hi=> ab,fun hi=> absurd hk (ad)⟩) (go ?_))))))
  refine ift (k:=go ?_)
  refine cW cL (as_ 0 (q:=ldv) (k:=as_ 1 (q:=asn) (k:=as_ 2 (q:=asn) (k:=az_ (k:=gk (k:=rt_ Tryz.results124 (k:=?_)))))))
  exact⟨_,hsb, .inl ⟨hD,rfl,rfl⟩⟩
 obtain⟨k1,k2,k3,k4⟩:=rD hc hb1 hb5 (a8) hd
 have hS2:fM fs xs=if k8 fs (zs.map dgD)=0∧rb fs (zs.map dgD)=xs then some (zs.map dgD)else none:=by rw[hSS,hd]
 have hzm:(zs.map dgV).length=zs.length:=Yh ..
 refine af_ 10 (q:=cE fun H hH=>mv) (k:=af_ 11 (q:=cE fun H hH=>exr) (k:=af_ 12 (q:=cE fun H hH=>exr) (k:=af_ 13 (q:=cE fun H hH=>asn) (k:=af_ 14 (q:=cE fun H hH=>asn) (k:=db (aa) (fun k hk=> ⟨fun hi=> absurd hk (ad),fun hi=> ab,fun hi=> ab,fun hi=> absurd hk (ad),fun hi=> ab,fun hi=> ab,fun hi=> absurd hk (ad)⟩) (go ?_))))))
 refine dw (k:=go ?_)
 refine c2_ rfl (JS (ds:=zs.map dgD) hT hS (yR (zs:=zs) inferInstance) (a8) (fun f hf=> aY) (a8) (fun d hd=> ⟨bU,fun v hv=> bJ⟩) k3 k4) (k:=?_)
 rintro _ _ (⟨hck0,s51,rfl,rfl⟩|⟨hck0,ke,hke,rfl,rfl⟩)
 ·have hsg:=(qG hck0 k3 k4).blocks
  have hsgb:∀x∈rb fs (zs.map dgD),x<256:=Bs (ag) (fun q hq=> ⟨(hsg.1 q hq).2.1,(hsg.1 q hq).2.2⟩)
  refine e_ mv (k:=e_ exr (k:=e_ exr (k:=e_ asn (k:=e_ asn (k:=on_ (qn_ (ws_ (ws_ (wr_ (e_ mv (k:=?_)))))))))))
  refine e_ (cN rfl) (k:=?_)
  refine go ?_
  refine sg_ (dm (vs:= [_,_]) rfl (BI hsgb hb)) (k:=?_)
  rintro _ _ ⟨rfl,rfl⟩
  refine gk (k:=wi_ (k:=fun h2=>?_) (m:=fun h2=>?_))
  ·have hD:fM fs xs=none:=by rw[hS2,if_neg (fun h9=> h2 h9.2)]
   refine go ?_
   refine cW cL (as_ 0 (q:=ldv) (k:=as_ 1 (q:=asn) (k:=as_ 2 (q:=asn) (k:=az_ (k:=gk (k:=rt_ Tryz.results124 (k:=?_)))))))
   exact⟨_,hsb, .inl ⟨hD,rfl,rfl⟩⟩
  have hEq:rb fs (zs.map dgD)=xs:=h2
  have hD:fM fs xs=some (zs.map dgD):=by rw[hS2,if_pos ⟨hck0,hEq⟩]
  have hbs:=Cd hck0 k3 k4 hEq hr
  have hq3e:q3.2=fU (gT 0 (dy (gA fs (zs.map dgD)))):=by
   rw[hbs]at hq3
   simp[ld]at hq3
   rw[←hq3]
  rw[hq3e]at hs3
  have hrl:=tE (gA fs (zs.map dgD))
  have hdl:(fU (gT 0 (dy (gA fs (zs.map dgD))))).length≤1000000000:=by
   rw[←hq3e];exact Xi (hq _ (Yj hq3)).2 (a8)
  refine wk_ (qn_ (ws_ (wr_ (e_ mv (k:=e_ (ixa (i:=3)) (k:=go ?_))))))
  refine c1_ rfl (BZ (l:=gT 0 (dy (gA fs (zs.map dgD)))) hsg.2.2.1 (by rw[iR];omega) hdl) (k:=?_)
  rintro _ _ ⟨bd,rfl,rfl⟩
  refine e_ mv (k:=e_ exr (k:=e_ exr (k:=e_ asn (k:=e_ asn (k:=on_ (qn_ (ws_ (ws_ (wr_ (e_ mv (k:=?_)))))))))))
  refine e_ (cN rfl) (k:=?_)
  refine gk (k:=dw (k:=go ?_))
  refine c1_ rfl (Ga (fs:=fs) hne (a8)) (k:=?_)
  rintro _ _ ⟨s76,rfl,rfl⟩
  refine e_ (bld [(0,_)]) (k:=alc (k:=fun b13=>?_))
  refine go ?_
  refine di cL (fun i=> [4,7,15].contains i) (fun k H=> (k=0→dh H b13 [s76.val])∧(k=2→dh H b13 [s76.val])∧(k=10→Sl H s21 eK lb)∧(k=11→Sl H s21 eK lb)∧(k=12→Sl H s21 eK lb)) (?_)
  refine cH 0 rfl rfl (aa) rfl (cE fun H hH=>aF) (?_)
  refine af_ 1 (q:=cE fun H hH=>mv) (k:=?_)
  refine cH 2 rfl rfl (aa) rfl (cE fun H hH=>by have hN:=hH.2.1 rfl;exact lds) (?_)
  refine af_ 3 (q:=cE fun H hH=>mv) (k:=af_ 8 (q:=cE fun H hH=>mv) (k:=af_ 9 (q:=cE fun H hH=>mv) (k:=?_)))
  refine cH 10 rfl rfl (aa) rfl (cE fun H hH=>by have hN:=hH.2.2.1 rfl;exact ixa (i:=4)) (?_)
  refine cH 11 rfl rfl (aa) rfl (cE fun H hH=>by have hN:=hH.2.2.2.1 rfl;exact fle) (?_)
  refine cH 12 rfl rfl (aa) rfl (cE fun H hH=>by have hN:=hH.2.2.2.2 rfl;exact lfl) (?_)
  refine af_ 13 (q:=cE fun H hH=>mv) (k:=?_)
  refine cQ 4 rfl (aa) rfl (fun k hk=> ⟨fun hi=> ab,fun hi=> ab,fun hi=> ab,fun hi=> ab,fun hi=> ab⟩) (dm (vs:= [_,_]) rfl (AU (ds:=zs.map dgD) hT (yR (zs:=zs) inferInstance) (a8) (a8) (fun d hd=> ⟨bU,fun v hv=> bJ⟩) k3)) ?_
  rintro _ _ ⟨gg,lv,rr,zz,rfl,hzz,rfl⟩
  refine af_ 5 (q:=cE fun H hH=>nck) (k:=af_ 6 (q:=cE fun H hH=>fla) (k:=?_))
  refine cQ 7 rfl (aa) rfl (fun k hk=> ⟨fun hi=> ab,fun hi=> absurd hk (ad),fun hi=> ab,fun hi=> ab,fun hi=> ab⟩) (Ev.st ldv) ?_
  rintro _ _ ⟨rfl,rfl⟩
  refine af_ 14 (q:=cE fun H hH=>bld [(0,_),(1,_),(2,_),(3,_),(4,_),(5,_)]) (k:=?_)
  refine cQ 15 rfl (aa) rfl (fun k hk=> ⟨fun hi=> ab,fun hi=> absurd hk (ad),fun hi=> ab,fun hi=> ab,fun hi=> ab⟩) (wq rfl) ?_
  rintro _ _ ⟨b93,rfl,rfl⟩
  refine af_ 16 (q:=cE fun H hH=>asn) (k:=af_ 17 (q:=cE fun H hH=>asn) (k:=db (aa) (fun k hk=> ⟨fun hi=> ab,fun hi=> absurd hk (ad),fun hi=> ab,fun hi=> ab,fun hi=> ab⟩) (gk (k:=rt_ Tryz.results124 (k:=?_)))))
  rw[hEq]
  exact⟨Vr b93 [s76.val,s42.val,lv.val, .pointer (some ⟨bd,0,none⟩),p4.2.val,s51.val]::Row s42 eD (zs.map dgV)::Cl dgH zs::Row s51 eB xs::H,hsb, .inr ⟨⟨b93,s76.val,lv.val, .pointer (some ⟨bd,0,none⟩),p4.2.val,s42,s51,zs,xs⟩,hD,rfl,rfl,rfl⟩⟩
 have hD:fM fs xs=none:=by rw[hS2,if_neg (fun h=> hck0 h.1)]
 refine e_ mv (k:=e_ exr (k:=e_ exr (k:=e_ asn (k:=e_ asn (k:=on_ (qn_ (ws_ (ws_ (wr_ (e_ mv (k:=?_)))))))))))
 refine e_ (cR rfl) (k:=?_)
 refine gk (k:=ift (k:=go ?_))
 refine cW cL (as_ 0 (q:=ldv) (k:=as_ 1 (q:=asn) (k:=as_ 2 (q:=asn) (k:=az_ (k:=gk (k:=rt_ Tryz.results124 (k:=?_)))))))
 exact⟨_,hsb, .inl ⟨hD,rfl,rfl⟩⟩
def eW:Enc Nat:=⟨fun n=> [.int .u64 (n:Int)],1,false,fun _=> rfl,fun _ v h=> aZ,ag,fun _=> rfl,ag⟩
instance {n:Nat}:fH eW (.int .u64 ((n:Nat):Int)) n:=⟨rfl⟩
instance {n:Nat}:kK eW n (.int .u64 ((n:Nat):Int)):=⟨rfl⟩
structure DsG where
 n:Nat
 c:Nat
 ws:List Nat
def Ds (b:Nat) (p:DsG):Hp:=Ex fun s:SV=> [Vr b [.int .i64 ((p.n:Nat):Int), .int .i64 ((p.c:Nat):Int),s.val],Row s eW p.ws]
theorem BD {b n c:Nat}{ws:List Nat}{s:SV}{R:cG}:cK (Vr b [.int .i64 ((n:Nat):Int), .int .i64 ((c:Nat):Int),s.val]::Row s eW ws::R) (Ds b ⟨n,c,ws⟩::R):=Bt (K:=Ds) (i:=b) (a:=⟨n,c,ws⟩) rfl s
theorem Jg {G:cM}{P:Program}{H:cG}{f:FuncId}{args:List Value}{K:Value→cG→Prop}{R:cG}{b:Nat}{p:DsG}(hr:Rem H Ds b p R) (h:∀s:SV,SC G P f args (Vr b [.int .i64 ((p.n:Nat):Int), .int .i64 ((p.c:Nat):Int),s.val]::Row s eW p.ws::R) K):SC G P f args H K:=
 ⟨(h SV.nil).enter,fun w hw=> let ⟨s,hs⟩:=DS (K:=Ds) rfl hr hw;(h s).call w hs⟩
theorem Je {G:cM}{H:cG}{b n:Nat}{i:Int}{v1 v2:Value} [dh H b [.int .i64 ((n:Nat):Int),v1,v2]]:SC G Tryz.prog 172 [.pointer (some ⟨b,0,none⟩), .int .i64 i] H (fun v H'=> v= .bool (decide (0≤i) && decide (i<((n:Nat):Int)))∧H'=H):=by
 refine sWk Tryz.func172 Tryz.ntmps172 ?_
 refine gk (k:=cY 7 14 (k:=fun h1=>gk (k:=edq)) (q:=go ?_))
 refine gk (k:=rt_ Tryz.results172 (k:=?_))
 exact⟨_,hsb,rfl,rfl⟩
theorem MO {G:cM}{H:cG}{b n c i:Nat}{s:SV}{ws:List Nat} [dh H b [.int .i64 ((n:Nat):Int), .int .i64 ((c:Nat):Int),s.val]] [hs:Sl H s eW ws] (hi:i<n) (hn:n≤1048576) (hl:ws.length=(n+63) / 64) (hw:okW ws):SC G Tryz.prog 173 [.pointer (some ⟨b,0,none⟩), .int .i64 ((i:Nat):Int)] H (fun v H'=> v= .bool (jJ ws i)∧H'=H):=by
 have hi64:i / 64<ws.length:=a8
 have hwi:ws[i / 64]? =some (ws.getD (i / 64) 0):=by rw[List.getD_eq_getElem?_getD,Yi hi64];all_goals rfl
 have hx:=nR hw (i / 64)
 have hm:i % 64<64:=Nat.mod_lt _ (ag)
 have hd:ws.getD (i / 64) 0 / 2 ^ (i % 64)≤ws.getD (i / 64) 0:=Nat.div_le_self ..
 have hrng:(decide ((0:Int)≤((i:Nat):Int)) && decide (((i:Nat):Int)<((n:Nat):Int)))=true:=by rw[Ys (a8),Ys (a8)];all_goals rfl
 refine sWk Tryz.func173 Tryz.ntmps173 ?_
 refine go ?_
 refine d2_ rfl (Je) (k:=?_)
 rw[hrng]
 refine e_ mv (k:=cY 14 22 (k:=fun h1=>eg_ mv (k:=eg_ nck (k:=eg_ fla (k:=eg_ ldv (k:=eg_ mv (k:=eg_ (iF rfl rfl i 64 rfl rfl (ag) (aw)) (k:=eg_ ixa (k:=eg_ lel (k:=eg_ mv (k:=eg_ (gQ rfl rfl i 64 rfl rfl (ag)) (k:=eg_ (ei rfl rfl (ws.getD (i / 64) 0) (i % 64) rfl rfl (bS)) (k:=eg_ (fV 18446744073709551616 rfl rfl rfl rfl (ws.getD (i / 64) 0 / 2 ^ (i % 64)) 1 rfl rfl (a8) (a8)) (k:=eg_ ieq (k:=e_ pkt (k:=on_ (edq)))))))))))))))) (q:=e_ asn (k:=on_ (qn_ (wt_ (rt_ Tryz.results173 (k:=?_)))))))
 exact⟨_,hsb,congrArg Value.bool (by
  rw[jJ,Bool.true_and,Bool.eq_iff_iff,decide_eq_true_eq,←IZ];omega),rfl⟩
theorem BY {G:cM}{H:cG}{n:Nat}(hn:n≤1048576):SC G Tryz.prog 158 [.int .i64 ((n:Nat):Int)] H (fun v H'=> ∃b,v= .pointer (some ⟨b,0,none⟩)∧H'=Ds b ⟨n,0,List.replicate ((n+63) / 64) 0⟩::H):=by
 refine sWk Tryz.func158 Tryz.ntmps158 ?_
 refine ws_ (wr_ (e_ asn (k:=on_ (qn_ (ws_ (wr_ (e_ mv (k:=e_ mv (k:=e_ iad (k:=?_))))))))))
 refine e_ (iF rfl rfl (n+63) 64 (a8) rfl (ag) (aw)) (k:=?_)
 refine s_ (gD eW 0 rfl rfl ((n+63) / 64) ((n+63) / 64) rfl rfl rfl (a8) (a8) (a8)) (k:=?_)
 rintro _ _ ⟨s7,rfl,h7n,h7c,rfl⟩
 refine e_ (bld [(0,_),(2,_)]) (k:=bxx (k:=fun b9=>?_))
 refine gk (k:=rt_ Tryz.results158 (k:=?_))
 exact⟨_,BD,b9,rfl,rfl⟩
theorem H6 {G:cM}{H:cG}{n:Nat}(hn:n≤1048576):SC G Tryz.prog 130 [.int .i64 ((n:Nat):Int)] H (fun v H'=> ∃b,v= .tuple #[.pointer (some ⟨b,0,none⟩), .nilIface]∧H'=Ds b ⟨n,0,List.replicate ((n+63) / 64) 0⟩::H):=by
 refine sWk Tryz.func130 Tryz.ntmps130 ?_
 refine ws_ (wr_ (e_ asn (k:=e_ asn (k:=on_ (qn_ (ws_ (ws_ (wr_ (e_ mv (k:=e_ ilt (k:=e_ mv (k:=dQ 3 9 (k:=fun h1=>eg_ mv (k:=eg_ igt (k:=e_ pkf (k:=on_ (edq))))) (q:=on_ (?_))))))))))))))
 refine qn_ (wi_ (k:=fun h2=>?_) (m:=fun h2=>?_))
 ·exact absurd h2 (a8)
 refine wk_ (qn_ (ws_ (wr_ (e_ mv (k:=?_)))))
 refine c1_ rfl (BY hn) (k:=?_)
 rintro _ _ ⟨b,rfl,rfl⟩
 refine e_ asn (k:=e_ asn (k:=on_ (qn_ (wt_ (rt_ Tryz.results130 (k:=?_))))))
 exact⟨_,hsb,b,rfl,rfl⟩
theorem MP {G:cM}{H R:cG}{b n c:Nat}{ws:List Nat}{i:Int} [hg:Glb G R] [hr:Rem H Ds b ⟨n,c,ws⟩ R] (hn:n≤1048576) (hc:c≤1000000000) (hl:ws.length=(n+63) / 64) (hw:okW ws):SC G Tryz.prog 149 [.pointer (some ⟨b,0,none⟩), .int .i64 i] H (fun v H'=> ((i<0∨((n:Nat):Int)≤i)∧v= .tuple #[.bool false,G.err 1]∧H'=R)∨(0≤i∧i<((n:Nat):Int)∧∃(x:Bool) (c':Nat) (ws':List Nat),v= .tuple #[.bool x, .nilIface]∧H'=Ds b ⟨n,c',ws'⟩::R∧c'≤c+1∧ws'.length=ws.length∧okW ws'∧∀j:Nat,jJ ws' j=(decide (((j:Nat):Int)=i) ||jJ ws j))):=by
 refine SC.rem (h:=hr) ?_
 refine Jg (b:=b) (p:=⟨n,c,ws⟩) (R:=R) inferInstance fun s=> ?_
 dsimp only
 refine sWk Tryz.func149 Tryz.ntmps149 ?_
 refine go ?_
 refine d2_ rfl (Je) (k:=gk (k:=wi_ (k:=fun h1=>?_) (m:=fun h1=>?_)))
 ·have hr:i<0∨((n:Nat):Int)≤i:=by have h9:=h1;omega
  refine go ?_
  refine cW cL (as_ 0 (q:=ldv) (k:=as_ 1 (q:=asn) (k:=as_ 2 (q:=asn) (k:=az_ (k:=gk (k:=rt_ Tryz.results149 (k:=?_)))))))
  exact⟨_,hsb, .inl ⟨hr,rfl,rfl⟩⟩
 have hr:0≤i∧i<((n:Nat):Int):=by have h9:=h1;omega
 obtain⟨m,rfl⟩:=Int.eq_ofNat_of_zero_le hr.1
 have hmn:m<n:=a8
 have hm64:m / 64<ws.length:=a8
 have hwi:ws[m / 64]? =some (ws.getD (m / 64) 0):=by rw[List.getD_eq_getElem?_getD,Yi hm64];all_goals rfl
 have hx:=nR hw (m / 64)
 have hp2:=Ew (k:=m % 64) (Nat.mod_lt _ (ag))
 refine go ?_
 refine d2_ rfl (MO hmn hn hl hw) (k:=gk (k:=wi_ (k:=fun h2=>?_) (m:=fun h2=>?_)))
 ·have hbt:jJ ws m=true:=h2
  refine gk (k:=rt_ Tryz.results149 (k:=?_))
  exact⟨_,BD, .inr ⟨a8,hr.2,false,c,ws,rfl,rfl,a8,rfl,hw,fun j=> by by_cases hj:((j:Nat):Int)=((m:Nat):Int) <;> simp[hj] <;> (obtain rfl:j=m:=by omega) <;> exact hbt⟩⟩
 refine go ?_
 refine di cL (fun i=> [13].contains i) (fun k H=> (k=3→dh H b [.int .i64 ((n:Nat):Int), .int .i64 ((c:Nat):Int),s.val])∧(k=6→Sl H s eW ws)∧(k=7→Sl H s eW ws)∧(k=12→Sl H s eW ws)) (af_ 0 (q:=cE fun H hH=>mv) (k:=af_ 1 (q:=cE fun H hH=>nck) (k:=af_ 2 (q:=cE fun H hH=>fla) (k:=?_))))
 refine cH 3 rfl rfl (aa) rfl (cE fun H hH=>aD) (?_)
 refine af_ 4 (q:=cE fun H hH=>mv) (k:=?_)
 refine cH 5 rfl rfl (aa) rfl (cE fun H hH=>iF rfl rfl m 64 rfl rfl (ag) (aw)) (?_)
 refine cH 6 rfl rfl (aa) rfl (cE fun H hH=>by have hN:=hH.2.1 rfl;exact ixa) (?_)
 refine cH 7 rfl rfl (aa) rfl (cE fun H hH=>by have hN:=hH.2.2.1 rfl;exact lel) (?_)
 refine af_ 8 (q:=cE fun H hH=>mv) (k:=?_)
 refine cH 9 rfl rfl (aa) rfl (cE fun H hH=>gQ rfl rfl m 64 rfl rfl (ag)) (?_)
 refine cH 10 rfl rfl (aa) rfl (cE fun H hH=>sZ 18446744073709551616 rfl rfl rfl rfl 1 (m % 64) rfl rfl (a8)) (?_)
 refine cH 11 rfl rfl (aa) rfl (cE fun H hH=>j0 18446744073709551616 rfl rfl rfl rfl (ws.getD (m / 64) 0) (1*2 ^ (m % 64)) rfl rfl (a8) (a8)) (?_)
 refine cH 12 rfl rfl (aa) rfl (cE fun H hH=>by have hN:=hH.2.2.2 rfl;exact ixa) (?_)
 refine cQ 13 rfl (aa) rfl (fun k hk=> ⟨fun hi=> ab,fun hi=> ab,fun hi=> ab,fun hi=> ab⟩) (fo (i:=m / 64) rfl rfl rfl (a8)) ?_
 rintro _ _ ⟨rfl,rfl⟩
 rw[Nat.one_mul,show ws.set (m / 64) (ws.getD (m / 64) 0 ||| 2 ^ (m % 64))=D7 ws m from rfl]
 refine db (aa) (fun k hk=> ⟨fun hi=> absurd hk (ad),fun hi=> absurd hk (ad),fun hi=> absurd hk (ad),fun hi=> absurd hk (ad)⟩) (go ?_)
 refine gk (k:=rt_ Tryz.results149 (k:=?_))
 exact⟨_,BD, .inr ⟨a8,hr.2,true,c+1,D7 ws m,rfl,rfl,Nat.le_refl _,Gk ws m,J0 hw m,fun j=> by rw[Gi hm64];congr 1;exact decide_eq_decide.2 (a8)⟩⟩
end Go.Sx
