import Derived.Test.YtefgpomabdplbaaGreatDoorQ48
set_option linter.unusedVariables false
set_option linter.unusedSimpArgs false
set_option linter.unusedSectionVars false
set_option linter.unnecessarySimpa false
set_option maxHeartbeats 0
namespace Go.Sx
open Go Go.Proofs
set_option maxRecDepth 100000
structure CaseA (p:PrG) (fs:List FV) (ps:List ja) (k2:List Nat) (n:Nat):Prop extends I0 p fs ps where
 c1:p.code.length≤1048576
 cb:∀x∈p.code,x<256
 c2:k2.length≤1048576
 kb:∀x∈k2,x<256
 nb:n<18446744073709551616
theorem codeN_J {op n:Nat}{a b:List Ins}:codeN (!isOne op) a b (xOf op n)=codeJ op n a b:=by
 unfold codeN codeJ
 cases isOne op <;> rfl
theorem codeN_one {nn:Bool}{a b b':List Ins}{x:Ins}(h:nn=false∨b=b'):codeN nn a b x=codeN nn a b' x:=by
 rcases h with rfl|rfl <;> rfl
theorem live_up {q:PtD}(h:rise (q.ds.map (·.1))=true) {i d:Nat}(hd:(liveQ q)[i]? =some d):∀e∈(liveQ q).drop (i+1),idQ q d<idQ q e:=by
 intro e he
 have hp:(liveQ q).Pairwise (· < ·):=(List.pairwise_lt_range (n:=q.ds.length)).filter _
 have hdr:(liveQ q).drop i=d::(liveQ q).drop (i+1):=dF hd
 have h2:=hp.drop (i:=i)
 rw[hdr]at h2
 have h3:=(List.pairwise_cons.1 h2).1 e he
 have h4:e∈List.range q.ds.length:=(List.mem_filter.1 (Yp he)).1
 exact rise_getD h d e h3 (by rw[Yh];exact List.mem_range.1 h4)
theorem vals_fw {fs:List FV}{ds:List Doc}(h:jF fs ds):∀d∈ds,d.2.length≤1000000000:=fun d hd=> by
 have:=(nW (h.vals d hd)).1
 omega
theorem hits_take {f:Nat→Option Hit}{l:List Nat}{i d:Nat}(h:l[i]? =some d):(l.take (i+1)).filterMap f=(l.take i).filterMap f++(match f d with|some x=> [x] |none=> []):=by
 rw[cP h,List.filterMap_append]
 cases hf:f d <;> simp[hf]
theorem hits_few {f:Nat→Option Hit}(l:List Nat):(l.filterMap f).length≤l.length:=List.length_filterMap_le ..
theorem xOf_eq {op n A B:Nat}(h:(op=12∨op=13)∧A=n∧B=0∨op=14∧A=2∧B=2∨¬(op=12∨op=13∨op=14)∧A=0∧B=0):xOf op n=(op,A,B):=by
 unfold xOf
 rcases h with⟨h1,rfl,rfl⟩|⟨rfl,rfl,rfl⟩|⟨h1,rfl,rfl⟩
 ·rw[if_pos h1]
 ·rfl
 ·rw[if_neg (aa),if_neg (aa)]
theorem isOne_eq {op:Nat}:isOne op=true↔op=11∨op=12∨op=13:=by
 unfold isOne
 simp only[Bool.or_eq_true,beq_iff_eq]
 omega
theorem lawAlgebra {G:cK}{H:cG}{fv pv kv:SV}{kp:Int}{n:Nat}{k2:List Nat}{a:PrA}{p:PrG}{fs:List FV}{lp:List (SV×SV)}{ps:List ja} [hg:Glb G H] [hia:Isa H] [Tab H 27 lg] [Tab H 25 jP] [hf:Sl H fv eF fs] [hd:Sl H pv eP lp] [hp:gE H a p] [hpc:qA H a p] [hkv:Sl H kv eB k2] [Spc H] (hT:gU G) (hS:lz) (hSI:jS) (hCI:fg) (hpi:oS H lp ps) (hco:CaseA p fs ps k2 n):
 SC G Tryz.prog 4 [.agg [fv.val,pv.val, .int .i64 kp,a.av.val,a.cu.val,a.ne.val, .bool p.all,a.dr.val,a.co.val,kv.val, .int .u64 ((n:Nat):Int)].toArray] H (fun v H'=> v= .bool true∧H'=H):=by
 haveI hnil:∀H9,Sl H9 SV.nil oE []:=fun H9=> ⟨fun L hL=> ⟨rfl,Nat.le_refl _, .inl ⟨rfl,rfl⟩⟩⟩
 haveI hco9:Sl H a.co eB p.code:=hpc.co
 have hnb:=hco.nb
 have hc1:=hco.c1
 have hc2:=hco.c2
 refine sWk Tryz.func4 Tryz.ntmps4 ?_
 refine gk (k:=bxx (k:=fun b1=>?_))
 refine go ?_
 refine d0_ rfl (LR hT hS hSI hCI) (k:=gk (k:=wi_ (k:=fun h1=>?_) (m:=fun h1=>?_)))
 ·exact absurd h1 (an)
 refine go ?_
 refine c1_ rfl (IL hT hS (hpi.less (hsb)) hco.pl hco.sm hco.fl hco.fn) (k:=?_)
 rintro _ _ (⟨rfl,rfl⟩|⟨d,dv,xv,pt,ws,F,hfx,hdm,hdo,hpt,rfl,rfl⟩)
 ·refine gk (k:=alc (k:=fun b4=>?_))
  refine gk (k:=wi_ (k:=fun h2=>?_) (m:=fun h2=>?_))
  ·refine gk (k:=rt_ Tryz.results4 (k:=?_))
   exact⟨_,hsb,rfl,rfl⟩
  exact absurd h2 (an)
 obtain⟨T,hk⟩:=hco.pq d hdm ws hfx hdo
 haveI hpt':∀H9,dq (fB F::H9) pt ⟨fs,d.1,ws⟩:=fun H9=> hpt.less lG
 obtain⟨q,hq⟩:∃q:PtD,q=⟨fs,d.1,ws⟩:=⟨_,rfl⟩
 rw[←hq]at hk hpt'
 have hps:=hk.sm
 have hlq:(liveQ q).length≤4096:=Xi (List.length_filter_le _ _) (by rw[List.length_range];exact hk.seg.few)
 refine gk (k:=alc (k:=fun b4=>?_))
 refine gk (k:=wi_ (k:=fun h3=>?_) (m:=fun h3=>?_))
 ·exact absurd h3 (an)
 refine go ?_
 refine c3_ rfl (tHitsOf (a:=a) (p:=p) (pt:=pt) (q:=q) (k:=p.code) hSI hCI hk (aa) hco.cb) (k:=?_)
 rintro _ _ (⟨e1,hne1,rfl,rfl⟩|⟨ca,sh1,hnw1,rfl,rfl⟩)
 ·refine go ?_
  refine go ?_
  refine c3_ rfl (tHitsOf (a:=a) (p:=p) (pt:=pt) (q:=q) (k:=k2) hSI hCI hk (aa) hco.kb) (k:=?_)
  rintro _ _ (⟨e2,hne2,rfl,rfl⟩|⟨cb,sh2,hnw2,rfl,rfl⟩)
  ·refine e_ mv (k:=e_ exr (k:=e_ exr (k:=e_ asn (k:=e_ asn (k:=on_ (qn_ (ws_ (ws_ (wr_ (e_ mv (k:=?_)))))))))))
   refine e_ ((by first|exact cM rfl|exact cZ rfl)) (k:=?_)
   refine e_ mv (k:=dN 3 71 (k:=fun h4=>eg_ mv (k:=eg_ ((by first|exact cM rfl|exact cZ rfl)) (k:=e_ pkf (k:=on_ (edq))))) (q:=on_ (qn_ (wi_ (k:=fun h5=>?_) (m:=fun h5=>?_)))))
   ·refine gk (k:=rt_ Tryz.results4 (k:=?_))
    exact⟨_,hsb,rfl,rfl⟩
   exact absurd h5 (an)
  refine e_ mv (k:=e_ exr (k:=e_ exr (k:=e_ asn (k:=e_ asn (k:=on_ (qn_ (ws_ (ws_ (wr_ (e_ mv (k:=?_)))))))))))
  refine e_ ((by first|exact cM rfl|exact cZ rfl)) (k:=?_)
  refine e_ mv (k:=dN 3 71 (k:=fun h6=>eg_ mv (k:=eg_ ((by first|exact cM rfl|exact cZ rfl)) (k:=e_ pkf (k:=on_ (edq))))) (q:=on_ (qn_ (wi_ (k:=fun h7=>?_) (m:=fun h7=>?_)))))
  ·refine gk (k:=rt_ Tryz.results4 (k:=?_))
   exact⟨_,hsb,rfl,rfl⟩
  exact absurd h7 (an)
 refine go ?_
 refine go ?_
 refine c3_ rfl (tHitsOf (a:=a) (p:=p) (pt:=pt) (q:=q) (k:=k2) hSI hCI hk (aa) hco.kb) (k:=?_)
 rintro _ _ (⟨e2,hne2,rfl,rfl⟩|⟨cb,sh2,hnw2,rfl,rfl⟩)
 ·refine e_ mv (k:=e_ exr (k:=e_ exr (k:=e_ asn (k:=e_ asn (k:=on_ (qn_ (ws_ (ws_ (wr_ (e_ mv (k:=?_)))))))))))
  refine e_ ((by first|exact cM rfl|exact cZ rfl)) (k:=?_)
  refine e_ mv (k:=dN 3 71 (k:=fun h8=>eg_ mv (k:=eg_ ((by first|exact cM rfl|exact cZ rfl)) (k:=e_ pkf (k:=on_ (edq))))) (q:=on_ (qn_ (wi_ (k:=fun h9=>?_) (m:=fun h9=>?_)))))
  ·refine gk (k:=rt_ Tryz.results4 (k:=?_))
   exact⟨_,hsb,rfl,rfl⟩
  exact absurd h9 (an)
 refine e_ mv (k:=e_ exr (k:=e_ exr (k:=e_ asn (k:=e_ asn (k:=on_ (qn_ (ws_ (ws_ (wr_ (e_ mv (k:=?_)))))))))))
 refine e_ ((by first|exact cM rfl|exact cZ rfl)) (k:=?_)
 refine e_ mv (k:=dN 3 71 (k:=fun h10=>eg_ mv (k:=eg_ ((by first|exact cM rfl|exact cZ rfl)) (k:=e_ pkf (k:=on_ (edq))))) (q:=on_ (qn_ (wi_ (k:=fun h11=>?_) (m:=fun h11=>?_)))))
 ·exact absurd h11 (an)
 refine go ?_
 refine c1_ rfl (BF (xs:=p.code) (aa) hco.cb) (k:=?_)
 rintro _ _ (⟨hdn,rfl,rfl⟩|⟨sa,ca2,hdc1,rfl,rfl⟩)
 ·exact absurd (JD hnw1).2.2 (by intro g1;cases hdn.symm.trans g1)
 obtain rfl:ca2=ca:=by have g1:=(JD hnw1).2.2;rw[show lr (pAll p p.code)=lq p.code.length p.code from rfl,hdc1]at g1;exact Option.some.inj g1
 refine go ?_
 refine c1_ rfl (BF (xs:=k2) (aa) hco.kb) (k:=?_)
 rintro _ _ (⟨hdn,rfl,rfl⟩|⟨sb,cb2,hdc2,rfl,rfl⟩)
 ·exact absurd (JD hnw2).2.2 (by intro g1;cases hdn.symm.trans g1)
 obtain rfl:cb2=cb:=by have g1:=(JD hnw2).2.2;rw[show lr (pAll p k2)=lq k2.length k2 from rfl,hdc2]at g1;exact Option.some.inj g1
 obtain⟨ha0,_⟩:=newR_g hnw1
 obtain⟨hb0,_⟩:=newR_g hnw2
 have hal:ca2.length≤1048576:=Xi (x7 _ _ _ hco.cb hdc1).2 hc1
 have hbl:cb2.length≤1048576:=Xi (x7 _ _ _ hco.kb hdc2).2 hc2
 refine e_ mv (k:=e_ exr (k:=e_ exr (k:=e_ asn (k:=e_ asn (k:=on_ (qn_ (ws_ (ws_ (wr_ (e_ mv (k:=?_)))))))))))
 refine e_ ((by first|exact cM rfl|exact cZ rfl)) (k:=?_)
 refine e_ mv (k:=dN 3 91 (k:=fun h12=>eg_ mv (k:=eg_ ((by first|exact cM rfl|exact cZ rfl)) (k:=e_ pkf (k:=on_ (edq))))) (q:=e_ mv (k:=dN 4 96 (k:=fun h13=>eg_ mv (k:=eg_ lnn (k:=eg_ ieq (k:=e_ pkf (k:=on_ (edq)))))) (q:=e_ mv (k:=dN 4 101 (k:=fun h14=>eg_ mv (k:=eg_ lnn (k:=eg_ ieq (k:=e_ pkf (k:=on_ (edq)))))) (q:=on_ (qn_ (wi_ (k:=fun h15=>?_) (m:=fun h15=>?_)))))))))
 ·exact absurd h15 (by simp only[Bool.false_eq_true,Bool.true_eq_false,or_self,false_or,or_false];omega)
 refine go ?_
 refine c1_ rfl (tLiveDocs (a:=pt) (q:=q) hk.pt (vals_fw hk.seg)) (k:=?_)
 rintro _ _ ⟨sl,zs,rfl,hzs,rfl⟩
 have hzl:zs.length=(liveQ q).length:=by have h9:=congrArg List.length hzs;simpa using h9
 have hzv:(zs.map dgV).length=(liveQ q).length:=by rw[Yh];exact hzl
 refine gk (k:=dt (Nat) (fun y=> 6≤y∧y≤15) (fun y=> [(13, .int .i64 ((y:Nat):Int))]) [(1,_),(3,_),(6,_),(8,_),(10,_),(11,_),(12,_)] (fun y=> []) _ (fun y=> 15 - y) (6) (h0:=?_) (k:=?_))
 ·try dsimp only
  exact⟨ag,ag⟩
 rintro op ⟨h6,h15⟩
 try dsimp only[Yd,Ye]at*
 refine gk (k:=wi_ (k:=fun h16=>?_) (m:=fun h16=>?_))
 ·have h14:op≤14:=by have g9:=h16;omega
  refine wk_ (qn_ (ws_ (wb_ (ws_ (wr_ (e_ mv (k:=e_ (bld [(0,_)]) (k:=alc (k:=fun b14=>?_)))))))))
  refine sto (k:=on_ (qn_ (ws_ (wr_ (e_ mv (k:=e_ asn (k:=on_ (qn_ (w7 (SV×Nat×Nat×(List Ins)) (fun y=> (((isOne op=true∧y.1=SV.nil∧y.2.2.2= [])∨(isOne op=false∧y.1=sb∧y.2.2.2=cb2))∧xOf op n=(op,y.2.1,y.2.2.1))) (fun y=> [(15,y.1.val)]) [15,111,112,113,114,115,116,117,118,119,120,121,122,123] (fun y=> [Vr b14 [.int .i64 ((op:Nat):Int), .int .u64 ((y.2.1:Nat):Int), .int .u64 ((y.2.2.1:Nat):Int)]]) ((Row sl eD (zs.map dgV)::Cl dgH zs::Row sb oE cb2::Row sa oE ca2::Row sh2 rb ((liveQ q).filterMap (hitA p q cb2))::Row sh1 rb ((liveQ q).filterMap (hitA p q ca2))::Vr b4 [dv.val,xv.val]::fB F::Vr b1 [fv.val,pv.val, .int .i64 kp,a.av.val,a.cu.val,a.ne.val, .bool p.all,a.dr.val,a.co.val,kv.val, .int .u64 ((n:Nat):Int)]::H)) ?_ ?_)))))))))
  ·refine gk (k:=wi_ (k:=fun h17=>?_) (m:=fun h17=>?_))
   ·obtain rfl:op=11:=by have g9:=h17;omega
    refine gk (k:=jnE ((SV.nil,0,0, [])) (q:=?_))
    exact⟨.inl ⟨rfl,rfl,rfl⟩,rfl⟩
   refine gk (k:=wi_ (k:=fun h18=>?_) (m:=fun h18=>?_))
   ·have h123:op=12∨op=13:=by have g9:=h18;omega
    refine gk (k:=wi_ (k:=fun h19=>?_) (m:=fun h19=>?_))
    ·have h123:op=12∨op=13:=by have g9:=h19;omega
     refine gk (k:=jnE ((SV.nil,n,0, [])) (q:=?_))
     exact⟨.inl ⟨isOne_eq.2 (aa),rfl,rfl⟩,xOf_eq (.inl ⟨h123,rfl,rfl⟩)⟩
    refine gk (k:=wi_ (k:=fun h20=>?_) (m:=fun h20=>?_))
    ·obtain rfl:op=14:=by have g9:=h20;omega
     refine gk (k:=jnE ((sb,2,2,cb2)) (q:=?_))
     exact⟨.inr ⟨rfl,rfl,rfl⟩,rfl⟩
    have hno:¬(op=11∨op=12∨op=13∨op=14):=by have g9:=h20;omega
    refine gk (k:=jnE ((sb,0,0,cb2)) (q:=?_))
    exact⟨.inr ⟨by cases ho:isOne op with|false=> rfl|true=> exact absurd (isOne_eq.1 ho) (aa),rfl,rfl⟩,xOf_eq (.inr (.inr ⟨aa,rfl,rfl⟩))⟩
   refine gk (k:=wi_ (k:=fun h21=>?_) (m:=fun h21=>?_))
   ·have h123:op=12∨op=13:=by have g9:=h21;omega
    refine gk (k:=jnE ((SV.nil,n,0, [])) (q:=?_))
    exact⟨.inl ⟨isOne_eq.2 (aa),rfl,rfl⟩,xOf_eq (.inl ⟨h123,rfl,rfl⟩)⟩
   refine gk (k:=wi_ (k:=fun h22=>?_) (m:=fun h22=>?_))
   ·obtain rfl:op=14:=by have g9:=h22;omega
    refine gk (k:=jnE ((sb,2,2,cb2)) (q:=?_))
    exact⟨.inr ⟨rfl,rfl,rfl⟩,rfl⟩
   have hno:¬(op=11∨op=12∨op=13∨op=14):=by have g9:=h22;omega
   refine gk (k:=jnE ((sb,0,0,cb2)) (q:=?_))
   exact⟨.inr ⟨by cases ho:isOne op with|false=> rfl|true=> exact absurd (isOne_eq.1 ho) (aa),rfl,rfl⟩,xOf_eq (.inr (.inr ⟨aa,rfl,rfl⟩))⟩
  rintro⟨r,A,B,lrb⟩ ⟨hrr,hxo⟩
  try dsimp only[Yd,Ye]at*
  have hnn:(!isOne op)=false∧r=SV.nil∨(!isOne op)=true∧lrb≠ []:=by
   rcases hrr with⟨g1,g2,_⟩|⟨g1,_,g3⟩
   ·exact .inl ⟨by rw[g1];all_goals rfl,g2⟩
   ·exact .inr ⟨by rw[g1];all_goals rfl,by rw[g3];exact List.length_pos_iff.1 hb0⟩
  have hcN:codeN (!isOne op) ca2 lrb (op,A,B)=codeJ op n ca2 cb2:=by
   rw[←codeN_J,hxo]
   exact codeN_one (by
    rcases hrr with⟨g1,_,_⟩|⟨_,_,g3⟩
    ·exact .inl (by rw[g1];all_goals rfl)
    ·exact .inr g3)
  have hEJ:=codeJ_e h6 h14 hnb (dec_insE (p:=pAll p p.code) hco.cb (JD hnw1).2.2) (dec_insE (p:=pAll p k2) hco.kb (JD hnw2).2.2)
  have hJb:=encC_byte hEJ
  have hJl:=encC_le hEJ
  have hJc:=(codeJ_len (op:=op) (n:=n) (a:=ca2) (b:=cb2)).1
  have hJn:=newR_J (n:=n) h6 h14 hnb hco.cb hco.kb hnw1 hnw2
  have hrbl:lrb.length≤1048576:=by
   rcases hrr with⟨_,_,g3⟩|⟨_,_,g3⟩
   ·rw[g3];exact Yl _
   ·rw[g3];exact hbl
  haveI hrs:∀H9,Sl (Row sb oE cb2::H9) r oE lrb:=fun H9=> by
   rcases hrr with⟨_,g2,g3⟩|⟨_,g2,g3⟩
   ·rw[g2,g3];exact hnil _
   ·rw[g2,g3];infer_instance
  refine go ?_
  refine c3_ rfl (tJoined (a:=ca2) (b:=lrb) (nn:= !isOne op) ha0 hnn (by rw[hcN];exact hEJ) (aa) (aa)) (k:=?_)
  rintro _ _ ⟨s128,rfl,rfl⟩
  rw[hcN]
  refine go ?_
  refine eg (k:=go ?_)
  refine c3_ rfl (tHitsOf (a:=a) (p:=p) (pt:=pt) (q:=q) (k:=encC (codeJ op n ca2 cb2)) hSI hCI hk (aa) hJb) (k:=?_)
  rintro _ _ (⟨e3,hne3,rfl,rfl⟩|⟨ljc,sh3,hnw3,rfl,rfl⟩)
  ·rw[hJn]at hne3;cases hne3
  obtain rfl:codeJ op n ca2 cb2=ljc:=by rw[hJn]at hnw3;exact Except.ok.inj hnw3
  refine e_ mv (k:=e_ exr (k:=e_ exr (k:=e_ asn (k:=e_ asn (k:=on_ (qn_ (ws_ (ws_ (wr_ (e_ mv (k:=?_)))))))))))
  refine e_ (cM rfl) (k:=?_)
  refine on_ (qn_ (eg (k:=wk_ (qn_ (ws_ (wr_ (?_)))))))
  refine s_ (iN rb rfl) (k:=?_)
  rintro _ _ ⟨s144,rfl,rfl⟩
  refine e_ asn (k:=on_ (qn_ (ws_ (wr_ (e_ mv (k:=e_ (bld [(0,_)]) (k:=bxx (k:=fun b147=>?_))))))))
  refine e_ asn (k:=on_ (qn_ (ws_ (wr_ (e_ mv (k:=e_ (bld [(0,_)]) (k:=bxx (k:=fun b150=>?_))))))))
  refine gk (k:=dt (Nat×SV×Nat×Nat) (fun y=> y.1≤(liveQ q).length∧BookAt (idQ q) (valA p q ca2) ((liveQ q).drop y.1) ((liveQ q).filterMap (hitA p q ca2)) y.2.2.1∧BookAt (idQ q) (valA p q cb2) ((liveQ q).drop y.1) ((liveQ q).filterMap (hitA p q cb2)) y.2.2.2) (fun y=> [(20,y.2.1.val),(153, .int .i64 ((y.1:Nat):Int))]) [(1,_),(3,_),(6,_),(8,_),(10,_),(11,_),(12,_),(13,_),(18,_),(21,_),(22,_),(151,_),(152,_)] (fun y=> [Vr b147 [sh1.val, .int .i64 ((y.2.2.1:Nat):Int)],Vr b150 [sh2.val, .int .i64 ((y.2.2.2:Nat):Int)],Row y.2.1 rb (((liveQ q).take y.1).filterMap (hitR p q op n ca2 cb2))]) _ (fun y=> (liveQ q).length - y.1) ((0,s144,0,0)) (h0:=?_) (k:=?_))
  ·try dsimp only
   exact⟨Yl _,book_start rfl,book_start rfl⟩
  rintro⟨i,u,k1,k3⟩ ⟨hi,hb1,hb2⟩
  try dsimp only[Yd,Ye]at*
  refine gk (k:=wi_ (k:=fun h23=>?_) (m:=fun h23=>?_))
  ·obtain⟨d0,hd0⟩:∃d0,(liveQ q)[i]? =some d0:=⟨_,Yi (by have g9:=h23;omega)⟩
   obtain⟨z,hz⟩:∃z:DG,zs[i]? =some z:=⟨_,Yi (by have g9:=(Yk.1 hd0).1;omega)⟩
   have hzid:z.d=idQ q d0:=by
    have g1:=congrArg (fun l=> l[i]?) hzs
    simp only[Xd,hz,hd0,Option.map_some]at g1
    exact Option.some.inj g1
   have hzd:(zs.map dgV)[i]? =some (idQ q d0,z.s):=by rw[Xd,hz];show some (z.d,z.s)=_;rw[hzid]
   have hup:=live_up hk.seg.up hd0
   rw[dF hd0]at hb1 hb2
   obtain⟨hv1,hb1'⟩:=book_step hb1 hup (valA_ok (p:=p) (q:=q) ca2 d0).z
   obtain⟨hv2,hb2'⟩:=book_step hb2 hup (valA_ok (p:=p) (q:=q) cb2 d0).z
   have hf1:=hits_few (f:=hitA p q ca2) (liveQ q)
   have hf2:=hits_few (f:=hitA p q cb2) (liveQ q)
   have hf3:=hits_few (f:=hitR p q op n ca2 cb2) ((liveQ q).take i)
   rw[Yg]at hf3
   have htk:=hits_take (f:=hitR p q op n ca2 cb2) hd0
   refine wk_ (qn_ (ws_ (wb_ (ws_ (wr_ (e_ ixa (k:=e_ (jn (hy:=hzd)) (k:=alc (k:=fun b24=>?_)))))))))
   refine go ?_
   refine d2_ rfl (tScore (k:=k1) (s:=sh1) (hs:=(liveQ q).filterMap (hitA p q ca2)) hb1.1 (aa)) (k:=?_)
   rw[hv1]
   refine go ?_
   refine d2_ rfl (tScore (k:=k3) (s:=sh2) (hs:=(liveQ q).filterMap (hitA p q cb2)) hb2.1 (aa)) (k:=?_)
   rw[hv2]
   refine go ?_
   refine go ?_
   refine cp_ (vs:=[_,_,_,_,_,_]) rfl (tValue (op:=op) (n:=n) h6 h14) (k:=gk (k:=wi_ (k:=fun h24=>?_) (m:=fun h24=>?_)))
   ·have hrr2:hitR p q op n ca2 cb2 d0=some (idQ q d0,(valR op n (valA p q ca2 d0) (valA p q cb2 d0)).2):=if_pos h24
    rw[hrr2]at htk
    refine wr_ (e_ mv (k:=e_ fla (k:=e_ ldv (k:=e_ mv (k:=e_ (bld [(0,_),(1,_)]) (k:=gz rb (k:=fun s188=>?_)))))))
    refine app (k:=fun s189=>?_)
    rw[←htk]
    refine go ?_
    refine ln_ ((i+1,s189,skipB ((liveQ q).filterMap (hitA p q ca2)) k1 (idQ q d0),skipB ((liveQ q).filterMap (hitA p q cb2)) k3 (idQ q d0))) (k:=?_)
    try dsimp only
    exact⟨by have g9:=(Yk.1 hd0).1;omega,hb1',hb2'⟩
   have hrr2:hitR p q op n ca2 cb2 d0=none:=if_neg (by have g9:=h24;rw[g9];decide)
   rw[hrr2,Ym]at htk
   rw[←htk]
   refine go ?_
   refine ln_ ((i+1,u,skipB ((liveQ q).filterMap (hitA p q ca2)) k1 (idQ q d0),skipB ((liveQ q).filterMap (hitA p q cb2)) k3 (idQ q d0))) (k:=?_)
   try dsimp only
   exact⟨by have g9:=(Yk.1 hd0).1;omega,hb1',hb2'⟩
  obtain rfl:i=(liveQ q).length:=by have g9:=h23;omega
  rw[List.take_length]
  have hgot:(liveQ q).filterMap (hitA p q (codeJ op n ca2 cb2))=(liveQ q).filterMap (hitR p q op n ca2 cb2):=by rw[hit_J h6 h14 hnw1 hnw2]
  have hf3:=hits_few (f:=hitA p q (codeJ op n ca2 cb2)) (liveQ q)
  refine go ?_
  refine d2_ rfl (LI (xs:=(liveQ q).filterMap (hitA p q (codeJ op n ca2 cb2))) (ys:=(liveQ q).filterMap (hitR p q op n ca2 cb2)) (aa)) (k:=gk (k:=wi_ (k:=fun h25=>?_) (m:=fun h25=>?_)))
  ·exact absurd h25 (by simp[hgot])
  refine go ?_
  refine ln_ (op+1) (k:=?_)
  try dsimp only
  exact⟨aa,aa⟩
 refine gk (k:=rt_ Tryz.results4 (k:=?_))
 exact⟨_,hsb,rfl,rfl⟩
end Go.Sx
