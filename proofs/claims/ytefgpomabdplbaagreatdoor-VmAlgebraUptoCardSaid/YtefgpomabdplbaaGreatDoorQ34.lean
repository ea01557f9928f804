import Derived.Test.YtefgpomabdplbaaGreatDoorQ33
set_option linter.unusedVariables false
set_option linter.unusedSimpArgs false
set_option linter.unusedSectionVars false
set_option linter.unnecessarySimpa false
set_option maxHeartbeats 0
namespace Go.Sx
open Go Go.Proofs
set_option maxRecDepth 100000
theorem zG {G:cK}{P:Program}{f:FuncId}{args:List Value}{H H':cG}{K:Value→cG→Prop}(hs:cJ H H') (h:SC G P f args H' K):SC G P f args H K:=h.heap fun w hw=> hs.sat hw
theorem LK {G:cK}{H:cG}{b:Nat}{n:Int}{v0 v2 v3:Value} [cQ H b [v0, .int .i64 n,v2,v3]]:SC G Tryz.prog 36 [.pointer (some ⟨b,0,none⟩)] H (fun v H'=> v= .int .i64 n∧H'=H):=by
 refine sWk Tryz.func36 Tryz.ntmps36 ?_
 refine go ?_
 refine gk (k:=rt_ Tryz.results36 (k:=?_))
 exact⟨_,hsb,rfl,rfl⟩
class zI (H:cG) (lp:Option Nat) (im sk:outParam SV) (ps:outParam (List Po)):Prop where
 at_:∀p,lp=some p→cQ H p [im.val, .int .i64 ((ps.length:Nat):Int), .int .i64 ((dg ps:Nat):Int),sk.val]∧Sl H im eB (dx ps)∧Sl H sk eSk (fj ps)
instance {H:cG}{lp:Option Nat}{im sk:SV}{ps:List Po}:zI (LPh lp im sk ps::H) lp im sk ps:=⟨fun p hp=> by subst hp;exact⟨inferInstance,inferInstance,inferInstance⟩⟩
instance zI.tail {A:Hp}{H:cG}{lp:Option Nat}{im sk:SV}{ps:List Po} [h:zI H lp im sk ps]:zI (A::H) lp im sk ps:=⟨fun p hp=> by
 obtain⟨h1,h2,h3⟩:=h.at_ p hp
 exact⟨inferInstance,inferInstance,inferInstance⟩⟩
theorem wg {G:cK}{H:cG}{b:Nat}{lp:Option Nat}{im sk:SV}{ps:List Po}{v0 v1 v3 v4 v5 v6:Value} [cQ H b [v0,v1,lpV lp,v3,v4,v5,v6]] [hl:zI H lp im sk ps] (hn:lp=none→ps= []):SC G Tryz.prog 13 [.pointer (some ⟨b,0,none⟩)] H (fun v H'=> v= .int .i64 ((ps.length:Nat):Int)∧H'=H):=by
 refine sWk Tryz.func13 Tryz.ntmps13 ?_
 refine ws_ (wr_ (e_ asn (k:=on_ (qn_ (ws_ (ws_ (wr_ (e_ mv (k:=e_ nck (k:=e_ fla (k:=e_ ldv (k:=?_))))))))))))
 refine e_ (dU rfl) (k:=?_)
 refine gk (k:=wi_ (k:=fun h1=>?_) (m:=fun h1=>?_))
 ·have hln:lp=none:=by have h9:=h1;cases lp with|none=> rfl|some p=> simp at h9
  have hps:=hn hln
  refine gk (k:=rt_ Tryz.results13 (k:=?_))
  exact⟨_,hsb,by rw[hps];all_goals rfl,rfl⟩
 obtain⟨p,rfl⟩:∃p,lp=some p:=by have h9:=h1;cases lp with|none=> simp at h9|some p=> exact⟨p,rfl⟩
 obtain⟨hv1,hv2,hv3⟩:=hl.at_ p rfl
 refine go ?_
 refine d1_ rfl (LK (b:=p)) (k:=gk (k:=rt_ Tryz.results13 (k:=?_)))
 exact⟨_,hsb,rfl,rfl⟩
theorem HA {ps:List Po}{q:Nat}(h:q<ps.length):q / 16<dk ps∧q % 16<(de ps (q / 16)).length∧(de ps (q / 16))[q % 16]? =ps[q]? :=by
 have h1:q / 16<dk ps:=cp
 refine⟨h1,by rw[(kQ h1).2];omega,?_⟩
 rw[w2 (Nat.mod_lt _ (ag))]
 congr 1;omega
theorem KJ {ps:List Po}{zs:List PG}{k i q:Nat}(h:zs.map pgP=de ps k) (hi:(de ps k)[i]? =ps[q]?) (hq:q<ps.length):∃z:PG,zs[i]? =some z∧ps[q]? =some (pgP z):=by
 have hp:ps[q]? =some ps[q]:=Yi hq
 rw[←h,Xd]at hi
 cases hz:zs[i]? with
 |none=> rw[hz,hp]at hi;cases hi
 |some z=> exact⟨z,rfl,by rw[hz]at hi;exact hi.symm⟩
theorem xK {G:cK}{H R1 R2 R:cG}{b q:Nat}{lp:Option Nat}{im sk rd:SV}{ps:List Po}{zs:List PG}{blk:Int}{v0 v1 v3 v6:Value} [hg:Glb G R] [hr:Rem H Vr b [v0,v1,lpV lp,v3, .int .i64 blk,rd.val,v6] R1] [hr1:na R1 rd ePo (zs.map pgV) R2] [hr2:nd R2 (Cl pgH zs) R] [hl:zI R lp im sk ps] (hn:lp=none→ps= []) (hbk:uH ps zs blk) (hok:fW 0 ps) (hsm:e8 ps) (htt:dg ps≤100000000) (hq:q<ps.length):
 SC G Tryz.prog 165 [.pointer (some ⟨b,0,none⟩), .int .i64 ((q:Nat):Int)] H (fun v H'=> ∃(rd':SV) (zs':List PG) (blk':Int) (z:PG),uH ps zs' blk'∧ps[q]? =some (pgP z)∧(∀H2:cG,Sl (Cl pgH zs'::H2) z.s eI (cV z.pos))∧v= .agg [.int .i64 ((z.d:Nat):Int),z.s.val].toArray∧H'=Vr b [v0,v1,lpV lp,v3, .int .i64 blk',rd'.val,v6]::Row rd' ePo (zs'.map pgV)::Cl pgH zs'::R):=by
 have hpn:ps≠ []:=fun e=> by rw[e]at hq;simp at hq
 obtain⟨p,rfl⟩:∃p,lp=some p:=by cases lp with|none=> exact absurd (hn rfl) hpn|some p=> exact⟨p,rfl⟩
 obtain⟨hv1,hv2,hv3⟩:=hl.at_ p rfl
 obtain⟨hb1,hb2,hb3⟩:=HA hq
 have hen:=vM hsm (aa)
 have hpl:=hsm.1
 refine zG (cJ.rem hr (cJ.keep (gB hr1 (cJ.keep (fm hr2 cJ.refl))))) ?_
 refine sWk Tryz.func165 Tryz.ntmps165 ?_
 refine gk (k:=alc (k:=fun b4=>?_))
 refine on_ (qn_ (ws_ (wr_ (e_ mv (k:=?_)))))
 refine e_ (gn rfl rfl q 16 rfl rfl (ag) (aq)) (k:=?_)
 refine go ?_
 refine wi_ (k:=fun h1=>?_) (m:=fun h1=>?_)
 ·refine go ?_
  refine c2_ rfl (IN (l:=ps) hok hsm (aa) hb1) (k:=?_)
  rintro _ _ ⟨sl,zs2,hzs,rfl,rfl⟩
  obtain⟨z,hz,hzq⟩:=KJ hzs hb3 hq
  have hzl:(zs2.map pgV).length=(de ps (q / 16)).length:=by rw[←hzs,Yh,Yh]
  have hzv:(zs2.map pgV)[q % 16]? =some (z.d,z.s):=by rw[Xd,hz];all_goals rfl
  refine e_ nck (k:=e_ fla (k:=sto (k:=e_ nck (k:=e_ fla (k:=sto (k:=on_ (qn_ (ws_ (wr_ (e_ mv (k:=e_ nck (k:=e_ fla (k:=e_ ldv (k:=?_))))))))))))))
  refine e_ mv (k:=?_)
  refine e_ (kG rfl rfl q 16 rfl rfl (ag)) (k:=?_)
  refine e_ ixa (k:=e_ (jn (hy:=hzv)) (k:=gk (k:=rt_ Tryz.results165 (k:=?_))))
  exact⟨_,hsb,sl,zs2,((q / 16:Nat):Int),z, .inr ⟨_,rfl,hzs⟩,hzq,fun H2=> dD (pX hz) inferInstance,rfl,rfl⟩
 have hbe:blk=((q / 16:Nat):Int):=az
 have hzs:zs.map pgP=de ps (q / 16):=by
  rcases hbk with h1|⟨k,h1,h2⟩
  ·omega
  ·have:k=q / 16:=by omega
   rw[←this];exact h2
 obtain⟨z,hz,hzq⟩:=KJ hzs hb3 hq
 have hzl:(zs.map pgV).length=(de ps (q / 16)).length:=by rw[←hzs,Yh,Yh]
 have hzv:(zs.map pgV)[q % 16]? =some (z.d,z.s):=by rw[Xd,hz];all_goals rfl
 refine wk_ (qn_ (ws_ (wr_ (e_ mv (k:=e_ nck (k:=e_ fla (k:=e_ ldv (k:=e_ mv (k:=?_)))))))))
 refine e_ (kG rfl rfl q 16 rfl rfl (ag)) (k:=?_)
 refine e_ ixa (k:=e_ (jn (hy:=hzv)) (k:=gk (k:=rt_ Tryz.results165 (k:=?_))))
 exact⟨_,hsb,rd,zs,blk,z,hbk,hzq,fun H2=> dD (pX hz) inferInstance,rfl,rfl⟩
theorem F3 {G:cK}{H R1 R2 R:cG}{b:Nat}{lp:Option Nat}{im sk rd:SV}{c:CuS}{zs:List PG}{blk:Int}{v0 v1 v6:Value} [hg:Glb G R] [hr:Rem H Vr b [v0,v1,lpV lp, .int .i64 (((c.u:Nat):Int) - 1), .int .i64 blk,rd.val,v6] R1] [hr1:na R1 rd ePo (zs.map pgV) R2] [hr2:nd R2 (Cl pgH zs) R] [hl:zI R lp im sk c.ps] (hn:lp=none→c.ps= []) (hbk:uH c.ps zs blk) (hc:iK c):
 SC G Tryz.prog 132 [.pointer (some ⟨b,0,none⟩)] H (fun v H'=> v= .int .i64 (((eV c).length:Nat):Int)∧∃(rd':SV) (zs':List PG) (blk':Int),uH c.ps zs' blk'∧H'=Vr b [v0,v1,lpV lp, .int .i64 (((c.u:Nat):Int) - 1), .int .i64 blk',rd'.val,v6]::Row rd' ePo (zs'.map pgV)::Cl pgH zs'::R):=by
 have hat:=hc.at_
 have hpl:=hc.small.1
 refine zG (cJ.rem hr (cJ.keep (gB hr1 (cJ.keep (fm hr2 cJ.refl))))) ?_
 refine sWk Tryz.func132 Tryz.ntmps132 ?_
 refine go ?_
 refine cX cI (as_ 0 (q:=mv) (k:=as_ 1 (q:=nck) (k:=as_ 2 (q:=fla) (k:=as_ 3 (q:=ldv) (k:=as_ 4 (q:=ilt) (k:=?_))))))
 refine gq 5 rfl rfl (a8) rfl (dz (mv)) (fun h1=> ?_) (fun h1=> ?_)
 ·replace h1:=nrm h1
  have hh:eV c= []:=oh (.inl (az))
  refine ao_ 6 (k:=ao_ 7 (k:=ao_ 8 (k:=ao_ 9 (k:=ao_ 10 (k:=ao_ 11 (k:=ao_ 12 (k:=as_ 13 (q:=pkt) (k:=az_ (k:=gk (k:=ift (k:=go ?_)))))))))))
  refine gk (k:=rt_ Tryz.results132 (k:=?_))
  exact⟨_,hsb,by rw[hh];all_goals rfl,rd,zs,blk,hbk,rfl⟩
 replace h1:=nrm h1
 have hu:¬c.u=0:=az
 refine at2 6 (q:=mv) (k:=at2 7 (q:=nck) (k:=at2 8 (q:=fla) (k:=at2 9 (q:=ldv) (k:=at2 10 (q:=mv) (k:=?_)))))
 refine ld 11 rfl rfl rfl rfl (a8) rfl (gQ (vs:= [_]) rfl (wg hn)) (?_)
 refine at2 12 (q:=ige) (k:=as_ 13 (q:=pkf) (k:=az_ (k:=gk (k:=wi_ (k:=fun h2=>?_) (m:=fun h2=>?_)))))
 ·refine gk (k:=rt_ Tryz.results132 (k:=?_))
  exact⟨_,hsb,by rw[show eV c= []from oh (.inr (aa))];all_goals rfl,rd,zs,blk,hbk,rfl⟩
 obtain⟨u,hu2⟩:∃u,c.u=u+1:=⟨c.u - 1,aa⟩
 have hul:u<c.ps.length:=aQ
 refine wk_ (qn_ (ws_ (wr_ (e_ mv (k:=e_ mv (k:=e_ nck (k:=e_ fla (k:=?_))))))))
 refine e_ (evq ldv (congrArg (Value.int .i64) (show(((c.u:Nat):Int) - 1)=((u:Nat):Int)from aa))) (k:=?_)
 refine c2_ rfl (xK hn hbk hc.ok hc.small hc.tot hul) (k:=?_)
 rintro _ _ ⟨rd2,zs2,blk2,z,hbk2,hzq,hzs,rfl,rfl⟩
 have hz0:=dO z.pos
 have hh:eV c=z.pos:=tW hu2 hzq
 refine e_ (gA (ft:=28) (off:=1) Tryz.underlying237 rfl rfl rfl) (k:=?_)
 refine gk (k:=rt_ Tryz.results132 (k:=?_))
 exact⟨_,hsb,congrArg (fun n:Nat=> Value.int .i64 (n:Int)) (hz0.trans (by rw[hh])),rd2,zs2,blk2,hbk2,rfl⟩
theorem KV {G:cK}{H R:cG}{b:Nat}{c:CuS} [hg:Glb G R] [hr:Rem H CuH b c R]:SC G Tryz.prog 132 [.pointer (some ⟨b,0,none⟩)] H (fun v H'=> v= .int .i64 (((eV c).length:Nat):Int)∧H'=CuH b c::R):=by
 refine⟨ko Tryz.func132 rfl (a8),fun w hw=> ?_⟩
 obtain⟨x,⟨h1,h2,h3⟩,h4⟩:=wm hr hw
 have hs:=(F3 (G:=G) (H:=Vr b [.int .i64 (gJ c.ps c.u), .int .i64 ((c.mv:Nat):Int),lpV x.lp, .int .i64 (((c.u:Nat):Int) - 1), .int .i64 x.blk,x.rd.val, .bool c.told]::LPh x.lp x.im x.sk c.ps::Row x.rd ePo (x.zs.map pgV)::Cl pgH x.zs::R) (R1:=LPh x.lp x.im x.sk c.ps::Row x.rd ePo (x.zs.map pgV)::Cl pgH x.zs::R) (R2:=LPh x.lp x.im x.sk c.ps::Cl pgH x.zs::R) (R:=LPh x.lp x.im x.sk c.ps::R) (b:=b) (im:=x.im) (sk:=x.sk) (rd:=x.rd) (zs:=x.zs) (c:=c) h2 h3 h1).call w h4
 refine hs.mono fun e w' he=> ?_
 cases e with
 |returned v=>
  obtain⟨H',hw',rfl,rd',zs',blk',hb',rfl⟩:=he
  refine⟨_,(m6 (c:=c) (x:=⟨x.lp,x.im,x.sk,rd',zs',blk'⟩) (R:=R) ⟨h1,h2,hb'⟩).sat ?_,rfl,rfl⟩
  exact(cJ.trans (H':=Vr b [.int .i64 (gJ c.ps c.u), .int .i64 ((c.mv:Nat):Int),lpV x.lp, .int .i64 (((c.u:Nat):Int) - 1), .int .i64 blk',rd'.val, .bool c.told]::LPh x.lp x.im x.sk c.ps::Row rd' ePo (zs'.map pgV)::Cl pgH zs'::R) hsb cJ.refl).sat hw'
 |panicked ch=> exact he
 |outgrown=> exact he
def yE:List Value:= [.string (dL [101,110,100]), .int .i64 0, .string (dL [110,111,110,101]), .int .i64 0, .string (dL [97,108,108]), .int .i64 0, .string (dL [104,97,115]), .int .i64 1, .string (dL [116,101,114,109]), .int .i64 2, .string (dL [112,104,114,97,115,101]), .int .i64 2, .string (dL [97,110,100]), .int .i64 0, .string (dL [111,114]), .int .i64 0, .string (dL [109,97,120]), .int .i64 0, .string (dL [111,112,116]), .int .i64 0, .string (dL [101,120,99,101,112,116]), .int .i64 0, .string (dL [110,111,116]), .int .i64 0, .string (dL [115,99,97,108,101]), .int .i64 1, .string (dL [102,105,120]), .int .i64 1, .string (dL [108,101,97,115,116]), .int .i64 2, .string (dL [109,105,115,115]), .int .i64 1, .string (dL [104,105,116]), .int .i64 1]
class Isa (H:cG):Prop where
 at_:cQ H 24 yE
instance Isa.tail {A:Hp}{H:cG} [h:Isa H]:Isa (A::H):=⟨@cQ.tail _ _ _ _ h.at_⟩
instance {H:cG} [h:Isa H]:cQ H 24 yE:=h.at_
theorem MO:∀i:Fin 17,yE[i.val*2+1]? =(ni i.val).map (fun k:Nat=> Value.int .i64 (k:Int)):=by
 intro⟨i,h⟩
 match i,h with
 | 0,_=> rfl
 | 1,_=> rfl
 | 2,_=> rfl
 | 3,_=> rfl
 | 4,_=> rfl
 | 5,_=> rfl
 | 6,_=> rfl
 | 7,_=> rfl
 | 8,_=> rfl
 | 9,_=> rfl
 | 10,_=> rfl
 | 11,_=> rfl
 | 12,_=> rfl
 | 13,_=> rfl
 | 14,_=> rfl
 | 15,_=> rfl
 | 16,_=> rfl
 |n+17,h=> exact absurd h (aa)
theorem DW {op:Nat}(h:op<17):∃k,ni op=some k∧k≤2∧yE[op*2+1]? =some (.int .i64 ((k:Nat):Int)):=by
 have h1:∀i:Fin 17,∃k,ni i.val=some k∧k≤2:=ag
 obtain⟨k,h2,h3⟩:=h1 ⟨op,h⟩
 have h4:=MO ⟨op,h⟩
 simp only at h2 h4
 rw[h2]at h4
 exact⟨k,h2,h3,h4⟩
theorem DX {op:Nat}(h:17≤op):ni op=none:=List.getElem?_eq_none h
theorem O7 {G:cK}{H:cG}{op:Nat} [hi:Isa H]:SC G Tryz.prog 41 [.int .i64 ((op:Nat):Int)] H (fun v H'=> ((∃k,ni op=some k∧k≤2∧v= .tuple #[.int .i64 ((k:Nat):Int), .bool true])∨(ni op=none∧v= .tuple #[.int .i64 0, .bool false]))∧H'=H):=by
 refine sWk Tryz.func41 Tryz.ntmps41 ?_
 refine ws_ (wr_ (e_ asn (k:=e_ asn (k:=on_ (qn_ (ws_ (ws_ (wr_ (e_ mv (k:=e_ ilt (k:=e_ mv (k:=dN 3 9 (k:=fun h1=>eg_ mv (k:=eg_ ige (k:=e_ pkf (k:=on_ (edq))))) (q:=on_ (?_))))))))))))))
 refine qn_ (wi_ (k:=fun h2=>?_) (m:=fun h2=>?_))
 ·have hno:=DX (op:=op) (aQ)
  refine ws_ (wr_ (e_ asn (k:=e_ asn (k:=on_ (qn_ (wt_ (qr_ (rt_ Tryz.results41 (k:=?_)))))))))
  exact⟨_,hsb, .inr ⟨hno,rfl⟩,rfl⟩
 have hop:op<17:=aQ
 obtain⟨k,hk1,hk2,hk3⟩:=DW hop
 refine wk_ (qn_ (ws_ (wr_ (e_ mv (k:=?_)))))
 refine e_ (eM rfl rfl op rfl hop) (k:=?_)
 refine e_ fla (k:=?_)
 refine e_ (kH rfl (v:= .int .i64 ((k:Nat):Int)) (by rw[show 0+op*2+1=op*2+1 from aa];exact hk3)) (k:=?_)
 refine e_ asn (k:=e_ asn (k:=on_ (qn_ (wt_ (rt_ Tryz.results41 (k:=?_))))))
 exact⟨_,hsb, .inl ⟨k,hk1,hk2,rfl⟩,rfl⟩
def rL (rs:List Nat) (o:Option (List Nat×List Nat)):Option (List Nat×List Nat):=o.map fun p=> (rs++p.1,p.2)
theorem DY {n j v m:Nat}{l rs:List Nat}(h:gP 0 l= .ok (v,m)) (hj:j<n):rL rs (n6 (n - j) l)=rL (rs++ [v]) (n6 (n - (j+1)) (l.drop m)):=by
 obtain⟨d,hd⟩:∃d,n - j=d+1:=⟨n - j - 1,aa⟩
 rw[hd,show n - (j+1)=d from aa,n6,h]
 simp only[]
 cases n6 d (l.drop m)with
 |none=> rfl
 |some p=> simp[rL]
theorem HE {n j e:Nat}{l rs:List Nat}(h:gP 0 l= .error e) (hj:j<n):rL rs (n6 (n - j) l)=none:=by
 obtain⟨d,hd⟩:∃d,n - j=d+1:=⟨n - j - 1,aa⟩
 rw[hd,n6,h];all_goals rfl
theorem Hu (f:Nat):lq f []=some []:=by cases f <;> rfl
theorem DO {f x:Nat}{l:List Nat}(h:ni x=none):lq (f+1) (x::l)=none:=by rw[lq,h]
theorem DN {f x n:Nat}{l:List Nat}(h:ni x=some n) (h2:n6 n l=none):lq (f+1) (x::l)=none:=by rw[lq,h];simp only[];rw[h2]
theorem Cu {f x n:Nat}{l vs r:List Nat}(h:ni x=some n) (h2:n6 n l=some (vs,r)):lq (f+1) (x::l)=(lq f r).map (Gv x vs:: ·):=by
 rw[lq,h];simp only[];rw[h2];simp only[]
 all_goals (cases lq f r <;> rfl)
def vE (rs:List Ins) (o:Option (List Ins)):Option (List Ins):=o.map fun p=> rs++p
theorem tZ {rs:List Ins}{x:Ins}{o:Option (List Ins)}:vE rs (o.map (x:: ·))=vE (rs++ [x]) o:=by cases o <;> simp[vE]
theorem L9 {n va vb:Nat}(hn:n≤2) (h0:n<1→va=0) (hb:n<2→vb=0) (x:Nat):Gv x (([va,vb]:List Nat).take n)=(x,va,vb):=by
 match n,hn,h0,hb with
 | 0,_,h0,hb=> rw[h0 (ag),hb (ag)];all_goals rfl
 | 1,_,_,hb=> rw[hb (ag)];all_goals rfl
 | 2,_,_,_=> rfl
theorem BF {G:cK}{H:cG}{s:SV}{xs:List Nat} [hg:Glb G H] [hi:Isa H] [hs:Sl H s eB xs] (hn:xs.length≤100000000) (hb:∀x∈xs,x<256):SC G Tryz.prog 16 [s.val] H (fun v H'=> (lq xs.length xs=none∧v= .tuple #[.slice none 0 0,G.err 20]∧H'=H)∨(∃(s':SV) (l:List Ins),lq xs.length xs=some l∧v= .tuple #[s'.val, .nilIface]∧H'=Row s' oE l::H)):=by
 refine sWk Tryz.func16 Tryz.ntmps16 ?_
 refine go ?_
 refine c1_ rfl (iS (xs:=xs) (aa)) (k:=?_)
 rintro _ _ ⟨br,rfl,rfl⟩
 refine du (cJ.nilRow (e:=oE) cJ.refl) ?_
 refine gk (k:=dt (Nat×Nat×SV×(List Ins)) (fun y=> y.1≤xs.length∧xs.length - y.1≤y.2.1∧lq xs.length xs=vE y.2.2.2 (lq y.2.1 (xs.drop y.1))∧y.2.2.2.length≤y.1) (fun y=> [(4,y.2.2.1.val)]) [(5,_)] (fun y=> [Row y.2.2.1 oE y.2.2.2,Rd br (xs,y.1)]) _ (fun y=> xs.length - y.1) ((0,xs.length,SV.nil, [])) (h0:=?_) (k:=?_))
 ·try dsimp only
  exact⟨Yl _,aa,by rw[List.drop_zero];cases lq xs.length xs <;> simp[vE],Yl _⟩
 rintro⟨k,f,u,out⟩ ⟨hk,hf,hdec,hol⟩
 try dsimp only[Yd,Ye]at*
 refine go ?_
 refine d1_ rfl (BD (aa) (aa)) (k:=gk (k:=wi_ (k:=fun h1=>?_) (m:=fun h1=>?_)))
 ·obtain⟨x,hx⟩:∃x,xs[k]? =some x:=⟨_,Yi (az)⟩
  have hxb:=hb x (Yj hx)
  have hdk:xs.drop k=x::xs.drop (k+1):=dF hx
  have hkl:=(Yk.1 hx).1
  obtain⟨f,rfl⟩:∃g,f=g+1:=⟨f - 1,aa⟩
  rw[hdk]at hdec
  refine go ?_
  refine d1_ rfl (BG hx (aa)) (k:=e_ mv (k:=e_ exr (k:=e_ exr (k:=e_ asn (k:=e_ asn (k:=on_ (qn_ (ws_ (wr_ (e_ mv (k:=?_)))))))))))
  refine e_ (dy rfl (aa)) (k:=?_)
  refine e_ (bld [(0,_)]) (k:=alc (k:=fun b8=>?_))
  refine go ?_
  refine c1_ rfl (O7 (op:=x)) (k:=?_)
  rintro _ _ ⟨(⟨n,hn1,hn2,rfl⟩|⟨hno,rfl⟩),rfl⟩
  ·refine go ?_
   refine eg (k:=go ?_)
   refine s_ (dC ePt [(b8,1),(b8,2)] (bQ) rfl (ay)) (k:=?_)
   rintro _ _ ⟨s41,rfl,rfl⟩
   refine gk (k:=dt (Nat×Nat×Nat×Nat) (fun y=> (y.1=0∨y.1=1∨y.1=2)∧y.1≤n∧k+1≤y.2.1∧y.2.1≤xs.length∧y.2.2.1<18446744073709551616∧y.2.2.2<18446744073709551616∧(y.1<1→y.2.2.1=0)∧(y.1<2→y.2.2.2=0)∧n6 n (xs.drop (k+1))=rL (([y.2.2.1,y.2.2.2]:List Nat).take y.1) (n6 (n - y.1) (xs.drop y.2.1))) (fun y=> [(43, .int .i64 ((y.1:Nat):Int))]) [(4,_),(5,_),(8,_),(9,_),(41,_),(42,_)] (fun y=> [Rd br (xs,y.2.1),Vr b8 [.int .i64 ((x:Nat):Int), .int .u64 ((y.2.2.1:Nat):Int), .int .u64 ((y.2.2.2:Nat):Int)]]) _ (fun y=> 2 - y.1) ((0,k+1,0,0)) (h0:=?_) (k:=?_))
   ·try dsimp only
    exact⟨.inl rfl,Yl _,Nat.le_refl _,aa,ag,ag,fun _=> rfl,fun _=> rfl,by cases n6 n (xs.drop (k+1)) <;> simp[rL]⟩
   rintro⟨j,kk,va,vb⟩ ⟨hj,hjn,hkk,hkx,hva,hvb,hz1,hz2,harg⟩
   try dsimp only[Yd,Ye]at*
   have hpl:([(b8,1),(b8,2)]:List (Nat×Nat)).length=2:=rfl
   refine gk (k:=wi_ (k:=fun h2=>?_) (m:=fun h2=>?_))
   ·have hj1:j=0∨j=1:=by have h9:=h2;omega
    have hpj:([(b8,1),(b8,2)]:List (Nat×Nat))[j]? =some (b8,j+1):=by rcases hj1 with rfl|rfl <;> rfl
    haveI hspl:∀v:Nat,Spl [.int .i64 ((x:Nat):Int), .int .u64 ((va:Nat):Int), .int .u64 ((vb:Nat):Int)] (j+1) [.int .u64 ((v:Nat):Int)] [.int .i64 ((x:Nat):Int), .int .u64 (((if j=0 then v else va):Nat):Int), .int .u64 (((if j=0 then vb else v):Nat):Int)]:=fun v=> by
     rcases hj1 with rfl|rfl
     ·exact oC (an) rfl
     ·exact oC (an) rfl
    refine go ?_
    refine gk (k:=wi_ (k:=fun h3=>?_) (m:=fun h3=>?_))
    ·have hjn2:j=n:=by have h9:=h3;omega
     have hfin:n6 n (xs.drop (k+1))=some (([va,vb]:List Nat).take n,xs.drop kk):=by rw[harg,hjn2,Nat.sub_self];simp[n6,rL]
     rw[Cu hn1 hfin,L9 hn2 (aa) (aa),tZ]at hdec
     refine gk (k:=bm_ (k:=gk (k:=gz oE (k:=fun s65=>?_))))
     refine app (k:=fun s66=>?_)
     refine go ?_
     refine ln_ ((kk,f,s66,out++ [(x,va,vb)])) (k:=?_)
     try dsimp only
     exact⟨hkx,aa,hdec,bY⟩
    have hjl:j<n:=cj
    refine go ?_
    refine c1_ rfl (lN hkx (aa) hb) (k:=?_)
    rintro _ _ (⟨e,he,rfl,rfl⟩|⟨v,m,he,rfl,rfl⟩)
    ·rw[HE he hjl]at harg
     rw[DN hn1 harg]at hdec
     refine e_ mv (k:=e_ exr (k:=e_ exr (k:=e_ asn (k:=e_ asn (k:=on_ (qn_ (ws_ (ws_ (wr_ (e_ mv (k:=?_)))))))))))
     refine e_ (cZ rfl) (k:=?_)
     refine gk (k:=ift (k:=go ?_))
     refine cX cI (as_ 0 (q:=ldv) (k:=as_ 1 (q:=asn) (k:=as_ 2 (q:=asn) (k:=az_ (k:=go ?_)))))
     refine gk (k:=rt_ Tryz.results16 (k:=?_))
     exact⟨_,hsb, .inl ⟨hdec,rfl,rfl⟩⟩
    obtain⟨q1,q2,q3,q4,q5,q6⟩:=j5 _ 0 v m (fun y hy=> hb y (Yp hy)) (aa) he
    rw[Yo]at q4
    rw[DY he hjl,List.drop_drop]at harg
    refine e_ mv (k:=e_ exr (k:=e_ exr (k:=e_ asn (k:=e_ asn (k:=on_ (qn_ (ws_ (ws_ (wr_ (e_ mv (k:=?_)))))))))))
    refine e_ (cM rfl) (k:=?_)
    refine gk (k:=eg (k:=go ?_))
    refine go ?_
    refine ln_ ((j+1,kk+m,(if j=0 then v else va),(if j=0 then vb else v))) (k:=?_)
    try dsimp only
    rcases hj1 with rfl|rfl
    ·exact⟨.inr (.inl rfl),hjl,aa,aa,by simpa using (by omega:v<18446744073709551616),by simpa using hvb,aa,fun _=> by simpa using hz2 (ag),by simpa using harg⟩
    ·exact⟨.inr (.inr rfl),hjl,aa,aa,by simpa using hva,by simpa using (by omega:v<18446744073709551616),aa,aa,by simpa using harg⟩
   have hj2:j=2∧n=2:=aQ
   have hfin:n6 n (xs.drop (k+1))=some (([va,vb]:List Nat).take n,xs.drop kk):=by rw[harg,hj2.1,hj2.2];simp[n6,rL]
   rw[Cu hn1 hfin,L9 hn2 (aa) (aa),tZ]at hdec
   refine gk (k:=gz oE (k:=fun s65=>?_))
   refine app (k:=fun s66=>?_)
   refine go ?_
   refine ln_ ((kk,f,s66,out++ [(x,va,vb)])) (k:=?_)
   try dsimp only
   exact⟨hkx,aa,hdec,bY⟩
  rw[DO hno]at hdec
  refine go ?_
  refine ift (k:=go ?_)
  refine cX cI (as_ 0 (q:=ldv) (k:=as_ 1 (q:=asn) (k:=as_ 2 (q:=asn) (k:=az_ (k:=gk (k:=rt_ Tryz.results16 (k:=?_)))))))
  exact⟨_,hsb, .inl ⟨hdec,rfl,rfl⟩⟩
 have hke:k=xs.length:=az
 rw[hke,List.drop_length,Hu]at hdec
 have hdec2:lq xs.length xs=some out:=by rw[hdec];simp[vE]
 refine gk (k:=rt_ Tryz.results16 (k:=?_))
 exact⟨_,hsb, .inr ⟨u,out,hdec2,rfl,rfl⟩⟩
theorem xJ {G:cK}{H:cG}{x n:Int}:SC G Tryz.prog 162 [.int .i64 x, .int .i64 n] H (fun v H'=> v= .bool (decide (0≤x) && decide (x<n))∧H'=H):=by
 refine sWk Tryz.func162 Tryz.ntmps162 ?_
 refine gk (k:=dh 4 11 (k:=fun h1=>gk (k:=edq)) (q:=go ?_))
 refine gk (k:=rt_ Tryz.results162 (k:=?_))
 exact⟨_,hsb,rfl,rfl⟩
theorem Lo {op A B h:Nat}(h1:1≤op) (h2:op≤5):iW (op,A,B) h=some (h+1):=by
 match op,h1,h2 with
 | 1,_,_=> rfl
 | 2,_,_=> rfl
 | 3,_,_=> rfl
 | 4,_,_=> rfl
 | 5,_,_=> rfl
theorem Hk {op A B h:Nat}(h1:6≤op) (h2:op≤10):iW (op,A,B) h=if 2≤h then some (h - 1)else none:=by
 match op,h1,h2 with
 | 6,_,_=> rfl
 | 7,_,_=> rfl
 | 8,_,_=> rfl
 | 9,_,_=> rfl
 | 10,_,_=> rfl
theorem P5 {op A B h:Nat}(h1:¬op=0) (h2:¬(1≤op∧op≤10)) (h3:¬op=14):iW (op,A,B) h=if 1≤h then some h else none:=by
 match op,h1,h2,h3 with
 | 0,h1,_,_=> exact absurd rfl h1
 | 1,_,h2,_=> exact absurd (ag) h2
 | 2,_,h2,_=> exact absurd (ag) h2
 | 3,_,h2,_=> exact absurd (ag) h2
 | 4,_,h2,_=> exact absurd (ag) h2
 | 5,_,h2,_=> exact absurd (ag) h2
 | 6,_,h2,_=> exact absurd (ag) h2
 | 7,_,h2,_=> exact absurd (ag) h2
 | 8,_,h2,_=> exact absurd (ag) h2
 | 9,_,h2,_=> exact absurd (ag) h2
 | 10,_,h2,_=> exact absurd (ag) h2
 | 11,_,_,_=> rfl
 | 12,_,_,_=> rfl
 | 13,_,_,_=> rfl
 | 14,_,_,h3=> exact absurd rfl h3
 |n+15,_,_,_=> rfl
def NL (x:Ins) (h:Nat) (v:Value):Prop:=(∃h':Nat,iW x h=some h'∧v= .tuple #[.int .i64 ((h':Nat):Int), .bool true])∨(iW x h=none∧∃k:Int,v= .tuple #[.int .i64 k, .bool false])
theorem B7 {x:Ins}{h r:Nat}{b:Bool}{k:Int}{p:Prop} [Decidable p] (h1:iW x h=if p then some r else none) (h2:b=decide p) (h3:p→k=((r:Nat):Int)):NL x h (.tuple #[.int .i64 k, .bool b]):=by
 by_cases hp:p
 ·left;exact⟨r,by rw[h1,if_pos hp],by rw[h2,h3 hp,Ys hp]⟩
 ·right;exact⟨by rw[h1,if_neg hp],k,by rw[h2,Yr hp]⟩
theorem IF {G:cK}{H:cG}{op A B h:Nat}(hh:h≤1000000000) (hA:A<18446744073709551616):SC G Tryz.prog 127 [.agg [.int .i64 ((op:Nat):Int), .int .u64 ((A:Nat):Int), .int .u64 ((B:Nat):Int)].toArray, .int .i64 ((h:Nat):Int)] H (fun v H'=> NL (op,A,B) h v∧H'=H):=by
 refine sWk Tryz.func127 Tryz.ntmps127 ?_
 refine gk (k:=bxx (k:=fun b2=>?_))
 refine e_ asn (k:=e_ asn (k:=on_ (qn_ (ws_ (ws_ (wr_ (e_ fla (k:=e_ ldv (k:=on_ (qn_ (wb_ (mf [(8, .bool (decide (1≤op∧op≤5)))] [8,9,10,11,12,13] ?_ ?_))))))))))))
 ·refine gk (k:=wi_ (k:=fun h1=>?_) (m:=fun h1=>?_))
  ·refine gk (k:=jne (hs:=.cons (by first|exact rfl|exact jb (by refine bq ?_;simp;omega)) (.nil)))
  refine gk (k:=wi_ (k:=fun h2=>?_) (m:=fun h2=>?_))
  ·refine gk (k:=jne (hs:=.cons (by first|exact rfl|exact jb (by refine bq ?_;simp;omega)) (.nil)))
  refine gk (k:=wi_ (k:=fun h3=>?_) (m:=fun h3=>?_))
  ·refine gk (k:=jne (hs:=.cons (by first|exact rfl|exact jb (by refine bq ?_;simp;omega)) (.nil)))
  refine gk (k:=wi_ (k:=fun h4=>?_) (m:=fun h4=>?_))
  ·refine gk (k:=jne (hs:=.cons (by first|exact rfl|exact jb (by refine bq ?_;simp;omega)) (.nil)))
  refine gk (k:=jne (hs:=.cons (by first|exact rfl|exact jb (by refine bq ?_;simp;omega)) (.nil)))
 refine wi_ (k:=fun h5=>?_) (m:=fun h5=>?_)
 ·have ho:1≤op∧op≤5:=h5
  refine gk (k:=rt_ Tryz.results127 (k:=?_))
  exact⟨_,hsb, .inl ⟨h+1,Lo ho.1 ho.2,rfl⟩,rfl⟩
 have ho:¬(1≤op∧op≤5):=h5
 refine mf [(16, .bool (decide (6≤op∧op≤10)))] [16,17,18,19,20,21] ?_ ?_
 ·refine gk (k:=wi_ (k:=fun h6=>?_) (m:=fun h6=>?_))
  ·refine gk (k:=jne (hs:=.cons (by first|exact rfl|exact jb (by refine bq ?_;simp;omega)) (.nil)))
  refine gk (k:=wi_ (k:=fun h7=>?_) (m:=fun h7=>?_))
  ·refine gk (k:=jne (hs:=.cons (by first|exact rfl|exact jb (by refine bq ?_;simp;omega)) (.nil)))
  refine gk (k:=wi_ (k:=fun h8=>?_) (m:=fun h8=>?_))
  ·refine gk (k:=jne (hs:=.cons (by first|exact rfl|exact jb (by refine bq ?_;simp;omega)) (.nil)))
  refine gk (k:=wi_ (k:=fun h9=>?_) (m:=fun h9=>?_))
  ·refine gk (k:=jne (hs:=.cons (by first|exact rfl|exact jb (by refine bq ?_;simp;omega)) (.nil)))
  refine gk (k:=jne (hs:=.cons (by first|exact rfl|exact jb (by refine bq ?_;simp;omega)) (.nil)))
 refine wi_ (k:=fun h10=>?_) (m:=fun h10=>?_)
 ·have ho2:6≤op∧op≤10:=h10
  refine gk (k:=rt_ Tryz.results127 (k:=?_))
  exact⟨_,hsb,B7 (Hk ho2.1 ho2.2) (decide_eq_decide.2 (aa)) (fun _=> aa),rfl⟩
 have ho2:¬(6≤op∧op≤10):=h10
 refine gk (k:=wi_ (k:=fun h11=>?_) (m:=fun h11=>?_))
 ·have ho3:op=14:=by have h9:=h11;omega
  subst ho3
  refine ws_ (ws_ (wr_ (e_ mv (k:=?_))))
  refine e_ (cU 18446744073709551616 rfl rfl rfl h rfl (aa)) (k:=?_)
  refine gk (k:=wi_ (k:=fun h12=>?_) (m:=fun h12=>?_))
  ·refine gk (k:=rt_ Tryz.results127 (k:=?_))
   exact⟨_,hsb, .inr ⟨by show(if h<A then none else some (h - A+1))=none;rw[if_pos (aa)],0,rfl⟩,rfl⟩
  refine wk_ (qn_ (ws_ (wr_ (e_ mv (k:=e_ fla (k:=e_ ldv (k:=?_)))))))
  refine e_ (dy rfl (aa)) (k:=?_)
  refine gk (k:=rt_ Tryz.results127 (k:=?_))
  exact⟨_,hsb, .inl ⟨h - A+1,by show(if h<A then none else some (h - A+1))=_;rw[if_neg (aa)],congrArg (fun k:Int=> Value.tuple #[.int .i64 k, .bool true]) (aa)⟩,rfl⟩
 have ho3:¬op=14:=by have h9:=h11;omega
 refine gk (k:=wi_ (k:=fun h13=>?_) (m:=fun h13=>?_))
 ·have ho4:op=0:=by have h9:=h13;omega
  subst ho4
  refine gk (k:=rt_ Tryz.results127 (k:=?_))
  exact⟨_,hsb,B7 (p:=h=1) rfl (decide_eq_decide.2 (aa)) (fun _=> rfl),rfl⟩
 have ho4:¬op=0:=by have h9:=h13;omega
 refine gk (k:=rt_ Tryz.results127 (k:=?_))
 exact⟨_,hsb,B7 (P5 ho4 (aa) ho3) (decide_eq_decide.2 (aa)) (fun _=> rfl),rfl⟩
theorem ME {p:PrG}{op A B:Nat}(h1:¬op=3) (h2:¬op=4) (h3:¬op=5) (h4:¬op=14):p9 p (op,A,B)=true:=by
 unfold p9
 split
 ·rename_i h;exact absurd h h1
 ·rename_i h;exact absurd h h2
 ·rename_i h;exact absurd h h3
 ·rename_i h;exact absurd h h4
 ·rfl
theorem CS {G:cK}{H:cG}{a:PrA}{p:PrG}{all:Bool}{op A B:Nat} [hp:gE H a p] (hA:A<18446744073709551616) (hB:B<18446744073709551616) (hl:p.avgs.length≤1000000000∧p.curs.length≤1000000000∧p.nears.length≤1000000000):SC G Tryz.prog 128 [.agg (prV a all).toArray, .agg [.int .i64 ((op:Nat):Int), .int .u64 ((A:Nat):Int), .int .u64 ((B:Nat):Int)].toArray] H (fun v H'=> v= .bool (p9 p (op,A,B))∧H'=H):=by
 obtain⟨hl1,hl2,hl3⟩:=hl
 have hnl:=hp.nr.1
 refine sWk Tryz.func128 Tryz.ntmps128 ?_
 refine gk (k:=bxx (k:=fun b2=>?_))
 refine bxx (k:=fun b3=>?_)
 refine go ?_
 refine gk (k:=wi_ (k:=fun h1=>?_) (m:=fun h1=>?_))
 ·have ho:op=3:=by have h9:=h1;omega
  subst ho
  refine ws_ (wr_ (e_ fla (k:=e_ ldv (k:=e_ fla (k:=e_ ldv (k:=e_ lnn (k:=?_)))))))
  refine e_ (cU 18446744073709551616 rfl rfl rfl p.avgs.length rfl (aa)) (k:=?_)
  refine gk (k:=rt_ Tryz.results128 (k:=?_))
  exact⟨_,hsb,congrArg Value.bool (decide_eq_decide.2 (show _↔A<p.avgs.length from aa)),rfl⟩
 have ho1:¬op=3:=az
 refine gk (k:=wi_ (k:=fun h2=>?_) (m:=fun h2=>?_))
 ·have ho:op=4:=by have h9:=h2;omega
  subst ho
  refine ws_ (wr_ (e_ fla (k:=e_ ldv (k:=e_ fla (k:=e_ ldv (k:=e_ lnn (k:=?_)))))))
  refine e_ (cU 18446744073709551616 rfl rfl rfl p.curs.length rfl (aa)) (k:=?_)
  refine gk (k:=rt_ Tryz.results128 (k:=?_))
  exact⟨_,hsb,congrArg Value.bool (decide_eq_decide.2 (show _↔A<p.curs.length from aa)),rfl⟩
 have ho2:¬op=4:=aQ
 refine gk (k:=wi_ (k:=fun h3=>?_) (m:=fun h3=>?_))
 ·have ho:op=5:=by have h9:=h3;omega
  subst ho
  refine ws_ (wr_ (e_ fla (k:=e_ ldv (k:=e_ fla (k:=e_ ldv (k:=e_ lnn (k:=?_)))))))
  refine e_ (cU 18446744073709551616 rfl rfl rfl a.nz.length rfl (aa)) (k:=?_)
  refine gk (k:=rt_ Tryz.results128 (k:=?_))
  exact⟨_,hsb,congrArg Value.bool (decide_eq_decide.2 (show _↔A<p.nears.length from aa)),rfl⟩
 have ho3:¬op=5:=cj
 refine gk (k:=wi_ (k:=fun h4=>?_) (m:=fun h4=>?_))
 ·have ho:op=14:=by have h9:=h4;omega
  subst ho
  refine gk (k:=dh 4 43 (k:=fun h5=>gk (k:=edq)) (q:=gk (k:=dh 6 50 (k:=fun h6=>gk (k:=edq)) (q:=go ?_))))
  refine gk (k:=rt_ Tryz.results128 (k:=?_))
  exact⟨_,hsb,congrArg Value.bool (bq (by show _↔(decide (1≤A) && decide (1≤B) && decide (B≤A))=true;simp;omega)),rfl⟩
 have ho4:¬op=14:=by have h9:=h4;omega
 refine gk (k:=rt_ Tryz.results128 (k:=?_))
 exact⟨_,hsb,by rw[ME ho1 ho2 ho3 ho4];all_goals rfl,rfl⟩
theorem nU {x:Int}{n:Nat}(h:0≤x∧x<(n:Int)):eh x n=true:=by simp[eh,h.1,h.2]
theorem nV {x:Int}{n:Nat}(h:¬(0≤x∧x<(n:Int))):eh x n=false:=by
 unfold eh
 by_cases h1:0≤x
 ·rw[Yr (fun h2:x<(n:Int)=> h ⟨h1,h2⟩),Bool.and_false]
 ·rw[Yr h1,Bool.false_and]
def vH (p:PrG) (k:Int):Int:=match p.curs[k.toNat]? with
 |some x=> x.1
 |none=> 0
theorem Av {p:PrG}{n:jT}{k o:Int}{r os:List Int}:rI p n (k::r) (o::os)=(eh k p.curs.length && eh o 2147483647 && decide (vH p k=vH p (n.cs.headD 0)) && rI p n r os):=rfl
theorem NW {G:cK}{H:cG}{a:PrA}{p:PrG}{all:Bool}{cs os:SV}{n:jT} [hp:gE H a p] [hc:Sl H cs eI n.cs] [ho:Sl H os eI n.offs] (hnl:n.cs.length≤1000000000):SC G Tryz.prog 163 [.agg (prV a all).toArray, .agg [cs.val,os.val, .int .i64 n.slop].toArray] H (fun v H'=> v= .bool (gl p n)∧H'=H):=by
 refine sWk Tryz.func163 Tryz.ntmps163 ?_
 refine gk (k:=bxx (k:=fun b2=>?_))
 refine bxx (k:=fun b3=>?_)
 refine gk (k:=dN 8 19 (k:=fun h1=>gk (k:=edq)) (q:=gk (k:=dN 5 25 (k:=fun h2=>gk (k:=kK (vs:=[_,_]) (hc:=(xJ)) (k:=eg_ k8 (k:=e_ pkf (k:=on_ (edq)))))) (q:=?_))))
 refine gk (k:=wi_ (k:=fun h3=>?_) (m:=fun h3=>?_))
 ·have hno:gl p n=false:=by
   have h9:=h3
   unfold gl
   by_cases c1:1≤n.cs.length
   ·by_cases c2:n.offs.length=n.cs.length
    ·rw[nV (aa)];simp
    ·rw[Yr c2];simp
   ·rw[Yr c1];simp
  refine gk (k:=rt_ Tryz.results163 (k:=?_))
  exact⟨_,hsb,by rw[hno];all_goals rfl,rfl⟩
 have hg1:1≤n.cs.length∧n.offs.length=n.cs.length∧0≤n.slop∧n.slop<2147483647:=cj
 obtain⟨hg1,hg2,hg3⟩:=hg1
 have hnr:gl p n=rI p n n.cs n.offs:=by unfold gl;rw[Ys hg1,Ys hg2,nU (aa)];simp
 obtain⟨c0,hc0⟩:∃c0,n.cs[0]? =some c0:=⟨_,Yi (aa)⟩
 have hhd:n.cs.headD 0=c0:=by rw[List.headD_eq_head?_getD,List.head?_eq_getElem?,hc0];all_goals rfl
 refine gk (k:=dt (Nat) (fun y=> y≤n.cs.length∧gl p n=rI p n (n.cs.drop y) (n.offs.drop y)∧(0<y→0≤c0∧c0<(p.curs.length:Int))) (fun y=> [(29, .int .i64 ((y:Nat):Int))]) [(2,_),(3,_),(27,_),(28,_)] (fun y=> []) _ (fun y=> n.cs.length - y) (0) (h0:=?_) (k:=?_))
 ·try dsimp only
  exact⟨Yl _,by rw[hnr];all_goals rfl,aa⟩
 rintro i ⟨hi,hrec,hin0⟩
 try dsimp only[Yd,Ye]at*
 refine gk (k:=wi_ (k:=fun h4=>?_) (m:=fun h4=>?_))
 ·obtain⟨k,hk⟩:∃k,n.cs[i]? =some k:=⟨_,Yi (aa)⟩
  obtain⟨o,hko⟩:∃o,n.offs[i]? =some o:=⟨_,Yi (aa)⟩
  rw[dF hk,dF hko,Av,hhd]at hrec
  refine wk_ (qn_ (ws_ (wb_ (ws_ (wr_ (e_ mv (k:=e_ ixa (k:=e_ lel (k:=e_ asn (k:=e_ asn (k:=on_ (qn_ (ws_ (?_))))))))))))))
  refine ws_ (wr_ (e_ mv (k:=e_ fla (k:=e_ ldv (k:=e_ lnn (k:=?_))))))
  refine d2_ rfl (xJ) (k:=e_ k8 (k:=e_ mv (k:=dN 8 48 (k:=fun h5=>eg_ fla (k:=eg_ ldv (k:=eg_ mv (k:=eg_ ixa (k:=eg_ (lel (hy:=hko)) (k:=kK (vs:=[_,_]) (hc:=(xJ)) (k:=eg_ k8 (k:=e_ pkf (k:=on_ (edq)))))))))) (q:=on_ (qn_ (wi_ (k:=fun h6=>?_) (m:=fun h6=>?_)))))))
  ·have hno:gl p n=false:=by
    have h9:=h6
    rw[hrec]
    by_cases c1:0≤k∧k<(p.curs.length:Int)
    ·rw[nV (x:=o) (aa)];simp
    ·rw[nV c1];simp
   refine gk (k:=rt_ Tryz.results163 (k:=?_))
   exact⟨_,hsb,by rw[hno];all_goals rfl,rfl⟩
  have hin:(0≤k∧k<(p.curs.length:Int))∧0≤o∧o<2147483647:=by have h9:=h6;omega
  have hin00:0≤c0∧c0<(p.curs.length:Int):=by
   rcases Nat.eq_zero_or_pos i with rfl|hi0
   ·rw[hk]at hc0;cases hc0;exact hin.1
   ·exact hin0 hi0
  rw[nU hin.1,nU hin.2]at hrec
  obtain⟨x,hx⟩:∃x,p.curs[k.toNat]? =some x:=⟨_,Yi (aa)⟩
  obtain⟨y,hy⟩:∃y,p.curs[c0.toNat]? =some y:=⟨_,Yi (aa)⟩
  have hfx:vH p k=x.1:=by unfold vH;rw[hx]
  have hfy:vH p c0=y.1:=by unfold vH;rw[hy]
  have hkn:k=((k.toNat:Nat):Int):=aa
  have hcn:c0=((c0.toNat:Nat):Int):=aa
  refine go ?_
  refine cX cI (as_ 0 (q:=fla) (k:=as_ 1 (q:=ldv) (k:=as_ 2 (q:=mv) (k:=as_ 3 (q:=ixa (i:=k.toNat) (hj:=hkn)) (k:=as_ 4 (q:=fle) (k:=as_ 5 (q:=lfl (hy:=hx)) (k:=as_ 6 (q:=fla) (k:=as_ 7 (q:=ldv) (k:=as_ 8 (q:=fla) (k:=as_ 9 (q:=ldv) (k:=as_ 10 (q:=ixa (i:=0)) (k:=as_ 11 (q:=lel (hy:=hc0)) (k:=as_ 12 (q:=ixa (i:=c0.toNat) (hj:=hcn)) (k:=?_))))))))))))))
  refine as_ 13 (q:=fle) (k:=as_ 14 (q:=lfl (hy:=hy)) (k:=as_ 15 (q:=ine) (k:=az_ (k:=gk (k:=wi_ (k:=fun h7=>?_) (m:=fun h7=>?_))))))
  ·have hno:gl p n=false:=by
    have h9:=h7
    rw[hrec,hfx,hfy,Yr h9];simp
   refine gk (k:=rt_ Tryz.results163 (k:=?_))
   exact⟨_,hsb,by rw[hno];all_goals rfl,rfl⟩
  have heq:x.1=y.1:=h7
  rw[hfx,hfy,Ys heq,Bool.and_true,Bool.true_and]at hrec
  refine go ?_
  refine ln_ (i+1) (k:=?_)
  try dsimp only
  exact⟨aa,by simpa using hrec,fun _=> hin00⟩
 obtain rfl:i=n.cs.length:=aa
 rw[List.drop_length]at hrec
 refine gk (k:=rt_ Tryz.results163 (k:=?_))
 exact⟨_,hsb,by rw[hrec];all_goals rfl,rfl⟩
structure HS (p:PrG):Prop where
 a:p.avgs.length≤1000000000
 c:p.curs.length≤1000000000
 n:p.nears.length≤1000000000
 d:p.drive.length≤1000000000
 k:p.code.length≤100000000
 ns:∀n∈p.nears,n.cs.length≤1000000000
 ct:∀c∈p.curs,c.2.size≤1000000000
 cb:∀x∈p.code,x<256
theorem all_drop {α:Type}{f:α→Bool}{l:List α}{i:Nat}{x:α}(h:l[i]? =some x):(l.drop i).all f=(f x && (l.drop (i+1)).all f):=by rw[dF h,List.all_cons]
theorem uo {p:PrG}{b:Option Int}{k:Int}{r:List Int}:jx p b (k::r)=(eh k p.curs.length && (match b with|none=> true|some x=> decide (x<k)) && jx p (some k) r):=rfl
def yh (l:List Int) (i:Nat):Option Int:=if i=0 then none else l[i - 1]?
theorem Ir {G:cK}{H:cG}{a:PrA}{p:PrG} [hp:gE H a p] (hs:HS p):SC G Tryz.prog 125 [.agg (prV a p.all).toArray] H (fun v H'=> v= .bool (ie p)∧H'=H):=by
 have hs1:=hs.a
 have hs2:=hs.c
 have hs3:=hs.n
 have hs4:=hs.d
 have hnl:=hp.nr.1
 have hdef:ie p=(decide (1≤p.avgs.length) && decide (p.avgs.length≤16) && p.avgs.all (fun a=> decide (0≤a)) && p.curs.all (fun c=> eh c.1 p.avgs.length && decide (c.2.size≤64)) && p.nears.all (gl p) && !(p.all && decide (0<p.drive.length)) && jx p none p.drive):=rfl
 refine sWk Tryz.func125 Tryz.ntmps125 ?_
 refine gk (k:=bxx (k:=fun b1=>?_))
 refine gk (k:=dN 5 20 (k:=fun h1=>gk (k:=edq)) (q:=go ?_))
 refine wi_ (k:=fun h2=>?_) (m:=fun h2=>?_)
 ·have hno:ie p=false:=by
   have h9:=h2
   rw[hdef]
   by_cases c1:1≤p.avgs.length
   ·rw[Yr (p:=p.avgs.length≤16) (aa)];simp
   ·rw[Yr c1];simp
  refine gk (k:=rt_ Tryz.results125 (k:=?_))
  exact⟨_,hsb,by rw[hno];all_goals rfl,rfl⟩
 have hg1:1≤p.avgs.length∧p.avgs.length≤16:=aQ
 rw[Ys hg1.1,Ys hg1.2,Bool.true_and,Bool.true_and]at hdef
 refine gk (k:=dt (Nat) (fun y=> y≤p.avgs.length∧p.avgs.all (fun a=> decide (0≤a))=(p.avgs.drop y).all (fun a=> decide (0≤a))) (fun y=> [(24, .int .i64 ((y:Nat):Int))]) [(1,_),(22,_),(23,_)] (fun y=> []) _ (fun y=> p.avgs.length - y) (0) (h0:=?_) (k:=?_))
 ·try dsimp only
  exact⟨Yl _,by rw[List.drop_zero]⟩
 rintro i ⟨hi,hal⟩
 try dsimp only[Yd,Ye]at*
 refine gk (k:=wi_ (k:=fun h3=>?_) (m:=fun h3=>?_))
 ·obtain⟨x,hx⟩:∃x,p.avgs[i]? =some x:=⟨_,Yi (aa)⟩
  rw[all_drop hx]at hal
  refine go ?_
  refine gk (k:=wi_ (k:=fun h4=>?_) (m:=fun h4=>?_))
  ·rw[Yr (by have h9:=h4;omega:¬0≤x),Bool.false_and]at hal
   rw[hal]at hdef
   refine gk (k:=rt_ Tryz.results125 (k:=?_))
   exact⟨_,hsb,by rw[hdef];all_goals rfl,rfl⟩
  rw[Ys (by have h9:=h4;omega:0≤x),Bool.true_and]at hal
  refine go ?_
  refine ln_ (i+1) (k:=?_)
  try dsimp only
  exact⟨aa,hal⟩
 obtain rfl:i=p.avgs.length:=aa
 rw[List.drop_length,List.all_nil]at hal
 rw[hal,Bool.true_and]at hdef
 refine go ?_
 refine gk (k:=dt (Nat) (fun y=> y≤p.curs.length∧p.curs.all (fun c=> eh c.1 p.avgs.length && decide (c.2.size≤64))=(p.curs.drop y).all (fun c=> eh c.1 p.avgs.length && decide (c.2.size≤64))) (fun y=> [(34, .int .i64 ((y:Nat):Int))]) [(1,_),(32,_),(33,_)] (fun y=> []) _ (fun y=> p.curs.length - y) (0) (h0:=?_) (k:=?_))
 ·try dsimp only
  exact⟨Yl _,by rw[List.drop_zero]⟩
 rintro j ⟨hj,hbl⟩
 try dsimp only[Yd,Ye]at*
 refine gk (k:=wi_ (k:=fun h5=>?_) (m:=fun h5=>?_))
 ·obtain⟨x,hx⟩:∃x,p.curs[j]? =some x:=⟨_,Yi (aa)⟩
  have hxs:=hs.ct x (Yj hx)
  rw[all_drop hx]at hbl
  refine wk_ (qn_ (ws_ (wb_ (ws_ (wr_ (e_ ixa (k:=e_ (jn (hy:=hx)) (k:=alc (k:=fun b6=>?_)))))))))
  refine go ?_
  refine d2_ rfl (xJ) (k:=gk (k:=dN 5 50 (k:=fun h6=>gk (k:=edq)) (q:=gk (k:=wi_ (k:=fun h7=>?_) (m:=fun h7=>?_)))))
  ·have hno:(eh x.1 p.avgs.length && decide (x.2.size≤64))=false:=by
    have h9:=h7
    by_cases c1:0≤x.1∧x.1<(p.avgs.length:Int)
    ·rw[Yr (aa),Bool.and_false]
    ·rw[nV c1,Bool.false_and]
   rw[hno,Bool.false_and]at hbl
   rw[hbl]at hdef
   refine gk (k:=rt_ Tryz.results125 (k:=?_))
   exact⟨_,hsb,by rw[hdef];all_goals rfl,rfl⟩
  have hyes:(eh x.1 p.avgs.length && decide (x.2.size≤64))=true:=by
   have h9:=h7
   rw[nU (aa),Ys (aa)];all_goals rfl
  rw[hyes,Bool.true_and]at hbl
  refine go ?_
  refine ln_ (j+1) (k:=?_)
  try dsimp only
  exact⟨aa,hbl⟩
 obtain rfl:j=p.curs.length:=aa
 rw[List.drop_length,List.all_nil]at hbl
 rw[hbl,Bool.true_and]at hdef
 refine go ?_
 refine gk (k:=dt (Nat) (fun y=> y≤p.nears.length∧p.nears.all (gl p)=(p.nears.drop y).all (gl p)) (fun y=> [(55, .int .i64 ((y:Nat):Int))]) [(1,_),(53,_),(54,_)] (fun y=> []) _ (fun y=> p.nears.length - y) (0) (h0:=?_) (k:=?_))
 ·try dsimp only
  exact⟨Yl _,by rw[List.drop_zero]⟩
 rintro k ⟨hk,hcl⟩
 try dsimp only[Yd,Ye]at*
 refine gk (k:=wi_ (k:=fun h8=>?_) (m:=fun h8=>?_))
 ·obtain⟨z,n,hz,hn,hz1,hz2,hz3⟩:=hp.nr.get (i:=k) (aa)
  have hnn:=hs.ns n (Yj hn)
  rw[all_drop hn]at hcl
  obtain⟨z1,z2,z3⟩:=z
  simp only at hz1 hz2 hz3
  subst hz3
  refine wk_ (qn_ (ws_ (wb_ (ws_ (wr_ (e_ ixa (k:=e_ (jn (hy:=hz)) (k:=alc (k:=fun b8=>?_)))))))))
  refine go ?_
  refine d2_ rfl (NW (p:=p) (n:=n) hnn) (k:=gk (k:=wi_ (k:=fun h9=>?_) (m:=fun h9=>?_)))
  ·have hno:gl p n=false:=by have h9:=h9;simpa using h9
   rw[hno,Bool.false_and]at hcl
   rw[hcl]at hdef
   refine gk (k:=rt_ Tryz.results125 (k:=?_))
   exact⟨_,hsb,by rw[hdef];all_goals rfl,rfl⟩
  have hyes:gl p n=true:=by have h9:=h9;simpa using h9
  rw[hyes,Bool.true_and]at hcl
  refine go ?_
  refine ln_ (k+1) (k:=?_)
  try dsimp only
  exact⟨aa,hcl⟩
 obtain rfl:k=p.nears.length:=aa
 rw[List.drop_length,List.all_nil]at hcl
 rw[hcl,Bool.true_and]at hdef
 refine gk (k:=dh 5 71 (k:=fun h10=>gk (k:=edq)) (q:=go ?_))
 refine wi_ (k:=fun h11=>?_) (m:=fun h11=>?_)
 ·have hno:(!(p.all && decide (0<p.drive.length)))=false:=by have h9:=h11;obtain⟨c1,c2⟩:=h9;rw[c1,Ys (aa)];all_goals rfl
  rw[hno,Bool.false_and]at hdef
  refine gk (k:=rt_ Tryz.results125 (k:=?_))
  exact⟨_,hsb,by rw[hdef];all_goals rfl,rfl⟩
 have hyes:(!(p.all && decide (0<p.drive.length)))=true:=by
  have h9:=h11
  cases hpa:p.all with
  |false=> rfl
  |true=> rw[Yr (by rcases h9 with c1|c1;rw[hpa]at c1;cases c1;omega)];all_goals rfl
 rw[hyes,Bool.true_and]at hdef
 refine gk (k:=dt (Nat) (fun y=> y≤p.drive.length∧jx p none p.drive=jx p (yh p.drive y) (p.drive.drop y)) (fun y=> [(75, .int .i64 ((y:Nat):Int))]) [(1,_),(73,_),(74,_)] (fun y=> []) _ (fun y=> p.drive.length - y) (0) (h0:=?_) (k:=?_))
 ·try dsimp only
  exact⟨Yl _,by rw[List.drop_zero];all_goals rfl⟩
 rintro m ⟨hm,hdl⟩
 try dsimp only[Yd,Ye]at*
 refine gk (k:=wi_ (k:=fun h12=>?_) (m:=fun h12=>?_))
 ·obtain⟨x,hx⟩:∃x,p.drive[m]? =some x:=⟨_,Yi (aa)⟩
  rw[dF hx,uo]at hdl
  have hnx:yh p.drive (m+1)=some x:=by unfold yh;rw[if_neg (aa),Nat.add_sub_cancel,hx]
  obtain⟨w,hw⟩:∃w:Int,0<m→p.drive[m - 1]? =some w:=by
   rcases Nat.eq_zero_or_pos m with h9|h9
   ·exact⟨0,fun h=> aa⟩
   ·exact⟨p.drive[m - 1]'(aa),fun _=> Yi _⟩
  have hpv:(match yh p.drive m with|none=> true|some y=> decide (y<x))=(decide (m=0) ||decide (w<x)):=by
   rcases Nat.eq_zero_or_pos m with h9|h9
   ·subst h9;rfl
   ·unfold yh;rw[if_neg (aa),hw h9,Yr (by omega:¬m=0),Bool.false_or]
  rw[hpv]at hdl
  refine go ?_
  refine go ?_
  refine d2_ rfl (xJ) (k:=gk (k:=dN 13 99 (c:=decide (0<((m:Nat):Int)) && decide (x≤w)) (k:=fun h14=>?_) (q:=?_)))
  ·refine gk (k:=dh 9 98 (c:=decide (x≤w)) (k:=fun h16=>?_) (q:=?_))
   ·have hm0:0<m:=by have h9:=h16;omega
    have hwm:=hw hm0
    refine eg_ mv (k:=eg_ fla (k:=eg_ ldv (k:=eg_ mv (k:=?_))))
    refine eg_ (evq isb (congrArg (Value.int .i64) (show _=((m - 1:Nat):Int)from aa))) (k:=?_)
    refine eg_ ixa (k:=eg_ (lel (hy:=hwm)) (k:=gk (k:=edq)))
   refine gk (k:=edq)
  refine gk (k:=wi_ (k:=fun h17=>?_) (m:=fun h17=>?_))
  ·have hno:(eh x p.curs.length && (decide (m=0) ||decide (w<x)) && jx p (some x) (p.drive.drop (m+1)))=false:=by
    have h9:=h17
    by_cases c1:0≤x∧x<(p.curs.length:Int)
    ·rw[Yr (by omega:¬m=0),Yr (by omega:¬w<x),Bool.or_self,Bool.and_false,Bool.false_and]
    ·rw[nV c1,Bool.false_and,Bool.false_and]
   rw[hno]at hdl
   refine gk (k:=rt_ Tryz.results125 (k:=?_))
   exact⟨_,hsb,by rw[hdef,hdl];all_goals rfl,rfl⟩
  have hyes:(eh x p.curs.length && (decide (m=0) ||decide (w<x)))=true:=by
   have h9:=h17
   rw[nU (aa),Bool.true_and,Bool.or_eq_true,decide_eq_true_eq,decide_eq_true_eq]
   omega
  rw[hyes,Bool.true_and,←hnx]at hdl
  refine go ?_
  refine ln_ (m+1) (k:=?_)
  try dsimp only
  exact⟨aa,hdl⟩
 obtain rfl:m=p.drive.length:=aa
 rw[List.drop_length]at hdl
 refine gk (k:=rt_ Tryz.results125 (k:=?_))
 exact⟨_,hsb,by rw[hdef,hdl];all_goals rfl,rfl⟩
section
variable {G:cK}{P:Program}{t:Tm}{H:cG}{dst:Option Tmp}{ty:TypeId}{pos:String}{after:Array Edge}{g:Option (Nat×Bool)}
theorem o4 {T U:TypeId}{x y:Operand}{a b:Bool} [hT:Und P T .bool] (hx:evo t x=some (.bool a)) (hy:evo t y=some (.bool b)):Ev G P ⟨dst, .binOp .neq T x y U,ty,pos,after,g⟩ t H (.bool (a !=b)):=fun ρ hρ w _=> by
 have h2:=iO (P:=P) (w:=w) (T:=T) (x:= .bool a) (y:= .bool b) (r:=(a==b)) (fun d=> aD)
 simp[execOp,hρ _ _ hx,hρ _ _ hy,eqGuard,binOp,h2,bne]
theorem K9 {x y z:Operand}{ats:Array TypeId}{k:IntKind}{a b c:Int}(hx:evo t x=some (.int k a)) (hy:evo t y=some (.int k b)) (hz:evo t z=some (.int k c)):
 Ev G P ⟨dst, .call ⟨.builtin .max, #[x,y,z],ats⟩,ty,pos,after,g⟩ t H (.int k (max (max a b) c)):=
 fun ρ hρ w _=> by
  have e:∀a b:Int,(if b > a then b else a)=max a b:=fun a b=> by rw[Int.max_def];split <;> split <;> omega
  simp[execOp,resolve,invoke,builtin,Builtin.max_,Builtin.max2,hρ _ _ hx,hρ _ _ hy,hρ _ _ hz,e]
theorem uN {T E U:TypeId}{x:Operand} [hT:Und P T (.slice E)] (hx:evo t x=some (.slice none 0 0)):Ev G P ⟨dst, .binOp .eql T x (.const (.slice none 0 0)) U,ty,pos,after,g⟩ t H (.bool true):=
 fun ρ hρ w hw=> by
  have h1:=fU (P:=P) (op:= .eql) (T:=T) (x:=x) (y:= .const (.slice none 0 0)) (w:=w) (a:= .slice none 0 0) (b:= .slice none 0 0) (.inr rfl) (fun c h=> aW)
  have h2:=iO (P:=P) (w:=w) (T:=T) (x:= .slice none 0 0) (y:= .slice none 0 0) (r:=true) (fun d=> by simp only[Op.equalIn,Sem.run_bind,da (T:=T),Result.andThen_ok,Sem.run_pure,Option.isNone_none])
  have h5:(binOp .eql T (.slice none 0 0) (.slice none 0 0)).run P w= .ok (.bool true) w:=by
   simp only[binOp,Sem.run_bind,h2,Result.andThen_ok,Sem.run_pure]
  simp only[execOp,hρ _ _ hx,hρ (.const (.slice none 0 0)) _ rfl,Sem.run_bind,h1,Result.andThen_ok,h5,Sem.run_pure]
end
def ohI:Option Nat→Int
 |none=> -1
 |some h=> (h:Int)
abbrev hsI (hs:Hs):List Int:=hs.map ohI
theorem sB {hs:Hs}{i:Nat}(hi:i<hs.length):(hsI hs)[i]? =some (ohI (hs.getD i none)):=by
 rw[Xd,List.getD_eq_getElem?_getD,Yi hi];all_goals rfl
theorem C9 {hs:Hs}{i h:Nat}:(hsI hs).set i ((h:Nat):Int)=hsI (hs.set i (some h)):=by
 rw[hsI,hsI,List.map_set];all_goals rfl
theorem yw {hs hs':Hs}{i h:Nat}(he:jC hs i h=some hs'):hs'.length=hs.length:=by
 unfold jC at he
 split at he
 ·cases he;exact List.length_set
 ·split at he
  ·cases he;rfl
  ·cases he
theorem u7 {hs:Hs}{i h:Nat}(hi:i<hs.length):(hs.set i (some h)).getD i none=some h:=by
 rw[List.getD_eq_getElem?_getD,List.getElem?_set_self hi];all_goals rfl
theorem KS {G:cK}{H R:cG}{sl:SV}{hs:Hs}{b i h:Nat} [hb:cQ R b [sl.val]] [hr:na H sl eI (hsI hs) R] (hi:i<hs.length):SC G Tryz.prog 126 [.int .i64 ((i:Nat):Int), .int .i64 ((h:Nat):Int), .pointer (some ⟨b,0,none⟩)] H (fun v H'=> ((∃hs',jC hs i h=some hs'∧v= .bool true∧H'=Row sl eI (hsI hs')::R)∨(jC hs i h=none∧v= .bool false∧H'=R))):=by
 refine SC.less (gB hr cJ.refl) ?_
 have hil:i<(hsI hs).length:=by rw[Yh];exact hi
 refine sWk Tryz.func126 Tryz.ntmps126 ?_
 refine ws_ (wr_ (e_ asn (k:=on_ (qn_ (ws_ (ws_ (wr_ (e_ ldv (k:=e_ mv (k:=e_ ixa (k:=e_ (lel (hy:=sB hi)) (k:=go ?_))))))))))))
 refine gk (k:=wi_ (k:=fun h1=>?_) (m:=fun h1=>?_))
 ·obtain hno:hs.getD i none=none:=by
   have h9:=h1
   cases hc:hs.getD i none with
   |none=> rfl
   |some q=> rw[hc,ohI]at h9;omega
  have hset:=u7 (h:=h) hi
  have hil2:i<(hs.set i (some h)).length:=by rw[List.length_set];exact hi
  have hil3:i<(hsI (hs.set i (some h))).length:=by rw[Yh];exact hil2
  refine go ?_
  refine s_ (dH rfl rfl (bQ) hil) (k:=?_)
  rintro _ _ ⟨rfl,rfl⟩
  rw[C9]
  refine on_ (qn_ (ws_ (wr_ (e_ ldv (k:=e_ mv (k:=e_ ixa (k:=e_ (lel (hy:=(sB hil2).trans (by rw[hset,ohI]))) (k:=go ?_))))))))
  refine rt_ Tryz.results126 (k:=?_)
  exact⟨_,hsb, .inl ⟨_,by rw[jC,hno],by simp[gF],rfl⟩⟩
 obtain⟨q,hq⟩:∃q,hs.getD i none=some q:=by
  have h9:=h1
  cases hc:hs.getD i none with
  |none=> rw[hc,ohI]at h9;exact absurd (ag) h9
  |some q=> exact⟨q,rfl⟩
 refine wk_ (qn_ (ws_ (wr_ (e_ ldv (k:=e_ mv (k:=e_ ixa (k:=e_ (lel (hy:=(sB hi).trans (by rw[hq,ohI]))) (k:=go ?_))))))))
 refine rt_ Tryz.results126 (k:=?_)
 by_cases hqh:q=h
 ·exact⟨_,hsb, .inl ⟨hs,by rw[jC,hq];simp[hqh],by simp[gF,hqh],rfl⟩⟩
 ·exact⟨_,hsb, .inr ⟨by rw[jC,hq];simp[hqh],by simp[gF];omega,rfl⟩⟩
theorem uV {fs:List FV}(hfl:fs.length≤16):∀(vs:List Val) (r:List Nat),(∀v∈vs,v.2.size≤4096∧∃k,fk fs (cF v.1)=some k)→ll fs vs.length (vs.flatMap (eG fs)++r)=some (vs,(vs.flatMap (eG fs)).length)
 | [],r,_=> rfl
 |v::vs,r,h=> by
  obtain⟨h1,k,hk⟩:=h v (an)
  have ih:=uV hfl vs r fun x hx=> h x (Xa _ hx)
  have hk2:=hk
  unfold fk at hk2
  rw[List.findIdx?_eq_some_iff_getElem]at hk2
  obtain⟨hlt,hp,_⟩:=hk2
  have hn:(((fs[k]?).map (·.name)).getD ByteArray.empty)=v.1:=by
   rw[Yi hlt]
   exact kM.1 (Yt hp)
  have hbl:=cL v.2
  have e:(v::vs).flatMap (eG fs)++r=uv k++(uv (cF v.2).length++cF v.2++(vs.flatMap (eG fs)++r)):=by
   rw[List.flatMap_cons,eG,hk,Option.getD_some,hbl];simp only[Yf]
  have el:((v::vs).flatMap (eG fs)).length=(uv k).length+((uv (cF v.2).length).length+(cF v.2).length)+(vs.flatMap (eG fs)).length:=by
   rw[List.flatMap_cons,eG,hk,Option.getD_some,hbl];simp only[Ya,hbl];(try omega)
  rw[e,Yb,ll,ey _ (aa) (aa)]
  simp only[]
  rw[List.drop_left,vl _ (aa) (aa)]
  simp only[]
  rw[←List.drop_drop,List.drop_left,←Ya,List.drop_left,ih,gO,hn,el]
  simp only[Ya]
theorem vP {fs:List FV}(hfl:fs.length≤16):∀(ds:List Doc) (r:List Nat),(∀d∈ds,gy fs d.2=0)→ku fs (ds.map (·.1)) (ep fs ds++r)=some (ds,(ep fs ds).length)
 | [],r,_=> rfl
 |d::ds,r,h=> by
  obtain⟨h1,h2⟩:=nW (h d (an))
  have ih:=vP hfl ds r fun x hx=> h x (Xa _ hx)
  have e:ep fs (d::ds)++r=uv d.2.length++(d.2.flatMap (eG fs)++(ep fs ds++r)):=by
   simp only[ep,List.flatMap_cons,pK,Yf]
  have el:(ep fs (d::ds)).length=(uv d.2.length).length+(d.2.flatMap (eG fs)).length+(ep fs ds).length:=by
   simp only[ep,List.flatMap_cons,pK,Ya]
  rw[e,List.map_cons,ku,ey _ (aa) (aa)]
  simp only[]
  rw[List.drop_left,uV hfl _ _ h2]
  simp only[]
  rw[←List.drop_drop,List.drop_left,List.drop_left,ih,el]
theorem zf {fs:List FV}{ds:List Doc}(h:jF fs ds):kJ fs (mH ds) (ep fs ds)=some ds:=by
 have hfew:=h.few
 have h1:=yd (l:=ds.map (·.1)) h.pos h.up (fun x hx=> bC) (bW)
 rw[Yh]at h1
 have h2:eH 4096 (mH ds)= .ok (ds.map (·.1),(mH ds).length):=by
  unfold eH at h1⊢
  unfold mH
  rw[ey _ (aa) (by have:=mu (ds.map (·.1)) (-1);rw[Yh]at this;simp only[Ya];omega)]at h1
  rw[ey _ (aa) hfew]
  exact h1
 have h3:=vP h.flen ds [] h.vals
 rw[Ym]at h3
 rw[kJ,h2]
 simp only[]
 rw[if_neg (aa),h3]
 simp only[]
 rw[if_neg (aa)]
theorem Bw {G:cK}{H:cG}{g n:Nat}{fi ca:List Value}{p:Nat→Bool}(hn:n≤1000000000000) (hf:∀i:Nat,i<n→SC G Tryz.prog g (fi++ [.int .i64 ((i:Nat):Int)]++ca) H (fun v H'=> v= .bool (p i)∧H'=H)) (hmono:∀a b,a≤b→b<n→p a=true→p b=true):
 SC G Tryz.prog 119 [.int .i64 ((n:Nat):Int), .func (.func g) fi.toArray ca.toArray] H (fun v H'=> (∃k:Nat,v= .int .i64 ((k:Nat):Int)∧k≤n∧(∀i,i<k→p i=false)∧∀i,k≤i→i<n→p i=true)∧H'=H):=by
 refine sWk Tryz.func119 Tryz.ntmps119 ?_
 refine go ?_
 refine dt (Nat×Nat) (fun y=> y.1≤y.2∧y.2≤n∧(∀m,m<y.1→p m=false)∧∀m,y.2≤m→m<n→p m=true) (fun y=> [(5, .int .i64 ((y.1:Nat):Int)),(6, .int .i64 ((y.2:Nat):Int))]) [(1,_)] (fun y=> []) _ (fun y=> y.2 - y.1) ((0,n)) (h0:=?_) (k:=?_)
 ·try dsimp only
  exact⟨Yl _,Nat.le_refl _,fun m hm=> absurd hm (aa),fun m h1 h2=> absurd h1 (aa)⟩
 rintro⟨i,j⟩ ⟨hij,hjn,hlo,hhi⟩
 try dsimp only[Yd,Ye]at*
 refine gk (k:=wi_ (k:=fun h1=>?_) (m:=fun h1=>?_))
 ·obtain⟨h,hh⟩:∃h,h=(i+j) / 2:=⟨_,rfl⟩
  refine wk_ (qn_ (wb_ (ws_ (wr_ (e_ mv (k:=e_ mv (k:=?_)))))))
  refine e_ (evq iad (congrArg (Value.int .i64) (show _=((i+j:Nat):Int)from aa))) (k:=?_)
  refine e_ ((ae)) (k:=?_)
  refine e_ (evq (fC rfl rfl (i+j) 1 rfl rfl (ag)) (congrArg (fun n:Nat=> Value.int .u64 (n:Int)) (show(i+j) / 2 ^ 1=h from aa))) (k:=?_)
  refine e_ (dy rfl (aa)) (k:=?_)
  refine go ?_
  refine s_ (nJ (fi:=fi) (ca:=ca) (vs:= [_]) rfl rfl (hf h (aa))) (k:=?_)
  rintro _ H ⟨rfl,rfl⟩
  refine gk (k:=wi_ (k:=fun h2=>?_) (m:=fun h2=>?_))
  ·have hp0:p h=false:=by simpa using h2
   refine go ?_
   refine ln_ ((h+1,j)) (k:=?_)
   try dsimp only
   refine⟨aa,hjn,fun m hm=> ?_,hhi⟩
   cases hpm:p m with
   |false=> rfl
   |true=> rw[hmono m h (aa) (aa) hpm]at hp0;cases hp0
  have hp1:p h=true:=by simpa using h2
  refine go ?_
  refine ln_ ((i,h)) (k:=?_)
  try dsimp only
  exact⟨aa,aa,hlo,fun m h1 h2=> hmono h m h1 h2 hp1⟩
 refine gk (k:=rt_ Tryz.results119 (k:=?_))
 exact⟨_,hsb,⟨i,rfl,aa,hlo,fun m h1 h2=> hhi m (aa) h2⟩,rfl⟩
theorem wz {l:List En}(h:rV l):∀(d i:Nat) (a b:En),l[i]? =some a→l[i+d+1]? =some b→cF a.key<cF b.key
 | 0,i,a,b,ha,hb=> h.2 i a b ha hb
 |d+1,i,a,b,ha,hb=> by
  have hlt:=(Yk.1 hb).1
  have hc:l[i+d+1]? =some l[i+d+1]:=Yi (aa)
  exact List.lt_trans (wz h d i a _ ha hc) (h.2 (i+d+1) _ b hc hb)
def geK (l:List En) (key:ByteArray) (i:Nat):Bool:=match l[i]? with
 |some e=> !decide (cF e.key<cF key)
 |none=> true
theorem GW {l:List En}(h:rV l) {key:ByteArray}(a b:Nat) (hab:a≤b) (hb:b<l.length) (ha:geK l key a=true):geK l key b=true:=by
 have h1:l[a]? =some l[a]:=Yi (aa)
 have h2:l[b]? =some l[b]:=Yi hb
 rw[geK,h1]at ha
 rw[geK,h2]
 simp only[Bool.not_eq_true',decide_eq_false_iff_not]at ha⊢
 rcases Nat.lt_or_eq_of_le hab with h3|rfl
 ·intro h4
  have:=wz h (b - a - 1) a _ l[b] h1 (by rw[show a+(b - a - 1)+1=b from aa];exact h2)
  exact ha (List.lt_trans this h4)
 ·exact ha
theorem LH {G:cK}{H:cG}{bd bk w i:Nat}{ev:SV}{key:ByteArray}{l:List En} [cQ H bd [.pointer (some ⟨w,0,none⟩)]] [cQ H bk [.string key]] [cQ H w [ev.val]] [hs:Sl H ev eEn l] (hi:i<l.length):SC G Tryz.prog 120 [.int .i64 ((i:Nat):Int), .pointer (some ⟨bd,0,none⟩), .pointer (some ⟨bk,0,none⟩)] H (fun v H'=> v= .bool (geK l key i)∧H'=H):=by
 obtain⟨e,he⟩:∃e,l[i]? =some e:=⟨_,Yi hi⟩
 refine sWk Tryz.func120 Tryz.ntmps120 ?_
 refine go ?_
 refine cX cI (as_ 0 (q:=ldv) (k:=as_ 1 (q:=nck) (k:=as_ 2 (q:=fla) (k:=as_ 3 (q:=ldv) (k:=as_ 4 (q:=mv) (k:=as_ 5 (q:=ixa) (k:=as_ 6 (q:=fle) (k:=as_ 7 (q:=lfl (hy:=he)) (k:=as_ 8 (q:=ldv) (k:=?_))))))))))
 refine cE 9 rfl rfl (a8) rfl (dz (Q6)) (?_)
 refine as_ 10 (q:=asn) (k:=az_ (k:=gk (k:=rt_ Tryz.results120 (k:=?_))))
 exact⟨_,hsb,by rw[geK,he];all_goals rfl,rfl⟩
theorem NU {G:cK}{H:cG}{w:Nat}{ev:SV}{key:ByteArray}{l:List En} [cQ H w [ev.val]] [hs:Sl H ev eEn l] (hok:rV l) (hl:l.length≤1000000000):SC G Tryz.prog 66 [.pointer (some ⟨w,0,none⟩), .string key] H (fun v H'=> (∃k:Nat,v= .int .i64 ((k:Nat):Int)∧k≤l.length∧(∀i,i<k→geK l key i=false)∧∀i,k≤i→i<l.length→geK l key i=true)∧H'=H):=by
 refine sWk Tryz.func66 Tryz.ntmps66 ?_
 refine gk (k:=bxx (k:=fun b2=>?_))
 refine bxx (k:=fun b3=>?_)
 refine e_ asn (k:=on_ (qn_ (ws_ (wr_ (e_ ldv (k:=e_ nck (k:=e_ fla (k:=e_ ldv (k:=e_ lnn (k:=e_ mkf (k:=?_)))))))))))
 refine c2_ rfl (Bw (n:=l.length) (fi:= []) (ca:= [.pointer (some ⟨b2,0,none⟩), .pointer (some ⟨b3,0,none⟩)]) (p:=geK l key) (aa) (fun i hi=> LH (w:=w) (ev:=ev) (key:=key) hi) (fun a b h1 h2 h3=> GW hok a b h1 h2 h3)) (k:=?_)
 rintro _ _ ⟨⟨k,rfl,hk1,hk2,hk3⟩,rfl⟩
 refine gk (k:=rt_ Tryz.results66 (k:=?_))
 exact⟨_,hsb,⟨k,rfl,hk1,hk2,hk3⟩,rfl⟩
theorem M7 {G:cK}{H:cG}{w:Nat}{ev:SV}{key:ByteArray}{l:List En} [cQ H w [ev.val]] [hs:Sl H ev eEn l] (hok:rV l) (hl:l.length≤1000000000):SC G Tryz.prog 32 [.pointer (some ⟨w,0,none⟩), .string key] H (fun v H'=> ((∃(i:Nat) (e:En),l[i]? =some e∧cF e.key=cF key∧v= .tuple #[.int .i64 ((i:Nat):Int), .bool true])∨((∀e∈l,cF e.key≠cF key)∧v= .tuple #[.int .i64 0, .bool false]))∧H'=H):=by
 refine sWk Tryz.func32 Tryz.ntmps32 ?_
 refine go ?_
 refine c2_ rfl (NU hok hl) (k:=?_)
 rintro _ _ ⟨⟨k,rfl,hk1,hk2,hk3⟩,rfl⟩
 refine e_ asn (k:=on_ (qn_ (ws_ (ws_ (wr_ (e_ mv (k:=e_ mv (k:=e_ nck (k:=e_ fla (k:=e_ ldv (k:=e_ lnn (k:=e_ ilt (k:=sp_ (mv) (k:=fun h1=>?_) (m:=fun h1=>?_))))))))))))))
 ·obtain⟨e,he⟩:∃e,l[k]? =some e:=⟨_,Yi (aa)⟩
  refine eg_ mv (k:=eg_ nck (k:=eg_ fla (k:=eg_ ldv (k:=eg_ mv (k:=eg_ ixa (k:=eg_ fle (k:=eg_ (lfl (hy:=he)) (k:=gk (k:=eg_ y5 (k:=gk (k:=wi_ (k:=fun h2=>?_) (m:=fun h2=>?_))))))))))))
  ·have hke:cF e.key=cF key:=h2
   refine gk (k:=rt_ Tryz.results32 (k:=?_))
   exact⟨_,hsb, .inl ⟨k,e,he,hke,rfl⟩,rfl⟩
  have hnone:∀e∈l,cF e.key≠cF key:=by
   intro x hx hxe
   obtain⟨i,hi⟩:=List.getElem?_of_mem hx
   have hil:=(Yk.1 hi).1
   rcases Nat.lt_trichotomy i k with h1|h1|h1
   ·have:=hk2 i h1
    rw[geK,hi]at this
    simp only[Bool.not_eq_false',decide_eq_true_eq,hxe]at this
    exact pb _ this
   ·subst h1
    rw[he]at hi;cases hi;exact absurd hxe (by first|exact h2|simpa using h2)
   ·have hkl2:l[k]? =some l[k]:=Yi (aa)
    have h2:=wz hok (i - k - 1) k _ x hkl2 (by rw[show k+(i - k - 1)+1=i from aa];exact hi)
    have:=hk3 k (Nat.le_refl _) (aa)
    rw[geK,hkl2]at this
    simp only[Bool.not_eq_true',decide_eq_false_iff_not]at this
    rw[hxe]at h2
    exact this h2
  refine gk (k:=rt_ Tryz.results32 (k:=?_))
  exact⟨_,hsb, .inr ⟨hnone,rfl⟩,rfl⟩
 have hkl:k=l.length:=aa
 have hnone:∀e∈l,cF e.key≠cF key:=by
  intro x hx hxe
  obtain⟨i,hi⟩:=List.getElem?_of_mem hx
  have hil:=(Yk.1 hi).1
  have:=hk2 i (aa)
  rw[geK,hi]at this
  simp only[Bool.not_eq_false',decide_eq_true_eq,hxe]at this
  exact pb _ this
 refine gk (k:=eg (k:=?_))
 refine gk (k:=rt_ Tryz.results32 (k:=?_))
 exact⟨_,hsb, .inr ⟨hnone,rfl⟩,rfl⟩
theorem Q0 {G:cK}{H:cG}{w i:Nat}{ev:SV}{l:List En}{e:En} [cQ H w [ev.val]] [hs:Sl H ev eEn l] (he:l[i]? =some e):SC G Tryz.prog 34 [.pointer (some ⟨w,0,none⟩), .int .i64 ((i:Nat):Int)] H (fun v H'=> v= .tuple #[.agg [.string e.key, .int .i64 ((e.docs:Nat):Int), .int .i64 ((e.tot:Nat):Int), .int .i64 ((e.at_:Nat):Int), .int .i64 ((e.size:Nat):Int)].toArray, .bool true]∧H'=H):=by
 have hlt:=(Yk.1 he).1
 refine sWk Tryz.func34 Tryz.ntmps34 ?_
 refine ws_ (wr_ (alc (k:=fun b4=>?_)))
 refine e_ asn (k:=on_ (qn_ (ws_ (ws_ (wr_ (e_ mv (k:=e_ ilt (k:=e_ mv (k:=dN 8 16 (k:=fun h1=>eg_ mv (k:=eg_ mv (k:=eg_ nck (k:=eg_ fla (k:=eg_ ldv (k:=eg_ lnn (k:=eg_ ige (k:=e_ pkf (k:=on_ (edq)))))))))) (q:=on_ (qn_ (wi_ (k:=fun h2=>?_) (m:=fun h2=>?_)))))))))))))
 ·exact absurd h2 (aa)
 refine wk_ (qn_ (ws_ (wr_ (e_ mv (k:=e_ nck (k:=e_ fla (k:=e_ ldv (k:=e_ mv (k:=e_ ixa (k:=e_ (jn (hy:=he)) (k:=sto (k:=e_ asn (k:=on_ (?_))))))))))))))
 refine qn_ (wt_ (rt_ Tryz.results34 (k:=?_)))
 exact⟨_,hsb,rfl,rfl⟩
def qn (fs:List FV) (ds:List Doc) (f:Nat) (s:ByteArray):List Po:=iD (ofK (eE fs ds) (f % 256::cF s))
theorem JR {ts:List Tri}{k:List Nat}(h:k ∉ ts.map (·.1)):iD (ofK ts k)= []:=by
 have:ofK ts k= []:=by
  rw[ofK,List.map_eq_nil_iff,List.filter_eq_nil_iff]
  intro t ht he
  exact h (List.mem_map.2 ⟨t,ht,Yt he⟩)
 rw[this];all_goals rfl
theorem vz (f:Nat) (s:ByteArray):cF (qb f s)=f % 256::cF s:=by
 rw[qb,fQ,fa (by intro x hx;simp at hx;omega)];all_goals rfl
theorem BX {ps:List Po}(h1:fW 0 ps) (h2:e8 ps) (h3:dg ps≤100000000):iK ⟨ps,0,0,false⟩:=⟨h1,h2,h3,Yl _,Yl _⟩
theorem KR {G:cK}{H:cG}{lp:Option Nat}:SC G Tryz.prog 65 [lpV lp] H (fun v H'=> ∃b,v= .pointer (some ⟨b,0,none⟩)∧H'=Vr b [.int .i64 (-1), .int .i64 0,lpV lp, .int .i64 (-1), .int .i64 (-1), .slice none 0 0, .bool false]::H):=by
 refine sWk Tryz.func65 Tryz.ntmps65 ?_
 refine ws_ (wr_ (e_ asn (k:=on_ (qn_ (ws_ (wr_ (e_ (bld [(0,_)]) (k:=e_ mv (k:=e_ (bld [(0,_),(1,_),(2,_),(3,_)]) (k:=bxx (k:=fun b6=>?_)))))))))))
 refine gk (k:=rt_ Tryz.results65 (k:=?_))
 exact⟨_,hsb,b6,rfl,rfl⟩
theorem Hv {b:Nat}{lp:Option Nat}{im sk:SV}{ps:List Po}{H:cG}(hk:iK ⟨ps,0,0,false⟩) (hl:lp=none→ps= []):cJ (Vr b [.int .i64 (-1), .int .i64 0,lpV lp, .int .i64 (-1), .int .i64 (-1), .slice none 0 0, .bool false]::LPh lp im sk ps::H) (CuH b ⟨ps,0,0,false⟩::H):=by
 refine cJ.trans (cJ.keep (cJ.keep ((fe (f:=pgH) cJ.refl).trans (cJ.nilRow (e:=ePo) cJ.refl)))) ?_
 exact m6 (c:=⟨ps,0,0,false⟩) (x:=⟨lp,im,sk,SV.nil, [], -1⟩) ⟨hk,hl, .inl rfl⟩
theorem IE {G:cK}{H:cG}:SC G Tryz.prog 31 [] H (fun v H'=> ∃b,v= .pointer (some ⟨b,0,none⟩)∧H'=CuH b ⟨[],0,0,false⟩::H):=by
 refine sWk Tryz.func31 Tryz.ntmps31 ?_
 refine go ?_
 refine c1_ rfl (KR (lp:=none)) (k:=?_)
 rintro _ _ ⟨b1,rfl,rfl⟩
 refine gk (k:=rt_ Tryz.results31 (k:=?_))
 exact⟨_,cJ.trans (cJ.keep (qC cJ.refl)) (Hv (lp:=none) (im:=SV.nil) (sk:=SV.nil) (BX (by simp[fW]) ⟨ag,an⟩ (ag)) (fun _=> rfl)),b1,rfl,rfl⟩
theorem LN {G:cK}{H:cG}{s:SV}{ps:List Po} [hg:Glb G H] [hs:Sl H s eB (dx ps)] (hok:fW 0 ps) (hsm:e8 ps) (ht:dg ps≤100000000) (hn:(dx ps).length≤10000000000):SC G Tryz.prog 35 [s.val] H (fun v H'=> ∃b,v= .tuple #[.pointer (some ⟨b,0,none⟩), .nilIface]∧H'=CuH b ⟨ps,0,0,false⟩::H):=by
 refine sWk Tryz.func35 Tryz.ntmps35 ?_
 refine go ?_
 refine c1_ rfl (LM hok hsm hn) (k:=?_)
 rintro _ _ ⟨bl,im,sk,rfl,rfl⟩
 refine e_ mv (k:=e_ exr (k:=e_ exr (k:=e_ asn (k:=e_ asn (k:=on_ (qn_ (ws_ (ws_ (wr_ (e_ mv (k:=?_)))))))))))
 refine e_ (cM rfl) (k:=?_)
 refine gk (k:=eg (k:=go ?_))
 refine c1_ rfl (KR (lp:=some bl)) (k:=?_)
 rintro _ _ ⟨b15,rfl,rfl⟩
 refine gk (k:=rt_ Tryz.results35 (k:=?_))
 exact⟨_,Hv (lp:=some bl) (BX hok hsm ht) (fun h=> aW),b15,rfl,rfl⟩
theorem II {G:cK}{H:cG}{a:PtA}{q:PtD}{f:Nat}{s:ByteArray} [hg:Glb G H] [hp:dq H a q] (hok:jF q.fs q.ds) (hf:f<q.fs.length) (hsz:s.size≤1000000000):SC G Tryz.prog 12 [.pointer (some ⟨a.g,0,none⟩), .int .i64 ((f:Nat):Int), .string s] H (fun v H'=> ∃b,v= .pointer (some ⟨b,0,none⟩)∧H'=CuH b ⟨qn q.fs q.ds f s,0,0,false⟩::H):=by
 have hGT:=hok.goodT
 have hR:=MP (eE q.fs q.ds)
 obtain⟨_,_,hEn,hPB⟩:=hok.blocks
 have hel:=gS (dm (eE q.fs q.ds)) 0
 have hrl:=pS (eE q.fs q.ds)
 have htk:=hok.toks
 obtain⟨g1,g2,g3⟩:fW 0 (qn q.fs q.ds f s)∧e8 (qn q.fs q.ds f s)∧dg (qn q.fs q.ds f s)≤(eE q.fs q.ds).length:=lU hGT
 have hpok:=g1
 refine sWk Tryz.func12 Tryz.ntmps12 ?_
 refine ws_ (wr_ (e_ asn (k:=on_ (qn_ (ws_ (ws_ (wr_ (e_ mv (k:=e_ ilt (k:=e_ mv (k:=dN 9 24 (k:=fun h1=>eg_ mv (k:=eg_ mv (k:=eg_ nck (k:=eg_ fla (k:=eg_ fla (k:=eg_ ldv (k:=eg_ lnn (k:=eg_ ige (k:=e_ pkf (k:=on_ (edq))))))))))) (q:=on_ (qn_ (?_))))))))))))))
 refine wi_ (k:=fun h2=>?_) (m:=fun h2=>?_)
 ·exact absurd h2 (aa)
 refine wk_ (qn_ (ws_ (?_)))
 refine df cI (fun i=> [7].contains i) (fun k H=> (k=3→cQ H a.g [a.fv.val,a.dv.val,a.lv.val, .pointer (some ⟨a.w,0,none⟩),a.bl.val,a.im.val])) (af_ 0 (q:=cD fun H hH=>mv) (k:=af_ 1 (q:=cD fun H hH=>nck) (k:=af_ 2 (q:=cD fun H hH=>fla) (k:=?_))))
 refine cE 3 rfl rfl (a8) rfl (cD fun H hH=>bA) (?_)
 refine af_ 4 (q:=cD fun H hH=>mv) (k:=af_ 5 (q:=cD fun H hH=>mv) (k:=?_))
 refine cE 6 rfl rfl (a8) rfl (fun H hH=> cW (vs:= [_,_]) rfl (NZ hsz)) (?_)
 refine cN 7 rfl (a8) rfl (fun k hk=> fun hi=> ab) (cW (vs:= [_,_]) rfl (M7 hEn (aa))) ?_
 rintro _ H ⟨(⟨i,e,hei,hek,rfl⟩|⟨hno,rfl⟩),rfl⟩
 ·refine af_ 8 (q:=cD fun H hH=>mv) (k:=af_ 9 (q:=cD fun H hH=>exr) (k:=af_ 10 (q:=cD fun H hH=>exr) (k:=af_ 11 (q:=cD fun H hH=>asn) (k:=af_ 12 (q:=cD fun H hH=>asn) (k:=db (a8) (fun k hk=> fun hi=> absurd hk (ad)) (qn_ (ws_ (ws_ (wr_ (e_ mv (k:=e_ k8 (k:=on_ (qn_ (?_))))))))))))))
  refine eg (k:=wk_ (qn_ (ws_ (wr_ (?_)))))
  have hil:i<(dm (eE q.fs q.ds)).length:=by have:=(Yk.1 hei).1;omega
  obtain⟨r,hr⟩:∃r,(dm (eE q.fs q.ds))[i]? =some r:=⟨_,Yi hil⟩
  have h2:=lX (n:=0) hr
  rw[h2]at hei
  obtain rfl:=Option.some.inj hei
  have hrm:=Yj hr
  have hrv:=hR.vals r hrm
  have hrt:r.1∈(eE q.fs q.ds).map (·.1):=(hR.keys _).1 (List.mem_map_of_mem hrm)
  have hrb:∀x∈r.1,x<256:=by
   obtain⟨t,ht,hte⟩:=List.mem_map.1 hrt
   rw[←hte];exact(hGT.small t ht).2.2.1
  have hrk:r.1=f % 256::cF s:=by
   have:cF (dL r.1)=cF (qb f s):=hek
   rwa [fa hrb,vz]at this
  have hrc:r.2=qn q.fs q.ds f s:=by rw[hrv,hrk];all_goals rfl
  have hpt:=nO hr
  have hsplit:dB (dm (eE q.fs q.ds))=dB ((dm (eE q.fs q.ds)).take i)++(dx r.2++dB ((dm (eE q.fs q.ds)).drop (i+1))):=by
   conv=> lhs;rw[←List.take_append_drop (i+1) (dm (eE q.fs q.ds)),dB,List.flatMap_append]
   show dB _++dB _=_
   rw[hpt,Yf]
  obtain⟨A,hA⟩:∃A,A=(dB ((dm (eE q.fs q.ds)).take i)).length:=⟨_,rfl⟩
  have hcutE:((dB (dm (eE q.fs q.ds))).take (A+(dx r.2).length)).drop A=dx r.2:=by
   rw[hsplit,List.drop_take,hA,List.drop_left,show(dB ((dm (eE q.fs q.ds)).take i)).length+(dx r.2).length - (dB ((dm (eE q.fs q.ds)).take i)).length=(dx r.2).length from aa,List.take_left]
  have hlenE:A+(dx r.2).length≤(dB (dm (eE q.fs q.ds))).length:=by rw[hsplit,Ya,Ya,hA];omega
  have hcutS:∀(H2:cG) [Sl H2 a.bl eB (dB (dm (eE q.fs q.ds)))],Sl H2 (a.bl.cut 1 A (A+(dx r.2).length)) eB (dx r.2):=fun H2 h=> by
   have:=Sl.cut h (lo:=A) (hi:=A+(dx r.2).length) (aa) hlenE
   rw[hcutE]at this;exact this
  rw[←hrc]at g1 g2 g3
  rw[Nat.zero_add,←hA]at h2
  refine e_ mv (k:=e_ nck (k:=e_ fla (k:=e_ ldv (k:=e_ mv (k:=?_)))))
  refine c2_ rfl (Q0 h2) (k:=?_)
  rintro _ H ⟨rfl,rfl⟩
  refine e_ mv (k:=e_ exr (k:=e_ exr (k:=alc (k:=fun b9=>?_))))
  refine sto (k:=e_ asn (k:=on_ (qn_ (ws_ (?_)))))
  refine df cI (fun i=> [12].contains i) (fun k H=> (k=3→cQ H a.g [a.fv.val,a.dv.val,a.lv.val, .pointer (some ⟨a.w,0,none⟩),a.bl.val,a.im.val])∧(k=5→cQ H b9 [.string (dL r.1), .int .i64 ((r.2.length:Nat):Int), .int .i64 ((dg r.2:Nat):Int), .int .i64 ((A:Nat):Int), .int .i64 (((dx r.2).length:Nat):Int)])∧(k=7→cQ H b9 [.string (dL r.1), .int .i64 ((r.2.length:Nat):Int), .int .i64 ((dg r.2:Nat):Int), .int .i64 ((A:Nat):Int), .int .i64 (((dx r.2).length:Nat):Int)])∧(k=9→cQ H b9 [.string (dL r.1), .int .i64 ((r.2.length:Nat):Int), .int .i64 ((dg r.2:Nat):Int), .int .i64 ((A:Nat):Int), .int .i64 (((dx r.2).length:Nat):Int)])∧(k=11→Sl H a.bl eB (dB (dm (eE q.fs q.ds))))) (af_ 0 (q:=cD fun H hH=>mv) (k:=af_ 1 (q:=cD fun H hH=>nck) (k:=af_ 2 (q:=cD fun H hH=>fla) (k:=?_))))
  refine cE 3 rfl rfl (a8) rfl (cD fun H hH=>ak) (?_)
  refine af_ 4 (q:=cD fun H hH=>fla) (k:=?_)
  refine cE 5 rfl rfl (a8) rfl (cD fun H hH=>ar) (?_)
  refine af_ 6 (q:=cD fun H hH=>fla) (k:=?_)
  refine cE 7 rfl rfl (a8) rfl (cD fun H hH=>aF) (?_)
  refine af_ 8 (q:=cD fun H hH=>fla) (k:=?_)
  refine cE 9 rfl rfl (a8) rfl (cD fun H hH=>by have hN:=hH.2.2.2.1 rfl;exact ldv) (?_)
  refine af_ 10 (q:=cD fun H hH=>iad) (k:=?_)
  refine cE 11 rfl rfl (a8) rfl (cD fun H hH=>by have hN:=hH.2.2.2.2 rfl;exact eL rfl (bQ) A (A+(dx r.2).length) ⟨_,_,rfl,rfl⟩ ⟨_,_,rfl,aa⟩ (aa) hlenE) (?_)
  refine cN 12 rfl (a8) rfl (fun k hk=> ⟨fun hi=> ab,fun hi=> ab,fun hi=> ab,fun hi=> ab,fun hi=> ab⟩) (cW (vs:= [_]) rfl (LN (ps:=r.2) g1 g2 (aa) (aa))) ?_
  rintro _ _ ⟨bc,rfl,rfl⟩
  refine af_ 13 (q:=cD fun H hH=>mv) (k:=af_ 14 (q:=cD fun H hH=>exr) (k:=af_ 15 (q:=cD fun H hH=>exr) (k:=af_ 16 (q:=cD fun H hH=>asn) (k:=af_ 17 (q:=cD fun H hH=>asn) (k:=db (a8) (fun k hk=> ⟨fun hi=> ab,fun hi=> ab,fun hi=> ab,fun hi=> ab,fun hi=> absurd hk (ad)⟩) (qn_ (ws_ (ws_ (wr_ (e_ mv (k:=?_)))))))))))
  refine e_ (cM rfl) (k:=?_)
  refine on_ (qn_ (eg (k:=wk_ (qn_ (ws_ (wr_ (e_ mv (k:=e_ asn (k:=on_ (qn_ (wt_ (rt_ Tryz.results12 (k:=?_)))))))))))))
  exact⟨CuH bc ⟨r.2,0,0,false⟩::H,hsb,bc,rfl,by rw[hrc]⟩
 have hnil:qn q.fs q.ds f s= []:=JR fun hm=> by
  have h1:=(hR.keys _).2 hm
  obtain⟨r,hr,hrk⟩:=List.mem_map.1 h1
  obtain⟨j,hj⟩:=List.getElem?_of_mem hr
  have h2:=lX (n:=0) hj
  refine hno _ (Yj h2) ?_
  show cF (dL r.1)=cF (qb f s)
  rw[hrk,vz,fa]
  intro x hx
  rcases List.mem_cons.1 hx with rfl|hx
  ·omega
  ·exact k7 _ x hx
 refine af_ 8 (q:=cD fun H hH=>mv) (k:=af_ 9 (q:=cD fun H hH=>exr) (k:=af_ 10 (q:=cD fun H hH=>exr) (k:=af_ 11 (q:=cD fun H hH=>asn) (k:=af_ 12 (q:=cD fun H hH=>asn) (k:=db (a8) (fun k hk=> fun hi=> absurd hk (ad)) (qn_ (ws_ (ws_ (wr_ (e_ mv (k:=e_ k8 (k:=on_ (qn_ (?_))))))))))))))
 refine ift (k:=ws_ (wr_ (?_)))
 refine c0_ rfl (IE) (k:=?_)
 rintro _ _ ⟨b39,rfl,rfl⟩
 refine e_ asn (k:=on_ (qn_ (wt_ (qr_ (rt_ Tryz.results12 (k:=?_))))))
 exact⟨_,hsb,b39,rfl,by rw[hnil]⟩
end Go.Sx
