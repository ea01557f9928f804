import Derived.Test.YtcokhbglfaakjaaGreatDoorQ18
import Derived.Test.YtcokhbglfaakjaaGreatDoorQ20
set_option linter.all false
set_option maxHeartbeats 0
namespace Go.Sx
open Go Go.Proofs Tryz
set_option maxRecDepth 100000
section
variable {G:dJ}{H:dD}{b q:Nat}{blk:Int}{c:CuS}{im sk:SV}{lp:Option Nat}{ps:List Po}{v0 v1 v3 v6:Value}{zs:List PG}
theorem DX {P:Program}{f:FuncId}{args:List Value}{H':dD}{K:Value→dD→Prop}(hs:dH H H') (h:SC G P f args H' K):SC G P f args H K:=h.heap λw a=>hs.sat a
theorem RK {n:Int}{a:Value} [dQ H b [v0,.int .i64 n,a,v3]]:SC G prog 201 [pA b] H (λv c=>v=.int .i64 n∧c=H):=by
 refine sWk func201 ?_;refine go ?_;exact gZ
class DZ (H:dD) (lp:Option Nat) (im sk:outParam SV) (ps:outParam (List Po)):Prop where
 at_:∀p,lp=some p→dQ H p [im.val,.int .i64 ((ps.length:Nat):Int),.int .i64 ((ec ps:Nat):Int),sk.val]∧Sl H im eB (eO ps)∧Sl H sk eSk (ic ps)
instance {H:dD}{lp:Option Nat}{im sk:SV}{ps:List Po}:DZ (LPh lp im sk ps::H) lp im sk ps:=⟨λp hp=>by subst hp;exact⟨inferInstance,inferInstance,inferInstance⟩⟩
instance DZ.tail {A:Hp}{H:dD}{lp:Option Nat}{im sk:SV}{ps:List Po} [h:DZ H lp im sk ps]:DZ (A::H) lp im sk ps:=⟨λp hp=>by
 obtain⟨h1,h2,h3⟩:=h.at_ p hp
 exact⟨inferInstance,inferInstance,inferInstance⟩⟩
theorem Ax {e d:Value} [dQ H b [v0,v1,lpV lp,v3,e,d,v6]] [hl:DZ H lp im sk ps] (hn:lp=none→ps= []):SC G prog 149 [pA b] H (λv f=>v=iN ps.length∧f=H):=by
 refine sWk func149 ?_;refine ws_ (wr_ (e_ asn (on_ (qn_ (ws_ (ws_ (wr_ (e_ mv (e_ nck (e_ fla (e_ ldv ?_)))))))))));refine e_ (gu rfl) ?_;refine gW (λh1=>?_) λh1=>?_
 ·have c:lp=none:=by have h9:=h1;cases lp with|none=>rfl|some p=>simp at h9
  have a:=hn c;refine gR ?_;exact⟨_,hsb,by rw[a];all_goals rfl,rfl⟩
 obtain⟨p,rfl⟩:∃p,lp=some p:=by have h9:=h1;cases lp with|none=>simp at h9|some p=>exact⟨p,rfl⟩
 obtain⟨hv1,hv2,hv3⟩:=hl.at_ p rfl;refine go ?_;refine d1_ rfl (RK (b:=p)) (gR ?_);exact⟨_,hsb,rfl,rfl⟩
theorem MO (h:q<ps.length):q/16<eC ps∧q%16<(ei ps (q/16)).length∧(ei ps (q/16))[q%16]? =ps[q]? :=by
 have h1:q/16<eC ps:=cR;refine⟨h1,by rw[(nG h1).2];omega,?_⟩;rw[A5 (V2 _ ae)];congr 1;omega
theorem Qx {k i:Nat}(h:zs.map pgP=ei ps k) (hi:(ei ps k)[i]? =ps[q]?) (a:q<ps.length):∃z:PG,zs[i]? =some z∧ps[q]? =some (pgP z):=by
 have hp:ps[q]? =some ps[q]:=Yi a;rw[←h,Xd]at hi;cases hz:zs[i]? with
 |none=>rw[hz,hp]at hi;cases hi
 |some z=>exact⟨z,rfl,by rw[hz]at hi;exact hi.symm⟩
theorem BZ {R1 R2 R:dD}{rd:SV} [hg:Glb G R] [hr:Rem H Vr b [v0,v1,lpV lp,v3,.int .i64 blk,rd.val,v6] R1] [i:mh R1 rd ePo (zs.map pgV) R2] [h:nR R2 (Cl pgH zs) R] [hl:DZ R lp im sk ps] (hn:lp=none→ps= []) (hbk:yI ps zs blk) (n:j5 0 ps) (hsm:fL ps) (htt:ec ps≤100000000) (f:q<ps.length):
 SC G prog 183 [pA b,iN q] H (λv u=>∃(rd':SV) (zs':List PG) (blk':Int) (z:PG),yI ps zs' blk'∧ps[q]? =some (pgP z)∧(∀s:dD,Sl (Cl pgH zs'::s) z.s eI (dT z.pos))∧v=.agg #[iN z.d,z.s.val]∧u=Vr b [v0,v1,lpV lp,v3,.int .i64 blk',rd'.val,v6]::Row rd' ePo (zs'.map pgV)::Cl pgH zs'::R):=by
 have j:ps≠ []:=λe=>by rw[e]at f;simp at f
 obtain⟨p,rfl⟩:∃p,lp=some p:=by cases lp with|none=>exact absurd (hn rfl) j|some p=>exact⟨p,rfl⟩
 obtain⟨hv1,hv2,hv3⟩:=hl.at_ p rfl;obtain⟨r,hb2,g⟩:=MO f;have hen:=zO hsm a8;have hpl:=hsm.1;refine DX (dH.rem hr (dH.keep (gi i (dH.keep (gJ h dH.refl))))) ?_;refine sWk func183 ?_;refine gk (k:=alc (k:=λb4=>?_));refine on_ (qn_ (ws_ (wr_ (e_ mv ?_))));refine e_ (fX rfl rfl q 16 rfl rfl ae ai) (go ?_);refine wi_ (k:=λh1=>?_) (m:=λh1=>?_)
 ·refine go ?_;refine c2_ rfl (NZ (l:=ps) n hsm a8 r) ?_;rintro _ _ ⟨t,zs2,hzs,rfl,rfl⟩;obtain⟨z,d,c⟩:=Qx hzs g f;have hzl:(zs2.map pgV).length=(ei ps (q/16)).length:=by rw[←hzs,Yh,Yh]
  have a:(zs2.map pgV)[q%16]? =some (z.d,z.s):=by rw[Xd,d];all_goals rfl
  refine e_ nck (e_ fla (sto (k:=e_ nck (e_ fla (sto (k:=on_ (qn_ (ws_ (wr_ (e_ mv (e_ nck (e_ fla (e_ ldv ?_)))))))))))));refine e_ mv ?_;refine e_ (mw rfl rfl q 16 rfl rfl ae) ?_;refine e_ ixa (e_ (gr (hy:=a)) (gR ?_));exact⟨_,hsb,t,zs2,((q/16:Nat):Int),z,.inr ⟨_,rfl,hzs⟩,c,λs=>ee (rD d) inferInstance,rfl,rfl⟩
 have hbe:blk=((q/16:Nat):Int):=ao;have hzs:zs.map pgP=ei ps (q/16):=by
  rcases hbk with h1|⟨k,h1,h2⟩
  ·omega
  ·have:k=q/16:=by omega
   rw[←this];exact h2
 obtain⟨z,d,c⟩:=Qx hzs g f;have hzl:(zs.map pgV).length=(ei ps (q/16)).length:=by rw[←hzs,Yh,Yh]
 have a:(zs.map pgV)[q%16]? =some (z.d,z.s):=by rw[Xd,d];all_goals rfl
 refine wk_ (qn_ (ws_ (wr_ (e_ mv (e_ nck (e_ fla (e_ ldv (e_ mv ?_))))))));refine e_ (mw rfl rfl q 16 rfl rfl ae) ?_;refine e_ ixa (e_ (gr (hy:=a)) (gR ?_));exact⟨_,hsb,rd,zs,blk,z,hbk,c,λs=>ee (rD d) inferInstance,rfl,rfl⟩
theorem JT {R1 R2 R:dD}{rd:SV} [hg:Glb G R] [hr:Rem H Vr b [v0,v1,lpV lp,.int .i64 (((c.u:Nat):Int)-1),.int .i64 blk,rd.val,v6] R1] [h:mh R1 rd ePo (zs.map pgV) R2] [g:nR R2 (Cl pgH zs) R] [hl:DZ R lp im sk c.ps] (hn:lp=none→c.ps= []) (hbk:yI c.ps zs blk) (hc:jU c):
 SC G prog 133 [pA b] H (λv j=>v=iN ((fj c).length)∧∃(rd':SV) (zs':List PG) (blk':Int),yI c.ps zs' blk'∧j=Vr b [v0,v1,lpV lp,.int .i64 (((c.u:Nat):Int)-1),.int .i64 blk',rd'.val,v6]::Row rd' ePo (zs'.map pgV)::Cl pgH zs'::R):=by
 have hat:=hc.at_;have hpl:=hc.small.1;refine DX (dH.rem hr (dH.keep (gi h (dH.keep (gJ g dH.refl))))) ?_;refine sWk func133 ?_;refine go ?_;refine dX dN (as_ 0 (q:=mv) (k:=as_ 1 (q:=nck) (k:=as_ 2 (q:=fla) (k:=as_ 3 (q:=ldv) (k:=as_ 4 (q:=ilt) (k:=?_))))));refine fH 5 rfl rfl aa rfl (ey mv) (λh1=>?_) (λh1=>?_)
 ·replace h1:=nrm h1;have i:fj c= []:=pW (.inl ao);refine gk (k:=ift (k:=go ?_));refine gR ?_;exact⟨_,hsb,by rw[i];all_goals rfl,rd,zs,blk,hbk,rfl⟩
 replace h1:=nrm h1;have hu:¬c.u=0:=ao;refine go ?_;refine lH 11 rfl rfl rfl rfl aa rfl (iR (vs:= [_]) rfl (Ax hn)) ?_;refine gW (λh2=>?_) λh2=>?_
 ·refine gR ?_;exact⟨_,hsb,by rw[show fj c= []from pW (.inr a8)];all_goals rfl,rd,zs,blk,hbk,rfl⟩
 obtain⟨u,f⟩:∃u,c.u=u+1:=⟨c.u-1,a8⟩;have e:u<c.ps.length:=aw;refine wk_ (qn_ (ws_ (wr_ (e_ mv (e_ mv (e_ nck (e_ fla ?_)))))));refine e_ (evq ldv (congrArg (Value.int .i64) (show(((c.u:Nat):Int)-1)=((u:Nat):Int)from a8))) ?_;refine c2_ rfl (BZ hn hbk hc.ok hc.small hc.tot e) ?_;rintro _ _ ⟨rd2,zs2,blk2,z,hbk2,a,hzs,rfl,rfl⟩;have d:=eJ z.pos;have i:fj c=z.pos:=r8 f a;refine e_ (jz (ft:=28) (off:=1) underlying203 rfl rfl rfl) ?_;refine gR ?_;exact⟨_,hsb,congrArg (λn:Nat=>iN n) (d.trans (by rw[i])),rd2,zs2,blk2,hbk2,rfl⟩
theorem QL {R:dD} [hg:Glb G R] [hr:Rem H CuH b c R]:SC G prog 133 [pA b] H (λv H'=>v=iN ((fj c).length)∧H'=CuH b c::R):=by
 refine⟨n7 func133 rfl aa,λw i=>?_⟩;obtain⟨x,⟨h1,h2,h3⟩,h4⟩:=AE hr i;have j:=(JT (G:=G) (H:=Vr b [.int .i64 (gz c.ps c.u),iN c.mv,lpV x.lp,.int .i64 (((c.u:Nat):Int)-1),.int .i64 x.blk,x.rd.val,.bool c.told]::LPh x.lp x.im x.sk c.ps::Row x.rd ePo (x.zs.map pgV)::Cl pgH x.zs::R) (R1:=LPh x.lp x.im x.sk c.ps::Row x.rd ePo (x.zs.map pgV)::Cl pgH x.zs::R) (R2:=LPh x.lp x.im x.sk c.ps::Cl pgH x.zs::R) (R:=LPh x.lp x.im x.sk c.ps::R) (b:=b) (im:=x.im) (sk:=x.sk) (rd:=x.rd) (zs:=x.zs) (c:=c) h2 h3 h1).call w h4;refine j.mono λe w' he=>?_;cases e with
 |returned v=>
  obtain⟨H',g,rfl,f,d,a,h,rfl⟩:=he;refine⟨_,(oZ (c:=c) (x:=⟨x.lp,x.im,x.sk,f,d,a⟩) (R:=R) ⟨h1,h2,h⟩).sat ?_,rfl,rfl⟩;exact(dH.trans (H':=Vr b [.int .i64 (gz c.ps c.u),iN c.mv,lpV x.lp,.int .i64 (((c.u:Nat):Int)-1),.int .i64 a,f.val,.bool c.told]::LPh x.lp x.im x.sk c.ps::Row f ePo (d.map pgV)::Cl pgH d::R) hsb dH.refl).sat g
 |panicked ch=>exact he
 |outgrown=>exact he
end
end Go.Sx
