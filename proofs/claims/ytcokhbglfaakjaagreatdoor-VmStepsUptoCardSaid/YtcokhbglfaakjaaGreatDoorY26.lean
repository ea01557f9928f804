import Derived.Test.YtcokhbglfaakjaaGreatDoorCards
import Derived.Test.YtcokhbglfaakjaaGreatDoorQ21
import Derived.Test.YtcokhbglfaakjaaGreatDoorQ24
import Derived.Test.YtcokhbglfaakjaaGreatDoorY11
import Derived.Test.YtcokhbglfaakjaaGreatDoorY4
import Derived.Test.YtcokhbglfaakjaaGreatDoorY5
import Derived.Test.YtcokhbglfaakjaaGreatDoorY6
set_option linter.all false
set_option maxHeartbeats 0
namespace Go.Proofs.YtcokhbglfaakjaaGreatDoor
open Go.Sx
open Go Go.ChangeShapes Go.WideShapes Go.ChangeAt Go.RowKit
set_option maxRecDepth 100000
section
variable {p:List MemPlace}{v:Value}
section
variable {H:Type}{enc:TypeId×Value→H}{W:World}
theorem rd_bool (n:Nat) (cs:List Value) (y:DataW H×List MemPlace) (h:DataW.trod enc Tryz.prog W 0 (λ_=>true) true n 4 cs=some y):∃a:Bool,cs=eBo.f a∧True:=by
 obtain⟨k,rfl,_⟩:=DataW.trod_bool Tryz.underlying4 h;exact⟨k,rfl,trivial⟩
theorem open_prog {d:DataW H}(b:∃f,Value.okWide Tryz.prog W .any f 33 v) (h:DataW.Trod enc Tryz.prog W 0 (λ_=>true) true 33 v d p):
 ∃(a:PrA) (g:PrG),v=.agg (prV a g.all).toArray∧il [Old W] a g∧pk [Old W] a g∧J8 g (Rows.uptoBulk d):=by
 obtain⟨c,i⟩:=h;have hv:∃e,v=.agg e:=by
  obtain⟨_,hv⟩:=b;unfold Value.okWide at hv;rw[Tryz.underlying33]at hv;obtain⟨e,rfl,_⟩:=hv;exact⟨e,rfl⟩
 obtain⟨e,rfl⟩:=hv;obtain⟨l⟩:=e;obtain⟨a,g,hc,r⟩:=Ou c _ _ i;obtain rfl:l=_:=hc;exact⟨a,g,rfl,r⟩
theorem open_bools {d:DataW H}(c:∃b,Value.okWide Tryz.prog W .any b 52 v) (h:DataW.Trod enc Tryz.prog W 0 (λ_=>true) true 52 v d p):
 ∃(s:SV) (e:List Bool),v=s.val∧Sl [Old W] s eBo e∧e.length≤Rows.uptoBulk d:=by
 obtain⟨fuel,f⟩:=h;obtain⟨s,e,h0,j,i,r0⟩:=kI eBo (Q:=λa _=>True) Tryz.underlying52 Bt (λn g y h=>rd_bool n g y h) f;refine⟨s,e,?_,mo j,by simp only at i;omega⟩;obtain⟨b,hv⟩:=c;unfold Value.okWide at hv;rw[Tryz.underlying52]at hv;simp only at hv;unfold Cell.okWide at hv;rw[Tryz.underlying52]at hv;unfold SV.val at h0⊢;cases v <;> simp[Value.cells,Cell.ok,Tryz.underlying52]at h0 hv⊢;exact h0
end
theorem bulk_three {H:Type}{d0 d1 d2:DataW H}{gs:List (DataW H)}:Rows.uptoBulk d0+Rows.uptoBulk d1+Rows.uptoBulk d2≤Rows.uptoBulkAll ([d0,d1,d2]++gs):=by
 simp only[Yd,Ye,Rows.uptoBulkAll];omega
theorem vs_contract {H:Type}{enc:TypeId×Value→H}(W:World) (c:Nat) (args:Array Value) (ds gs:List (DataW H)) (d:List MemPlace)
 (b:∀(j:Nat) t v,Tryz.f4.params[j]? =some t→args[j]? =some v→Value.okWide Tryz.prog W .any c t v)
 (x:DataW.Whole enc Tryz.prog Tryz.f4.params.toList Rows.vmStepsSpec.vars false W args.toList ds gs d) (hk:Rows.uptoSmall H (ds++gs)=true) (hL:laidMetH Tryz.prog qp W):
 Calls Tryz.prog 4 args W λe C=>∃v,e=.returned v∧Rows.vmStepsSpec.post enc Tryz.prog Tryz.f4 false true false false W args v C:=by
 have hW':=x;obtain⟨p,q,m,M,rfl,hfz,hnd⟩:=x;have hA:DataW.TrodAll enc Tryz.prog W 0 (λ_=>true) true Tryz.f4.params.toList args.toList ds p:=m;rw[Tryz.params4]at hA b;obtain⟨u,vs0,d0,ds0,p0,q0,hargs,rfl,rfl,h0,K⟩:=trodAll_cons hA;obtain⟨s,vs1,d1,ds1,p1,q1,rfl,rfl,rfl,h1,J⟩:=trodAll_cons K;obtain⟨r,vs2,d2,ds2,p2,q2,rfl,rfl,rfl,h2,F⟩:=trodAll_cons J;obtain⟨rfl,rfl,rfl⟩:=trodAll_nil F;obtain rfl:args= #[u,s,r]:=by cases args;simp_all
 have hb:=Em hk;have hd01:=bulk_three (d0:=d0) (d1:=d1) (d2:=d2) (gs:=gs);obtain⟨fv,pv,kp,a,g,fs,lp,ps,B1,B2,B3,rfl,c1,c2,T,S,R,c6,B,A,z,i,n⟩:=Ij ⟨c,b 0 35 u rfl rfl⟩ h0;obtain⟨a2,y,rfl,e1,e2,N⟩:=open_prog ⟨c,b 1 33 s rfl rfl⟩ h1;obtain⟨E,scr,rfl,e4,e5⟩:=open_bools ⟨c,b 2 52 r rfl rfl⟩ h2;obtain⟨f,L,ht1,ht2,ht3,ht4⟩:=ES hL;haveI:=TT L;have l:=Qi a8 B A z i n;have h:=Qi (g:=y) (B3:=Rows.uptoBulk d1) a8 B A z i N;haveI:=S;haveI:=R;have k:=lawSteps (G:=nH W f) (H:= [Old W]) (fv:=fv) (pv:=pv) (a:=a) (p:=g) (a2:=a2) (p2:=y) (sc:=E) (scr:=scr) (fs:=fs) (lp:=lp) (ps:=ps) (kp:=kp) O2 K9 O8 FC T l h a8;refine(IZ k).mono λe C ⟨he,hkept⟩=>⟨_,he,?_⟩;exact KN hW' rfl rfl (by
  obtain⟨rfl,rfl⟩:=trodVars_none M;rfl) (by
  intro t w;rw[Tryz.params4]at w;have:t=35∨t=33∨t=52:=by simpa using w
  rcases this with rfl|rfl|rfl <;> exact Lg ae) hkept
def vs0:Array Value:= #[.agg #[.slice none 0 0,.slice none 0 0,.int .i64 0,.slice none 0 0,.slice none 0 0,.slice none 0 0,.bool false,.slice none 0 0,.slice none 0 0],.agg #[.slice none 0 0,.slice none 0 0,.slice none 0 0,.bool false,.slice none 0 0,.slice none 0 0],.slice none 0 0]
theorem vs_reads (os:Os) {H:Type}(enc:TypeId×Value→H):DataW.whole enc Tryz.prog ((World.doorLaid Tryz.prog 2000 os).forCall (λ_ _=>0) ⟨#[],vs0, []⟩).memory Tryz.f4.params.toList Rows.vmStepsSpec.vars false vs0.toList 8=some ([.agg [.agg [.agg [.nil],.nil],.lit (.int .i64 0),.agg [.nil,.nil,.nil,.lit (.bool false),.nil,.nil]],.agg [.nil,.nil,.nil,.lit (.bool false),.nil,.nil],.nil], [], []):=aa
theorem vs_ok (os:Os):Input.okWideB Tryz.prog ((World.doorLaid Tryz.prog 2000 os).forCall (λ_ _=>0) ⟨#[],vs0, []⟩) 4 ⟨#[],vs0, []⟩=true:=aa
theorem vs_sized (os:Os) {H:Type}(enc:TypeId×Value→H):(Rows.OpenSpec.upto Rows.vmStepsSpec).bare.sizedB enc Tryz.prog Tryz.f4 false ((World.doorLaid Tryz.prog 2000 os).forCall (λ_ _=>0) ⟨#[],vs0, []⟩).memory vs0 8=true:=aa
theorem vs_lifted (os:Os) (a:os.Started) (H:Type) (enc:TypeId×Value→H) (F:Stop.Interp):
 ReturnsInHanded {} Tryz.checked os 4 .any ((Rows.OpenSpec.upto Rows.vmStepsSpec).preRow enc Tryz.prog Tryz.f4 Rows.vmStepsUptoRow.domain false Rows.vmStepsUptoRow.laid) (((Rows.OpenSpec.upto Rows.vmStepsSpec).at F).post enc Tryz.prog Tryz.f4 false true false false):=by
 refine returnsInHanded_of_row (C:=Tryz.checked) (s:=Rows.OpenSpec.upto Rows.vmStepsSpec) CE a aa Tryz.func4
  (witness_row_atRef (enc:=enc) (C:=Tryz.checked) false (World.doorLaid Tryz.prog 2000 os) vs0 rfl (MD os _) (ME os _) (vs_ok os)
    (OpenSpec.preRow_of_cond 8 (vs_reads os enc) aa (λk hk=>by cases hk;kernel_rfl) (vs_sized os enc) (PY os _))) ?_
 intro W e f i h b d g _ c _ hL _ _;exact vs_contract W e f i h b d g (c _ rfl) hL
end
end Go.Proofs.YtcokhbglfaakjaaGreatDoor
