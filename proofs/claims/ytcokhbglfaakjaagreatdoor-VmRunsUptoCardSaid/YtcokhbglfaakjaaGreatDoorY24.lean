import Derived.Test.YtcokhbglfaakjaaGreatDoorCards
import Derived.Test.YtcokhbglfaakjaaGreatDoorQ21
import Derived.Test.YtcokhbglfaakjaaGreatDoorY6
import Derived.Test.YtcokhbglfaakjaaGreatDoorY11
import Derived.Test.YtcokhbglfaakjaaGreatDoorY4
import Derived.Test.YtcokhbglfaakjaaGreatDoorY5
import Derived.Test.YtcokhbglfaakjaaGreatDoorQ30
set_option linter.all false
set_option maxHeartbeats 0
namespace Go.Proofs.YtcokhbglfaakjaaGreatDoor
open Go.Sx
open Go Go.ChangeShapes Go.WideShapes Go.ChangeAt Go.RowKit
set_option maxRecDepth 100000
section
variable {H:Type}
theorem BO {enc:TypeId×Value→H}(W:World) (i:Nat) (args:Array Value) (ds u:List (DataW H)) (h:List MemPlace) (c:∀(j:Nat) t v,Tryz.f3.params[j]? =some t→args[j]? =some v→Value.okWide Tryz.prog W .any i t v) (A:DataW.Whole enc Tryz.prog Tryz.f3.params.toList Rows.vmRunsSpec.vars false W args.toList ds u h) (hk:Rows.uptoSmall H (ds++u)=true) (hL:laidMetH Tryz.prog qp W):
 Calls Tryz.prog 3 args W λe C=>∃v,e=.returned v∧Rows.vmRunsSpec.post enc Tryz.prog Tryz.f3 false true false false W args v C:=by
 have hW':=A;obtain⟨p,q,s,K,rfl,hfz,hnd⟩:=A;have hA:DataW.TrodAll enc Tryz.prog W 0 (λ_=>true) true Tryz.f3.params.toList args.toList ds p:=s;rw[Tryz.params3]at hA c;obtain⟨y,vs0,B,ds0,p0,q0,hargs,rfl,rfl,h0,F⟩:=trodAll_cons hA;obtain⟨m,vs1,L,ds1,p1,q1,rfl,rfl,rfl,h1,E⟩:=trodAll_cons F;obtain⟨rfl,rfl,rfl⟩:=trodAll_nil E;obtain rfl:args= #[y,m]:=by cases args;simp_all
 have hb:=Em hk;have hd0:=rS (d:=B) (l:= [B,L]++u) aq;obtain⟨fv,pv,kp,a,g,fs,lp,ps,B1,B2,B3,rfl,c1,c2,S,c4,c5,c6,R,N,M,x,w⟩:=Ij ⟨i,c 0 35 y rfl rfl⟩ h0;obtain⟨b,rfl⟩:∃b:Int,m=.int .i64 b:=by
  obtain⟨f1,h2⟩:=h1;obtain⟨k,h3,_,_⟩:=DataW.trod_int Tryz.underlying3 h2;have hv:=c 1 3 m rfl rfl;unfold Value.okWide at hv;rw[Tryz.underlying3]at hv;simp only at hv;unfold Cell.okWide at hv;rw[Tryz.underlying3]at hv;cases m <;> simp[Value.cells,Cell.ok,Tryz.underlying3]at h3 hv⊢;exact h3.1
 obtain⟨f,J,ht1,ht2,ht3,ht4⟩:=ES hL;haveI:=TT J;have r:=Qi a8 R N M x w;have n:=Pk (G:=nH W f) (H:= [Old W]) (fv:=fv) (pv:=pv) (a:=a) (p:=g) (fs:=fs) (lp:=lp) (ps:=ps) (kp:=kp) (fu:=b) O2 K9 O8 FC S r;refine(IZ n).mono λe C ⟨he,hkept⟩=>⟨_,he,?_⟩;exact KN hW' rfl rfl (by
  obtain⟨rfl,rfl⟩:=trodVars_none K;rfl) (by
  intro t z;rw[Tryz.params3]at z;have:t=35∨t=3:=by simpa using z
  rcases this with rfl|rfl <;> exact Lg ae) hkept
def vr0:Array Value:= #[.agg #[.slice none 0 0,.slice none 0 0,.int .i64 0,.slice none 0 0,.slice none 0 0,.slice none 0 0,.bool false,.slice none 0 0,.slice none 0 0],.int .i64 0]
theorem Jo (os:Os) (enc:TypeId×Value→H):DataW.whole enc Tryz.prog ((World.doorLaid Tryz.prog 2000 os).forCall (λ_ _=>0) ⟨#[],vr0, []⟩).memory Tryz.f3.params.toList Rows.vmRunsSpec.vars false vr0.toList 8=some ([.agg [.agg [.agg [.nil],.nil],.lit (.int .i64 0),.agg [.nil,.nil,.nil,.lit (.bool false),.nil,.nil]],.lit (.int .i64 0)], [], []):=aa
theorem VS (os:Os):Input.okWideB Tryz.prog ((World.doorLaid Tryz.prog 2000 os).forCall (λ_ _=>0) ⟨#[],vr0, []⟩) 3 ⟨#[],vr0, []⟩=true:=aa
theorem Jn (os:Os) (enc:TypeId×Value→H):(Rows.OpenSpec.upto Rows.vmRunsSpec).bare.sizedB enc Tryz.prog Tryz.f3 false ((World.doorLaid Tryz.prog 2000 os).forCall (λ_ _=>0) ⟨#[],vr0, []⟩).memory vr0 8=true:=aa
theorem HD (os:Os) (a:os.Started) (H:Type) (enc:TypeId×Value→H) (F:Stop.Interp):
 ReturnsInHanded {} Tryz.checked os 3 .any ((Rows.OpenSpec.upto Rows.vmRunsSpec).preRow enc Tryz.prog Tryz.f3 Rows.vmRunsUptoRow.domain false Rows.vmRunsUptoRow.laid) (((Rows.OpenSpec.upto Rows.vmRunsSpec).at F).post enc Tryz.prog Tryz.f3 false true false false):=by
 refine returnsInHanded_of_row (C:=Tryz.checked) (s:=Rows.OpenSpec.upto Rows.vmRunsSpec) CE a aa Tryz.func3
  (witness_row_atRef (enc:=enc) (C:=Tryz.checked) false (World.doorLaid Tryz.prog 2000 os) vr0 rfl (MD os _) (ME os _) (VS os)
    (OpenSpec.preRow_of_cond 8 (Jo os enc) aa (λk hk=>by cases hk;kernel_rfl) (Jn os enc) (PY os _))) ?_
 intro W e f i h b d g _ c _ hL _ _;exact BO W e f i h b d g (c _ rfl) hL
end
end Go.Proofs.YtcokhbglfaakjaaGreatDoor
