import Derived.Test.YtjhdcheijnegnaaGreatDoorCards
import Derived.Test.YtjhdcheijnegnaaGreatDoorY11
import Derived.Test.YtjhdcheijnegnaaGreatDoorY6
import Derived.Test.YtjhdcheijnegnaaGreatDoorY50
import Derived.Test.YtjhdcheijnegnaaGreatDoorY4
import Derived.Test.YtjhdcheijnegnaaGreatDoorY5
set_option linter.all false
set_option maxHeartbeats 0
namespace Go.Proofs.YtjhdcheijnegnaaGreatDoor
open Go.Sx
open Go Go.ChangeShapes Go.WideShapes Go.ChangeAt Go.RowKit
set_option maxRecDepth 100000
section
variable {H:Type}
theorem xq {enc:TypeId×Value→H}(W:World) (g:Nat) (args:Array Value) (ds k:List (DataW H)) (b:List MemPlace) (c:∀(j:Nat) t v,Tryz.f3.params[j]? =some t→args[j]? =some v→Value.okWide Tryz.prog W .any g t v) (r:DataW.Whole enc Tryz.prog Tryz.f3.params.toList Rows.scoreStatsSpec.vars false W args.toList ds k b) (hk:Rows.uptoSmall H (ds++k)=true) (hL:laidMetH Tryz.prog lO W):
 Calls Tryz.prog 3 args W λe u=>∃v,e=.returned v∧Rows.scoreStatsSpec.post enc Tryz.prog Tryz.f3 false true false false W args v u:=by
 have hW':=r;obtain⟨p,q,i,y,rfl,hfz,hnd⟩:=r;have hA:DataW.TrodAll enc Tryz.prog W 0 (λ_=>true) true Tryz.f3.params.toList args.toList ds p:=i;rw[Tryz.params3]at hA c;obtain⟨m,vs0,s,ds0,p0,q0,hargs,rfl,rfl,h0,w⟩:=trodAll_cons hA;obtain⟨rfl,rfl,rfl⟩:=trodAll_nil w;obtain rfl:args= #[m]:=by cases args;simp_all
 have hb:=zu hk;have hd0:=vA (d:=s) (l:= [s]++k) ak;obtain⟨a,fs,svs,vss,cs,dl,B1,B2,rfl,c1,c2,C,c4,c5,c6,B,A,z⟩:=CD ⟨g,c 0 28 m rfl rfl⟩ h0;obtain⟨f,x,ht1,ht2,ht3,ht4⟩:=zR hL;haveI:=Mh x;have h:=FE (G:=kW W f) (H:= [Old W]) (a:=a) (fs:=fs) (svs:=svs) (vss:=vss) (cs:=cs) (dl:=dl) I5 EA C (Jm a8 B A z) a8;refine(Dg h).mono λe u ⟨he,hkept⟩=>⟨_,he,?_⟩;exact EX hW' rfl rfl (by
  obtain⟨rfl,rfl⟩:=trodVars_none y;rfl) (by
  intro t n;rw[Tryz.params3]at n;have:t=28:=by simpa using n
  subst this;exact Fp ae) hkept
def st0:Array Value:= #[.agg #[.slice none 0 0,.slice none 0 0,.slice none 0 0,.slice none 0 0,.int .i64 0,.string ⟨#[]⟩]]
theorem Em (os:Os) (enc:TypeId×Value→H):DataW.whole enc Tryz.prog ((World.doorLaid Tryz.prog 2000 os).forCall (λ_ _=>0) ⟨#[],st0, []⟩).memory Tryz.f3.params.toList Rows.scoreStatsSpec.vars false st0.toList 8=some ([.agg [.agg [.nil],.nil,.nil,.nil,.lit (.int .i64 0),.lit (.string [])]], [], []):=aa
theorem NG (os:Os):Input.okWideB Tryz.prog ((World.doorLaid Tryz.prog 2000 os).forCall (λ_ _=>0) ⟨#[],st0, []⟩) 3 ⟨#[],st0, []⟩=true:=aa
theorem El (os:Os) (enc:TypeId×Value→H):(Rows.OpenSpec.upto Rows.scoreStatsSpec).bare.sizedB enc Tryz.prog Tryz.f3 false ((World.doorLaid Tryz.prog 2000 os).forCall (λ_ _=>0) ⟨#[],st0, []⟩).memory st0 8=true:=aa
theorem Ch (os:Os) (a:os.Started) (H:Type) (enc:TypeId×Value→H) (F:Stop.Interp):
 ReturnsInHanded {} Tryz.checked os 3 .any ((Rows.OpenSpec.upto Rows.scoreStatsSpec).preRow enc Tryz.prog Tryz.f3 Rows.scoreStatsUptoRow.domain false Rows.scoreStatsUptoRow.laid) (((Rows.OpenSpec.upto Rows.scoreStatsSpec).at F).post enc Tryz.prog Tryz.f3 false true false false):=by
 refine returnsInHanded_of_row (C:=Tryz.checked) (s:=Rows.OpenSpec.upto Rows.scoreStatsSpec) xP a aa Tryz.func3
  (witness_row_atRef (enc:=enc) (C:=Tryz.checked) false (World.doorLaid Tryz.prog 2000 os) st0 rfl (Gx os _) (Gy os _) (NG os)
    (OpenSpec.preRow_of_cond 8 (Em os enc) aa (λk hk=>by cases hk;kernel_rfl) (El os enc) (Je os _))) ?_
 intro W e f i h b d g _ c _ hL _ _;exact xq W e f i h b d g (c _ rfl) hL
end
end Go.Proofs.YtjhdcheijnegnaaGreatDoor
