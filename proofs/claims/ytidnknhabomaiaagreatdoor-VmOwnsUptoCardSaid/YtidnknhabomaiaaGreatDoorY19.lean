/- VmOwns: the program that is handed in stays, and no machine keeps it; walks of the program and the plain laws joined. -/
import Derived.Test.YtidnknhabomaiaaGreatDoorY18
import Derived.Test.YtidnknhabomaiaaGreatDoorYO0
import Derived.Test.YtidnknhabomaiaaGreatDoorYO1
import Derived.Test.YtidnknhabomaiaaGreatDoorYO2
set_option linter.unusedVariables false
set_option linter.unusedSimpArgs false
set_option linter.unusedSectionVars false
set_option linter.unnecessarySimpa false
set_option maxHeartbeats 0
namespace Go.Proofs.YtidnknhabomaiaaGreatDoor
open Go.Sx
open Go Go.Sx Go.ChangeShapes Go.WideShapes Go.ChangeAt Go.RowKit
set_option maxRecDepth 100000
theorem vo_aj {a b:Bool}(h:a=true) (k:b=true):(a && b)=true:=by rw[h,k];rfl
theorem vo_facts:joinedFacts Tryz.pinned.checked.prog 4 Tryz.f4 (Rows.OpenSpec.upto Rows.vmOwnsSpec).bare Rows.vmOwnsUptoRow=true:=by
 unfold joinedFacts
 exact vo_aj (vo_aj (vo_aj (vo_aj (vo_aj (vo_aj (vo_aj (vo_aj (vo_aj (vo_aj (vo_aj (vo_aj (vo_aj (vo_aj (vo_aj (vo_aj (vo_aj (vo_aj (vo_aj (vo_aj (vo_aj (vo_aj (vo_aj (vo_aj (vo_aj (vo_aj (vo_aj (vo_aj (vo_aj (vo_aj (vo_aj wk0 wk1) wk2) wk3) wk4) wk5) wk6) wk7) wk8) wk9) wk10) wk11) wk12) wk13) wk14) wk15) wk16) wk17) wk18) wk19) wk20) wk21) wk22) wk23) wk24) wk25) wk26) wk27) wk28) wk29) wk30) wk31
theorem vo_named:Tryz.pinned.checked.prog.funcNamed "concord/concordlaw23.VmOwns" =some 4:=a8
theorem vo_looks:Tryz.pinned.checked.prog.looks []=true:=a8
theorem vo_want1:Tryz.prog.wantsStandIn 35=false:=a8
theorem vo_said:Rows.VmOwnsUptoSaid:=
 OpenClaim.holds_of_cond 4 Tryz.f4 rfl rfl rfl rfl rfl rfl rfl ⟨rfl,rfl,rfl,rfl,rfl⟩ rfl rfl rfl rfl rfl vo_named Tryz.func4 vo_facts
  (Yt (a8)) (by unfold Func.isWrapper;first|(rw[if_pos (ay)];kernel_rfl)|(rw[if_neg (ay)];exact⟨rfl,rfl⟩))
  (fun os started H enc _ F=> by rw[OpenClaim.pre_eq_preRow];exact vo_lifted os started H enc F)
theorem vo_plain (f:FuncId) (fn:Func) (hf:Tryz.pinned.checked.prog.funcNamed "concord/concordlaw23.VmOwns" =some f) (hfn:Tryz.pinned.checked.prog.funcs[f]? =some fn):
 true=Tryz.pinned.checked.prog.looks []∧∀(j:Nat) t,fn.params[j]? =some t→Tryz.pinned.checked.prog.wantsStandIn t=false:=by
 obtain rfl:f=4:=Option.some.inj (vo_named.symm.trans hf) |>.symm
 obtain rfl:fn=Tryz.f4:=(Option.some.inj (Tryz.func4.symm.trans hfn)).symm
 refine⟨vo_looks.symm,fun j t ht=> ?_⟩
 rw[Tryz.params4]at ht
 obtain rfl:t=35:=by simpa using Array.mem_of_getElem? ht
 exact vo_want1
theorem vmOwns_holds:Rows.VmOwnsUptoCardSaid:=
 Claim7.holds_tied_plain_at .later [] _ _ _ _ vo_said (fun _ h=> aW) (a8) (fun _ h=> aW) vmOwnsUpto_tied rfl ⟨rfl,rfl⟩ (a8) rfl vo_plain (a8)
end Go.Proofs.YtidnknhabomaiaaGreatDoor
