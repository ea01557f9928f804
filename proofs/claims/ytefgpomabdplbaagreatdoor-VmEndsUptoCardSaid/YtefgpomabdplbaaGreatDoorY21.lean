/- VmEnds: a run that is let go to its end tells live documents by rising ids and stays within its bounds of visits, steps and moves; walks of the program and the plain laws joined. -/
import Derived.Test.YtefgpomabdplbaaGreatDoorY20
import Derived.Test.YtefgpomabdplbaaGreatDoorYE0
import Derived.Test.YtefgpomabdplbaaGreatDoorYE1
import Derived.Test.YtefgpomabdplbaaGreatDoorYE2
set_option linter.unusedVariables false
set_option linter.unusedSimpArgs false
set_option linter.unusedSectionVars false
set_option linter.unnecessarySimpa false
set_option maxHeartbeats 0
namespace Go.Proofs.YtefgpomabdplbaaGreatDoor
open Go.Sx
open Go Go.Sx Go.ChangeShapes Go.WideShapes Go.ChangeAt Go.RowKit
set_option maxRecDepth 100000
theorem ve_aj {a b:Bool}(h:a=true) (k:b=true):(a && b)=true:=by rw[h,k];rfl
theorem ve_facts:joinedFacts Tryz.pinned.checked.prog 3 Tryz.f3 (Rows.OpenSpec.upto Rows.vmEndsSpec).bare Rows.vmEndsUptoRow=true:=by
 unfold joinedFacts
 exact ve_aj (ve_aj (ve_aj (ve_aj (ve_aj (ve_aj (ve_aj (ve_aj (ve_aj (ve_aj (ve_aj (ve_aj (ve_aj (ve_aj (ve_aj (ve_aj (ve_aj (ve_aj (ve_aj (ve_aj (ve_aj (ve_aj (ve_aj (ve_aj (ve_aj (ve_aj (ve_aj (ve_aj (ve_aj (ve_aj (ve_aj xk0 xk1) xk2) xk3) xk4) xk5) xk6) xk7) xk8) xk9) xk10) xk11) xk12) xk13) xk14) xk15) xk16) xk17) xk18) xk19) xk20) xk21) xk22) xk23) xk24) xk25) xk26) xk27) xk28) xk29) xk30) xk31
theorem ve_named:Tryz.pinned.checked.prog.funcNamed "concord/concordlaw23.VmEnds" =some 3:=a8
theorem ve_looks:Tryz.pinned.checked.prog.looks []=true:=a8
theorem ve_want1:Tryz.prog.wantsStandIn 35=false:=a8
theorem ve_said:Rows.VmEndsUptoSaid:=
 OpenClaim.holds_of_cond 3 Tryz.f3 rfl rfl rfl rfl rfl rfl rfl ⟨rfl,rfl,rfl,rfl,rfl⟩ rfl rfl rfl rfl rfl ve_named Tryz.func3 ve_facts
  (Yt (a8)) (by unfold Func.isWrapper;first|(rw[if_pos (ay)];kernel_rfl)|(rw[if_neg (ay)];exact⟨rfl,rfl⟩))
  (fun os started H enc _ F=> by rw[OpenClaim.pre_eq_preRow];exact ve_lifted os started H enc F)
theorem ve_plain (f:FuncId) (fn:Func) (hf:Tryz.pinned.checked.prog.funcNamed "concord/concordlaw23.VmEnds" =some f) (hfn:Tryz.pinned.checked.prog.funcs[f]? =some fn):
 true=Tryz.pinned.checked.prog.looks []∧∀(j:Nat) t,fn.params[j]? =some t→Tryz.pinned.checked.prog.wantsStandIn t=false:=by
 obtain rfl:f=3:=Option.some.inj (ve_named.symm.trans hf) |>.symm
 obtain rfl:fn=Tryz.f3:=(Option.some.inj (Tryz.func3.symm.trans hfn)).symm
 refine⟨ve_looks.symm,fun j t ht=> ?_⟩
 rw[Tryz.params3]at ht
 obtain rfl:t=35:=by simpa using Array.mem_of_getElem? ht
 exact ve_want1
theorem vmEnds_holds:Rows.VmEndsUptoCardSaid:=
 Claim7.holds_tied_plain_at .later [] _ _ _ _ ve_said (fun _ h=> aW) (a8) (fun _ h=> aW) vmEndsUpto_tied rfl ⟨rfl,rfl⟩ (a8) rfl ve_plain (a8)
end Go.Proofs.YtefgpomabdplbaaGreatDoor
