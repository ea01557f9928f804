/- VmAlgebra: of two codes over the same tables, put one behind the other with an operation, the hits are those of the two, put together document by document; so with the operations on one; walks of the program and the plain laws joined. -/
import Derived.Test.YtefgpomabdplbaaGreatDoorY22
import Derived.Test.YtefgpomabdplbaaGreatDoorYA0
import Derived.Test.YtefgpomabdplbaaGreatDoorYA1
import Derived.Test.YtefgpomabdplbaaGreatDoorYA2
set_option linter.unusedVariables false
set_option linter.unusedSimpArgs false
set_option linter.unusedSectionVars false
set_option linter.unnecessarySimpa false
set_option maxHeartbeats 0
namespace Go.Proofs.YtefgpomabdplbaaGreatDoor
open Go.Sx
open Go Go.Sx Go.ChangeShapes Go.WideShapes Go.ChangeAt Go.RowKit
set_option maxRecDepth 100000
theorem va_aj {a b:Bool}(h:a=true) (k:b=true):(a && b)=true:=by rw[h,k];rfl
theorem va_facts:joinedFacts Tryz.pinned.checked.prog 4 Tryz.f4 (Rows.OpenSpec.upto Rows.vmAlgebraSpec).bare Rows.vmAlgebraUptoRow=true:=by
 unfold joinedFacts
 exact va_aj (va_aj (va_aj (va_aj (va_aj (va_aj (va_aj (va_aj (va_aj (va_aj (va_aj (va_aj (va_aj (va_aj (va_aj (va_aj (va_aj (va_aj (va_aj (va_aj (va_aj (va_aj (va_aj (va_aj (va_aj (va_aj (va_aj (va_aj (va_aj (va_aj (va_aj zk0 zk1) zk2) zk3) zk4) zk5) zk6) zk7) zk8) zk9) zk10) zk11) zk12) zk13) zk14) zk15) zk16) zk17) zk18) zk19) zk20) zk21) zk22) zk23) zk24) zk25) zk26) zk27) zk28) zk29) zk30) zk31
theorem va_named:Tryz.pinned.checked.prog.funcNamed "concord/concordlaw23.VmAlgebra" =some 4:=a8
theorem va_looks:Tryz.pinned.checked.prog.looks []=true:=a8
theorem va_want1:Tryz.prog.wantsStandIn 71=false:=a8
theorem va_said:Rows.VmAlgebraUptoSaid:=
 OpenClaim.holds_of_cond 4 Tryz.f4 rfl rfl rfl rfl rfl rfl rfl ⟨rfl,rfl,rfl,rfl,rfl⟩ rfl rfl rfl rfl rfl va_named Tryz.func4 va_facts
  (Yt (a8)) (by unfold Func.isWrapper;first|(rw[if_pos (ay)];kernel_rfl)|(rw[if_neg (ay)];exact⟨rfl,rfl⟩))
  (fun os started H enc _ F=> by rw[OpenClaim.pre_eq_preRow];exact va_lifted os started H enc F)
theorem va_plain (f:FuncId) (fn:Func) (hf:Tryz.pinned.checked.prog.funcNamed "concord/concordlaw23.VmAlgebra" =some f) (hfn:Tryz.pinned.checked.prog.funcs[f]? =some fn):
 true=Tryz.pinned.checked.prog.looks []∧∀(j:Nat) t,fn.params[j]? =some t→Tryz.pinned.checked.prog.wantsStandIn t=false:=by
 obtain rfl:f=4:=Option.some.inj (va_named.symm.trans hf) |>.symm
 obtain rfl:fn=Tryz.f4:=(Option.some.inj (Tryz.func4.symm.trans hfn)).symm
 refine⟨va_looks.symm,fun j t ht=> ?_⟩
 rw[Tryz.params4]at ht
 obtain rfl:t=71:=by simpa using Array.mem_of_getElem? ht
 exact va_want1
theorem vmAlgebra_holds:Rows.VmAlgebraUptoCardSaid:=
 Claim7.holds_tied_plain_at .later [] _ _ _ _ va_said (fun _ h=> aW) (a8) (fun _ h=> aW) vmAlgebraUpto_tied rfl ⟨rfl,rfl⟩ (a8) rfl va_plain (a8)
end Go.Proofs.YtefgpomabdplbaaGreatDoor
