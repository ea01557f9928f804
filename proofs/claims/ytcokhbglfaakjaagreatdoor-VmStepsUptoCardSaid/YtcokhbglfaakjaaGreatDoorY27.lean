/- VmSteps: every New, Next and Counts of two machines in turns answers as the reference's machines do; walks of the program and of the reference and the plain machine that both compute. -/
import Derived.Test.YtcokhbglfaakjaaGreatDoorYS0
import Derived.Test.YtcokhbglfaakjaaGreatDoorYS1
import Derived.Test.YtcokhbglfaakjaaGreatDoorYS2
import Derived.Test.YtcokhbglfaakjaaGreatDoorY26
set_option linter.all false
set_option maxHeartbeats 0
namespace Go.Proofs.YtcokhbglfaakjaaGreatDoor
open Go.Sx
open Go Go.ChangeShapes Go.WideShapes Go.ChangeAt Go.RowKit
set_option maxRecDepth 100000
theorem vs_aj {a b:Bool}(h:a=true) (k:b=true):(a&&b)=true:=by rw[h,k];rfl
theorem vs_facts:joinedFacts Tryz.pinned.checked.prog 4 Tryz.f4 (Rows.OpenSpec.upto Rows.vmStepsSpec).bare Rows.vmStepsUptoRow=true:=by
 unfold joinedFacts;exact vs_aj (vs_aj (vs_aj (vs_aj (vs_aj (vs_aj (vs_aj (vs_aj (vs_aj (vs_aj (vs_aj (vs_aj (vs_aj (vs_aj (vs_aj (vs_aj (vs_aj (vs_aj (vs_aj (vs_aj (vs_aj (vs_aj (vs_aj (vs_aj (vs_aj (vs_aj (vs_aj (vs_aj (vs_aj (vs_aj (vs_aj vsk0 vsk1) vsk2) vsk3) vsk4) vsk5) vsk6) vsk7) vsk8) vsk9) vsk10) vsk11) vsk12) vsk13) vsk14) vsk15) vsk16) vsk17) vsk18) vsk19) vsk20) vsk21) vsk22) vsk23) vsk24) vsk25) vsk26) vsk27) vsk28) vsk29) vsk30) vsk31
theorem vs_named:Tryz.pinned.checked.prog.funcNamed "concord/concordlaw23.VmSteps" =some 4:=aa
theorem vs_looks:Tryz.pinned.checked.prog.looks []=true:=aa
theorem vs_want1:Tryz.prog.wantsStandIn 35=false:=aa
theorem vs_want2:Tryz.prog.wantsStandIn 33=false:=aa
theorem vs_want3:Tryz.prog.wantsStandIn 52=false:=aa
theorem vs_said:Rows.VmStepsUptoSaid:=
 OpenClaim.holds_of_cond 4 Tryz.f4 rfl rfl rfl rfl rfl rfl rfl ⟨rfl,rfl,rfl,rfl,rfl⟩ rfl rfl rfl rfl rfl vs_named Tryz.func4 vs_facts
  (Yt aa) (by unfold Func.isWrapper;first|(rw[if_pos ax];kernel_rfl)|(rw[if_neg ax];exact⟨rfl,rfl⟩))
  (λc a H b _ F=>by rw[OpenClaim.pre_eq_preRow];exact vs_lifted c a H b F)
theorem vs_plain (f:FuncId) (b:Func) (hf:Tryz.pinned.checked.prog.funcNamed "concord/concordlaw23.VmSteps" =some f) (a:Tryz.pinned.checked.prog.funcs[f]? =some b):
 true=Tryz.pinned.checked.prog.looks []∧∀(j:Nat) t,b.params[j]? =some t→Tryz.pinned.checked.prog.wantsStandIn t=false:=by
 obtain rfl:f=4:=Xk (vs_named.symm.trans hf) |>.symm;obtain rfl:b=Tryz.f4:=(Xk (Tryz.func4.symm.trans a)).symm;refine⟨vs_looks.symm,λj t c=>?_⟩;rw[Tryz.params4]at c;have h9:t=35∨t=33∨t=52:=by simpa using Array.mem_of_getElem? c
 rcases h9 with rfl|rfl|rfl
 ·exact vs_want1
 ·exact vs_want2
 ·exact vs_want3
theorem vmSteps_holds:Rows.VmStepsUptoCardSaid:=
 Claim7.holds_tied_plain_at .later [] _ _ _ _ vs_said (λ_ h=>bx) aa (λ_ h=>bx) HG rfl ⟨rfl,rfl⟩ aa rfl vs_plain aa
end Go.Proofs.YtcokhbglfaakjaaGreatDoor
