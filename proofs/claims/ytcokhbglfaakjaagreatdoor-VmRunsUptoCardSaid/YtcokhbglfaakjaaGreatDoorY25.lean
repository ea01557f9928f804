/- VmRuns: Run of every program over every part answers as the reference's machine does: the hits, the steps, the moves and the visits, or the error; walks of the program and of the reference and the plain machine that both compute. -/
import Derived.Test.YtcokhbglfaakjaaGreatDoorYR1
import Derived.Test.YtcokhbglfaakjaaGreatDoorYR2
import Derived.Test.YtcokhbglfaakjaaGreatDoorY24
import Derived.Test.YtcokhbglfaakjaaGreatDoorYR0
set_option linter.all false
set_option maxHeartbeats 0
namespace Go.Proofs.YtcokhbglfaakjaaGreatDoor
open Go.Sx
open Go Go.ChangeShapes Go.WideShapes Go.ChangeAt Go.RowKit
set_option maxRecDepth 100000
theorem iv {a b:Bool}(h:a=true) (k:b=true):(a&&b)=true:=by rw[h,k];rfl
theorem Jr:joinedFacts Tryz.pinned.checked.prog 3 Tryz.f3 (Rows.OpenSpec.upto Rows.vmRunsSpec).bare Rows.vmRunsUptoRow=true:=by
 unfold joinedFacts;exact iv (iv (iv (iv (iv (iv (iv (iv (iv (iv (iv (iv (iv (iv (iv (iv (iv (iv (iv (iv (iv (iv (iv (iv (iv (iv (iv (iv (iv (iv (iv Z6 Z5) Z4) Z3) Z2) Z1) Z0) YZ) YY) YX) VR) VQ) VP) VO) VN) VM) VL) VK) VJ) VH) VG) VF) VE) VD) VC) VB) VA) UZ) UY) UX) UW) UU
theorem BN:Tryz.pinned.checked.prog.funcNamed "concord/concordlaw23.VmRuns" =some 3:=aa
theorem Jq:Tryz.pinned.checked.prog.looks []=true:=aa
theorem Jm:Tryz.prog.wantsStandIn 35=false:=aa
theorem Jl:Tryz.prog.wantsStandIn 3=false:=aa
theorem Ns:Rows.VmRunsUptoSaid:=
 OpenClaim.holds_of_cond 3 Tryz.f3 rfl rfl rfl rfl rfl rfl rfl ⟨rfl,rfl,rfl,rfl,rfl⟩ rfl rfl rfl rfl rfl BN Tryz.func3 Jr
  (Yt aa) (by unfold Func.isWrapper;first|(rw[if_pos ax];kernel_rfl)|(rw[if_neg ax];exact⟨rfl,rfl⟩))
  (λc a H b _ F=>by rw[OpenClaim.pre_eq_preRow];exact HD c a H b F)
theorem Jp (f:FuncId) (b:Func) (hf:Tryz.pinned.checked.prog.funcNamed "concord/concordlaw23.VmRuns" =some f) (a:Tryz.pinned.checked.prog.funcs[f]? =some b):
 true=Tryz.pinned.checked.prog.looks []∧∀(j:Nat) t,b.params[j]? =some t→Tryz.pinned.checked.prog.wantsStandIn t=false:=by
 obtain rfl:f=3:=Xk (BN.symm.trans hf) |>.symm;obtain rfl:b=Tryz.f3:=(Xk (Tryz.func3.symm.trans a)).symm;refine⟨Jq.symm,λj t c=>?_⟩;rw[Tryz.params3]at c;have h9:t=35∨t=3:=by simpa using Array.mem_of_getElem? c
 rcases h9 with rfl|rfl
 ·exact Jm
 ·exact Jl
theorem vmRuns_holds:Rows.VmRunsUptoCardSaid:=
 Claim7.holds_tied_plain_at .later [] _ _ _ _ Ns (λ_ h=>bx) aa (λ_ h=>bx) w6 rfl ⟨rfl,rfl⟩ aa rfl Jp aa
end Go.Proofs.YtcokhbglfaakjaaGreatDoor
