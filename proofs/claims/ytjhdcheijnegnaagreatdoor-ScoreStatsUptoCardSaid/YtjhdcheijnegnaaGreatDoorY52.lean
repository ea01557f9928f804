import Derived.Test.YtjhdcheijnegnaaGreatDoorY53
import Derived.Test.YtjhdcheijnegnaaGreatDoorYT0
import Derived.Test.YtjhdcheijnegnaaGreatDoorYT1
import Derived.Test.YtjhdcheijnegnaaGreatDoorYT2
set_option linter.all false
set_option maxHeartbeats 0
namespace Go.Proofs.YtjhdcheijnegnaaGreatDoor
open Go.Sx
open Go Go.ChangeShapes Go.WideShapes Go.ChangeAt Go.RowKit
set_option maxRecDepth 100000
theorem fR {a b:Bool}(h:a=true) (k:b=true):(a&&b)=true:=by rw[h,k];rfl
theorem Et:joinedFacts Tryz.pinned.checked.prog 3 Tryz.f3 (Rows.OpenSpec.upto Rows.scoreStatsSpec).bare Rows.scoreStatsUptoRow=true:=by
 unfold joinedFacts;exact fR (fR (fR (fR (fR (fR (fR (fR (fR (fR (fR (fR (fR (fR (fR (fR (fR (fR (fR (fR (fR (fR (fR (fR (fR (fR (fR (fR (fR (fR (fR tk0 tk1) tk2) tk3) tk4) tk5) tk6) tk7) tk8) tk9) Pp) Pn) Pm) Pk) Pj) Ph) Pg) Pf) Pe) Pd) Pc) Pb) Pa) OZ) OY) OX) OW) OV) OU) OT) OS) OR
theorem I8:Rows.ScoreStatsUptoSaid:=
 OpenClaim.holds_of_cond 3 Tryz.f3 rfl rfl rfl rfl rfl rfl rfl ⟨rfl,rfl,rfl,rfl,rfl⟩ rfl rfl rfl rfl rfl xk Tryz.func3 Et
  (Yt aa) (by unfold Func.isWrapper;first|(rw[if_pos ao];kernel_rfl)|(rw[if_neg ao];exact⟨rfl,rfl⟩))
  (λc a H b _ F=>by rw[OpenClaim.pre_eq_preRow];exact Ch c a H b F)
end Go.Proofs.YtjhdcheijnegnaaGreatDoor
