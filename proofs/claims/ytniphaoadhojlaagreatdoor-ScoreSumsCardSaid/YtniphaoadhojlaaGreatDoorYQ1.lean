import Derived.Test.YtniphaoadhojlaaGreatDoorY1
set_option linter.all false
namespace Go.Proofs.YtniphaoadhojlaaGreatDoor
open Go
set_option maxRecDepth 100000
theorem ssk10 : ((Rows.scoreSumsRow.unfollowed == Tryz.pinned.checked.prog.unfollowed 3)) = true := by kernel_rfl
theorem ssk11 : ((Rows.scoreSumsRow.recurses == Tryz.pinned.checked.prog.recurses 3)) = true := by kernel_rfl
theorem ssk12 : ((Rows.scoreSumsRow.named == Tryz.pinned.checked.prog.varsNamed 3)) = true := by kernel_rfl
theorem ssk13 : ((Rows.scoreSumsRow.maps == (Tryz.f3.params.toList ++ (OpenSpec.ofChange Rows.scoreSumsSpec).bare.plain.varTypes Tryz.pinned.checked.prog).any (Tryz.pinned.checked.prog.mapsRec ·))) = true := by kernel_rfl
theorem ssk14 : ((Rows.scoreSumsRow.ifaces == (Tryz.f3.params.toList ++ (OpenSpec.ofChange Rows.scoreSumsSpec).bare.plain.varTypes Tryz.pinned.checked.prog).any (Tryz.pinned.checked.prog.ifacesRec ·))) = true := by kernel_rfl
theorem ssk15 : ((Rows.scoreSumsRow.mapsOut == Tryz.pinned.checked.prog.mapsAmong Tryz.f3.resultTypes.toList)) = true := by kernel_rfl
theorem ssk16 : ((Rows.scoreSumsRow.loops == (Tryz.f3.params.toList ++ (OpenSpec.ofChange Rows.scoreSumsSpec).bare.plain.varTypes Tryz.pinned.checked.prog).any (Tryz.pinned.checked.prog.loopsFrom ·))) = true := by kernel_rfl
theorem ssk17 : ((Rows.scoreSumsRow.wideKeys == (Tryz.f3.params.toList ++ (OpenSpec.ofChange Rows.scoreSumsSpec).bare.plain.varTypes Tryz.pinned.checked.prog ++ Tryz.f3.resultTypes.toList).any (Tryz.pinned.checked.prog.wideKeysFrom ·))) = true := by kernel_rfl
end Go.Proofs.YtniphaoadhojlaaGreatDoor
