import Derived.Test.YtniphaoadhojlaaGreatDoorY1
set_option linter.all false
namespace Go.Proofs.YtniphaoadhojlaaGreatDoor
open Go
set_option maxRecDepth 100000
theorem ssk1 : (laidOutB Tryz.pinned.checked.prog) = true := by kernel_rfl
theorem ssk2 : (mapsRowed Tryz.pinned.checked.prog) = true := by kernel_rfl
theorem ssk18 : ((OpenSpec.ofChange Rows.scoreSumsSpec).bare.vars.all (Tryz.pinned.checked.prog.varReadable ·)) = true := by kernel_rfl
theorem ssk19 : (Tryz.f3.resultTypes.all (fun t => Tryz.pinned.checked.prog.readableRec t && decide (t < Tryz.pinned.checked.prog.types.size))) = true := by kernel_rfl
theorem ssk20 : ((Rows.scoreSumsRow.ifacesOut == Tryz.f3.resultTypes.toList.any (Tryz.pinned.checked.prog.ifacesRec ·))) = true := by kernel_rfl
theorem ssk21 : ((Rows.scoreSumsRow.loopsOut == Tryz.f3.resultTypes.toList.any (Tryz.pinned.checked.prog.loopsFrom ·))) = true := by kernel_rfl
theorem ssk22 : ((Rows.scoreSumsRow.plainKeys == Tryz.pinned.checked.prog.plainKeys)) = true := by kernel_rfl
theorem ssk23 : (Rows.scoreSumsRow.shortTexts.isNone) = true := by kernel_rfl
theorem ssk24 : (Tryz.pinned.checked.prog.stopsHeard) = true := by kernel_rfl
theorem ssk25 : (Tryz.pinned.checked.prog.mayEnter) = true := by kernel_rfl
theorem ssk26 : ((Rows.scoreSumsRow.lifted == Tryz.pinned.checked.prog.liftsFinal)) = true := by kernel_rfl
theorem ssk27 : ((Tryz.pinned.checked.prog.make == some Rows.scoreSumsRow.make)) = true := by kernel_rfl
theorem ssk28 : ((Rows.scoreSumsRow.kinds == (if Rows.scoreSumsRow.domain.isEmpty then [] else Tryz.f3.params.toList.map fun t => match Tryz.pinned.checked.prog.underlying t with | some (.int k) => some k | _ => none))) = true := by kernel_rfl
theorem ssk29 : ((Rows.scoreSumsRow.pinned == Rows.scoreSumsRow.pinnedBy)) = true := by kernel_rfl
theorem ssk30 : ((Rows.scoreSumsRow.veiled == (Tryz.f3.params.toList ++ (OpenSpec.ofChange Rows.scoreSumsSpec).bare.plain.varTypes Tryz.pinned.checked.prog ++ Tryz.f3.resultTypes.toList).any (Tryz.pinned.checked.prog.veiledRec ·))) = true := by kernel_rfl
theorem ssk31 : (Rows.scoreSumsRow.veiledFits Tryz.pinned.checked.prog Tryz.f3.params.toList (Tryz.f3.params.toList ++ (OpenSpec.ofChange Rows.scoreSumsSpec).bare.plain.varTypes Tryz.pinned.checked.prog ++ Tryz.f3.resultTypes.toList)) = true := by kernel_rfl
end Go.Proofs.YtniphaoadhojlaaGreatDoor
