import Derived.Test.YtcbidldebfibkaaGreatDoorJ1
set_option linter.unusedVariables false
set_option linter.unusedSimpArgs false
set_option linter.unusedSectionVars false
set_option linter.unnecessarySimpa false
namespace Go.Proofs.YtcbidldebfibkaaGreatDoor
open Go
set_option maxRecDepth 100000
theorem fk1 : (laidOutB Tryz.pinned.checked.prog) = true := by kernel_rfl
theorem fk2 : (mapsRowed Tryz.pinned.checked.prog) = true := by kernel_rfl
theorem fk18 : ((Rows.OpenSpec.upto Rows.storeFlipSpec).bare.vars.all (Tryz.pinned.checked.prog.varReadable ·)) = true := by kernel_rfl
theorem fk19 : (Tryz.f5.resultTypes.all (fun t => Tryz.pinned.checked.prog.readableRec t && decide (t < Tryz.pinned.checked.prog.types.size))) = true := by kernel_rfl
theorem fk20 : ((Rows.storeFlipUptoRow.ifacesOut == Tryz.f5.resultTypes.toList.any (Tryz.pinned.checked.prog.ifacesRec ·))) = true := by kernel_rfl
theorem fk21 : ((Rows.storeFlipUptoRow.loopsOut == Tryz.f5.resultTypes.toList.any (Tryz.pinned.checked.prog.loopsFrom ·))) = true := by kernel_rfl
theorem fk22 : ((Rows.storeFlipUptoRow.plainKeys == Tryz.pinned.checked.prog.plainKeys)) = true := by kernel_rfl
theorem fk23 : (Rows.storeFlipUptoRow.shortTexts.isNone) = true := by kernel_rfl
theorem fk24 : (Tryz.pinned.checked.prog.stopsHeard) = true := by kernel_rfl
theorem fk25 : (Tryz.pinned.checked.prog.mayEnter) = true := by kernel_rfl
theorem fk26 : ((Rows.storeFlipUptoRow.lifted == Tryz.pinned.checked.prog.liftsFinal)) = true := by kernel_rfl
theorem fk27 : ((Tryz.pinned.checked.prog.make == some Rows.storeFlipUptoRow.make)) = true := by kernel_rfl
theorem fk28 : ((Rows.storeFlipUptoRow.kinds == (if Rows.storeFlipUptoRow.domain.isEmpty then [] else Tryz.f5.params.toList.map fun t => match Tryz.pinned.checked.prog.underlying t with | some (.int k) => some k | _ => none))) = true := by kernel_rfl
theorem fk29 : ((Rows.storeFlipUptoRow.pinned == Rows.storeFlipUptoRow.pinnedBy)) = true := by kernel_rfl
theorem fk30 : ((Rows.storeFlipUptoRow.veiled == (Tryz.f5.params.toList ++ (Rows.OpenSpec.upto Rows.storeFlipSpec).bare.plain.varTypes Tryz.pinned.checked.prog ++ Tryz.f5.resultTypes.toList).any (Tryz.pinned.checked.prog.veiledRec ·))) = true := by kernel_rfl
theorem fk31 : (Rows.storeFlipUptoRow.veiledFits Tryz.pinned.checked.prog Tryz.f5.params.toList (Tryz.f5.params.toList ++ (Rows.OpenSpec.upto Rows.storeFlipSpec).bare.plain.varTypes Tryz.pinned.checked.prog ++ Tryz.f5.resultTypes.toList)) = true := by kernel_rfl
end Go.Proofs.YtcbidldebfibkaaGreatDoor
