import Derived.Test.YtcbidldebfibkaaGreatDoorJ1
set_option linter.unusedVariables false
set_option linter.unusedSimpArgs false
set_option linter.unusedSectionVars false
set_option linter.unnecessarySimpa false
namespace Go.Proofs.YtcbidldebfibkaaGreatDoor
open Go
set_option maxRecDepth 100000
theorem mq1 : (laidOutB Tryz.pinned.checked.prog) = true := by kernel_rfl
theorem mq2 : (mapsRowed Tryz.pinned.checked.prog) = true := by kernel_rfl
theorem mq18 : ((Rows.OpenSpec.upto Rows.storeMemorySpec).bare.vars.all (Tryz.pinned.checked.prog.varReadable ·)) = true := by kernel_rfl
theorem mq19 : (Tryz.f4.resultTypes.all (fun t => Tryz.pinned.checked.prog.readableRec t && decide (t < Tryz.pinned.checked.prog.types.size))) = true := by kernel_rfl
theorem mq20 : ((Rows.storeMemoryUptoRow.ifacesOut == Tryz.f4.resultTypes.toList.any (Tryz.pinned.checked.prog.ifacesRec ·))) = true := by kernel_rfl
theorem mq21 : ((Rows.storeMemoryUptoRow.loopsOut == Tryz.f4.resultTypes.toList.any (Tryz.pinned.checked.prog.loopsFrom ·))) = true := by kernel_rfl
theorem mq22 : ((Rows.storeMemoryUptoRow.plainKeys == Tryz.pinned.checked.prog.plainKeys)) = true := by kernel_rfl
theorem mq23 : (Rows.storeMemoryUptoRow.shortTexts.isNone) = true := by kernel_rfl
theorem mq24 : (Tryz.pinned.checked.prog.stopsHeard) = true := by kernel_rfl
theorem mq25 : (Tryz.pinned.checked.prog.mayEnter) = true := by kernel_rfl
theorem mq26 : ((Rows.storeMemoryUptoRow.lifted == Tryz.pinned.checked.prog.liftsFinal)) = true := by kernel_rfl
theorem mq27 : ((Tryz.pinned.checked.prog.make == some Rows.storeMemoryUptoRow.make)) = true := by kernel_rfl
theorem mq28 : ((Rows.storeMemoryUptoRow.kinds == (if Rows.storeMemoryUptoRow.domain.isEmpty then [] else Tryz.f4.params.toList.map fun t => match Tryz.pinned.checked.prog.underlying t with | some (.int k) => some k | _ => none))) = true := by kernel_rfl
theorem mq29 : ((Rows.storeMemoryUptoRow.pinned == Rows.storeMemoryUptoRow.pinnedBy)) = true := by kernel_rfl
theorem mq30 : ((Rows.storeMemoryUptoRow.veiled == (Tryz.f4.params.toList ++ (Rows.OpenSpec.upto Rows.storeMemorySpec).bare.plain.varTypes Tryz.pinned.checked.prog ++ Tryz.f4.resultTypes.toList).any (Tryz.pinned.checked.prog.veiledRec ·))) = true := by kernel_rfl
theorem mq31 : (Rows.storeMemoryUptoRow.veiledFits Tryz.pinned.checked.prog Tryz.f4.params.toList (Tryz.f4.params.toList ++ (Rows.OpenSpec.upto Rows.storeMemorySpec).bare.plain.varTypes Tryz.pinned.checked.prog ++ Tryz.f4.resultTypes.toList)) = true := by kernel_rfl
end Go.Proofs.YtcbidldebfibkaaGreatDoor
