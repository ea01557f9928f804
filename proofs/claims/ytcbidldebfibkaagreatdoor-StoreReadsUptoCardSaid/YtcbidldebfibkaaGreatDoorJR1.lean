import Derived.Test.YtcbidldebfibkaaGreatDoorR1
set_option linter.unusedVariables false
set_option linter.unusedSimpArgs false
set_option linter.unusedSectionVars false
set_option linter.unnecessarySimpa false
set_option maxHeartbeats 0
namespace Go.Proofs.YtcbidldebfibkaaGreatDoor
open Go.Sx
open Go
set_option maxRecDepth 100000
theorem Nl:((Rows.storeReadsUptoRow.unfollowed==Tryz.pinned.checked.prog.unfollowed 7))=true:=aa
theorem Nk:((Rows.storeReadsUptoRow.recurses==Tryz.pinned.checked.prog.recurses 7))=true:=aa
theorem Nj:((Rows.storeReadsUptoRow.named==Tryz.pinned.checked.prog.varsNamed 7))=true:=aa
theorem Ni:((Rows.storeReadsUptoRow.maps==(Tryz.f7.params.toList++(Rows.OpenSpec.upto Rows.storeReadsSpec).bare.plain.varTypes Tryz.pinned.checked.prog).any (Tryz.pinned.checked.prog.mapsRec ·)))=true:=aa
theorem Nh:((Rows.storeReadsUptoRow.ifaces==(Tryz.f7.params.toList++(Rows.OpenSpec.upto Rows.storeReadsSpec).bare.plain.varTypes Tryz.pinned.checked.prog).any (Tryz.pinned.checked.prog.ifacesRec ·)))=true:=aa
theorem Ng:((Rows.storeReadsUptoRow.mapsOut==Tryz.pinned.checked.prog.mapsAmong Tryz.f7.resultTypes.toList))=true:=aa
theorem Nf:((Rows.storeReadsUptoRow.loops==(Tryz.f7.params.toList++(Rows.OpenSpec.upto Rows.storeReadsSpec).bare.plain.varTypes Tryz.pinned.checked.prog).any (Tryz.pinned.checked.prog.loopsFrom ·)))=true:=aa
theorem Nd:((Rows.storeReadsUptoRow.wideKeys==(Tryz.f7.params.toList++(Rows.OpenSpec.upto Rows.storeReadsSpec).bare.plain.varTypes Tryz.pinned.checked.prog++Tryz.f7.resultTypes.toList).any (Tryz.pinned.checked.prog.wideKeysFrom ·)))=true:=aa
end Go.Proofs.YtcbidldebfibkaaGreatDoor
