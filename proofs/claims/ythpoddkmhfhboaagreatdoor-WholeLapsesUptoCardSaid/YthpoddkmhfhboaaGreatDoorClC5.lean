import Derived.Test.YthpoddkmhfhboaaGreatDoorRows
import Derived.JoinedCond
set_option linter.unusedSimpArgs false
set_option linter.unusedVariables false
set_option maxRecDepth 100000
namespace Go.Proofs.YthpoddkmhfhboaaGreatDoor
open Go Go.Proofs
namespace closedC
theorem k3:(Tryz.f3.params.all (Tryz.prog.readableRec ·))=true:=by kernel_rfl
theorem k5:((Rows.wholeLapsesUptoRow.stops== []))=true:=by kernel_rfl
theorem k6:((Tryz.prog.stops== []))=true:=by kernel_rfl
theorem k7:((Rows.wholeLapsesUptoRow.knobs== []))=true:=by kernel_rfl
theorem k8:((Tryz.prog.stopKnobs== []))=true:=by kernel_rfl
theorem k13:((Rows.wholeLapsesUptoRow.maps==(Tryz.f3.params.toList++(OpenSpec.bare (Rows.OpenSpec.upto Rows.wholeLapsesSpec)).plain.varTypes Tryz.prog).any (Tryz.prog.mapsRec ·)))=true:=by kernel_rfl
theorem k14:((Rows.wholeLapsesUptoRow.ifaces==(Tryz.f3.params.toList++(OpenSpec.bare (Rows.OpenSpec.upto Rows.wholeLapsesSpec)).plain.varTypes Tryz.prog).any (Tryz.prog.ifacesRec ·)))=true:=by kernel_rfl
theorem k15:((Rows.wholeLapsesUptoRow.mapsOut==Tryz.prog.mapsAmong Tryz.f3.resultTypes.toList))=true:=by kernel_rfl
theorem k16:((Rows.wholeLapsesUptoRow.loops==(Tryz.f3.params.toList++(OpenSpec.bare (Rows.OpenSpec.upto Rows.wholeLapsesSpec)).plain.varTypes Tryz.prog).any (Tryz.prog.loopsFrom ·)))=true:=by kernel_rfl
theorem k17:((Rows.wholeLapsesUptoRow.wideKeys==(Tryz.f3.params.toList++(OpenSpec.bare (Rows.OpenSpec.upto Rows.wholeLapsesSpec)).plain.varTypes Tryz.prog++Tryz.f3.resultTypes.toList).any (Tryz.prog.wideKeysFrom ·)))=true:=by kernel_rfl
theorem k19:(Tryz.f3.resultTypes.all (fun t=>Tryz.prog.readableRec t&&decide (t<Tryz.prog.types.size)))=true:=by kernel_rfl
theorem k20:((Rows.wholeLapsesUptoRow.ifacesOut==Tryz.f3.resultTypes.toList.any (Tryz.prog.ifacesRec ·)))=true:=by kernel_rfl
theorem k21:((Rows.wholeLapsesUptoRow.loopsOut==Tryz.f3.resultTypes.toList.any (Tryz.prog.loopsFrom ·)))=true:=by kernel_rfl
theorem k23:(Rows.wholeLapsesUptoRow.shortTexts.isNone)=true:=by kernel_rfl
theorem k28:((Rows.wholeLapsesUptoRow.kinds==(if Rows.wholeLapsesUptoRow.domain.isEmpty then []else Tryz.f3.params.toList.map fun t=>match Tryz.prog.underlying t with|some (.int k)=>some k|_=>none)))=true:=by kernel_rfl
theorem k30:((Rows.wholeLapsesUptoRow.veiled==(Tryz.f3.params.toList++(OpenSpec.bare (Rows.OpenSpec.upto Rows.wholeLapsesSpec)).plain.varTypes Tryz.prog++Tryz.f3.resultTypes.toList).any (Tryz.prog.veiledRec ·)))=true:=by kernel_rfl
theorem k31:(Rows.wholeLapsesUptoRow.veiledFits Tryz.prog Tryz.f3.params.toList (Tryz.f3.params.toList++(OpenSpec.bare (Rows.OpenSpec.upto Rows.wholeLapsesSpec)).plain.varTypes Tryz.prog++Tryz.f3.resultTypes.toList))=true:=by kernel_rfl
end closedC
namespace closedC
theorem k0:(Rows.wholeLapsesUptoRow.wf (OpenSpec.ofChange (OpenSpec.bare (Rows.OpenSpec.upto Rows.wholeLapsesSpec))))=true:=by kernel_rfl
end closedC
namespace closedC
theorem k2:(mapsRowed Tryz.prog)=true:=by kernel_rfl
end closedC
namespace closedC
theorem k4:(namedTie Tryz.prog Rows.wholeLapsesUptoRow.named (OpenSpec.bare (Rows.OpenSpec.upto Rows.wholeLapsesSpec)).vars)=true:=by kernel_rfl
end closedC
namespace closedC
theorem k10:((Rows.wholeLapsesUptoRow.unfollowed==Tryz.prog.unfollowed 3))=true:=by kernel_rfl
end closedC
namespace closedC
theorem k11:((Rows.wholeLapsesUptoRow.recurses==Tryz.prog.recurses 3))=true:=by kernel_rfl
end closedC
end Go.Proofs.YthpoddkmhfhboaaGreatDoor
