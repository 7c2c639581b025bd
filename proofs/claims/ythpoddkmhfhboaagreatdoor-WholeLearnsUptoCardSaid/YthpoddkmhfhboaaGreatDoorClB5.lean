import Derived.Test.YthpoddkmhfhboaaGreatDoorRows
import Derived.JoinedCond
set_option linter.unusedSimpArgs false
set_option linter.unusedVariables false
set_option maxRecDepth 100000
namespace Go.Proofs.YthpoddkmhfhboaaGreatDoor
open Go Go.Proofs
namespace closedB
theorem k3:(Tryz.f4.params.all (Tryz.prog.readableRec ·))=true:=by kernel_rfl
theorem k5:((Rows.wholeLearnsUptoRow.stops== []))=true:=by kernel_rfl
theorem k6:((Tryz.prog.stops== []))=true:=by kernel_rfl
theorem k7:((Rows.wholeLearnsUptoRow.knobs== []))=true:=by kernel_rfl
theorem k8:((Tryz.prog.stopKnobs== []))=true:=by kernel_rfl
theorem k13:((Rows.wholeLearnsUptoRow.maps==(Tryz.f4.params.toList++(OpenSpec.bare (Rows.OpenSpec.upto Rows.wholeLearnsSpec)).plain.varTypes Tryz.prog).any (Tryz.prog.mapsRec ·)))=true:=by kernel_rfl
theorem k14:((Rows.wholeLearnsUptoRow.ifaces==(Tryz.f4.params.toList++(OpenSpec.bare (Rows.OpenSpec.upto Rows.wholeLearnsSpec)).plain.varTypes Tryz.prog).any (Tryz.prog.ifacesRec ·)))=true:=by kernel_rfl
theorem k15:((Rows.wholeLearnsUptoRow.mapsOut==Tryz.prog.mapsAmong Tryz.f4.resultTypes.toList))=true:=by kernel_rfl
theorem k16:((Rows.wholeLearnsUptoRow.loops==(Tryz.f4.params.toList++(OpenSpec.bare (Rows.OpenSpec.upto Rows.wholeLearnsSpec)).plain.varTypes Tryz.prog).any (Tryz.prog.loopsFrom ·)))=true:=by kernel_rfl
theorem k17:((Rows.wholeLearnsUptoRow.wideKeys==(Tryz.f4.params.toList++(OpenSpec.bare (Rows.OpenSpec.upto Rows.wholeLearnsSpec)).plain.varTypes Tryz.prog++Tryz.f4.resultTypes.toList).any (Tryz.prog.wideKeysFrom ·)))=true:=by kernel_rfl
theorem k19:(Tryz.f4.resultTypes.all (fun t=>Tryz.prog.readableRec t&&decide (t<Tryz.prog.types.size)))=true:=by kernel_rfl
theorem k20:((Rows.wholeLearnsUptoRow.ifacesOut==Tryz.f4.resultTypes.toList.any (Tryz.prog.ifacesRec ·)))=true:=by kernel_rfl
theorem k21:((Rows.wholeLearnsUptoRow.loopsOut==Tryz.f4.resultTypes.toList.any (Tryz.prog.loopsFrom ·)))=true:=by kernel_rfl
theorem k23:(Rows.wholeLearnsUptoRow.shortTexts.isNone)=true:=by kernel_rfl
theorem k28:((Rows.wholeLearnsUptoRow.kinds==(if Rows.wholeLearnsUptoRow.domain.isEmpty then []else Tryz.f4.params.toList.map fun t=>match Tryz.prog.underlying t with|some (.int k)=>some k|_=>none)))=true:=by kernel_rfl
theorem k30:((Rows.wholeLearnsUptoRow.veiled==(Tryz.f4.params.toList++(OpenSpec.bare (Rows.OpenSpec.upto Rows.wholeLearnsSpec)).plain.varTypes Tryz.prog++Tryz.f4.resultTypes.toList).any (Tryz.prog.veiledRec ·)))=true:=by kernel_rfl
theorem k31:(Rows.wholeLearnsUptoRow.veiledFits Tryz.prog Tryz.f4.params.toList (Tryz.f4.params.toList++(OpenSpec.bare (Rows.OpenSpec.upto Rows.wholeLearnsSpec)).plain.varTypes Tryz.prog++Tryz.f4.resultTypes.toList))=true:=by kernel_rfl
end closedB
namespace closedB
theorem k0:(Rows.wholeLearnsUptoRow.wf (OpenSpec.ofChange (OpenSpec.bare (Rows.OpenSpec.upto Rows.wholeLearnsSpec))))=true:=by kernel_rfl
end closedB
namespace closedB
theorem k2:(mapsRowed Tryz.prog)=true:=by kernel_rfl
end closedB
namespace closedB
theorem k4:(namedTie Tryz.prog Rows.wholeLearnsUptoRow.named (OpenSpec.bare (Rows.OpenSpec.upto Rows.wholeLearnsSpec)).vars)=true:=by kernel_rfl
end closedB
namespace closedB
theorem k10:((Rows.wholeLearnsUptoRow.unfollowed==Tryz.prog.unfollowed 4))=true:=by kernel_rfl
end closedB
namespace closedB
theorem k11:((Rows.wholeLearnsUptoRow.recurses==Tryz.prog.recurses 4))=true:=by kernel_rfl
end closedB
end Go.Proofs.YthpoddkmhfhboaaGreatDoor
