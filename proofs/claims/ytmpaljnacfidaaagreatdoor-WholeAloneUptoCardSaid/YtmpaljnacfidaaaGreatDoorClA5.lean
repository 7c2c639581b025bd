import Derived.Test.YtmpaljnacfidaaaGreatDoorRows
import Derived.JoinedCond
set_option linter.unusedSectionVars false
set_option linter.unusedSimpArgs false
set_option linter.unusedVariables false
set_option maxRecDepth 100000
namespace Go.Proofs.YtmpaljnacfidaaaGreatDoor
open Go Go.Proofs
namespace closedA
theorem k3:(Tryz.f3.params.all (Tryz.prog.readableRec ·))=true:=by kernel_rfl
theorem k5:((Rows.wholeAloneUptoRow.stops== []))=true:=by kernel_rfl
theorem k6:((Tryz.prog.stops== []))=true:=by kernel_rfl
theorem k7:((Rows.wholeAloneUptoRow.knobs== []))=true:=by kernel_rfl
theorem k8:((Tryz.prog.stopKnobs== []))=true:=by kernel_rfl
theorem k13:((Rows.wholeAloneUptoRow.maps==(Tryz.f3.params.toList++(OpenSpec.bare (Rows.OpenSpec.upto Rows.wholeAloneSpec)).plain.varTypes Tryz.prog).any (Tryz.prog.mapsRec ·)))=true:=by kernel_rfl
theorem k14:((Rows.wholeAloneUptoRow.ifaces==(Tryz.f3.params.toList++(OpenSpec.bare (Rows.OpenSpec.upto Rows.wholeAloneSpec)).plain.varTypes Tryz.prog).any (Tryz.prog.ifacesRec ·)))=true:=by kernel_rfl
theorem k15:((Rows.wholeAloneUptoRow.mapsOut==Tryz.prog.mapsAmong Tryz.f3.resultTypes.toList))=true:=by kernel_rfl
theorem k16:((Rows.wholeAloneUptoRow.loops==(Tryz.f3.params.toList++(OpenSpec.bare (Rows.OpenSpec.upto Rows.wholeAloneSpec)).plain.varTypes Tryz.prog).any (Tryz.prog.loopsFrom ·)))=true:=by kernel_rfl
theorem k17:((Rows.wholeAloneUptoRow.wideKeys==(Tryz.f3.params.toList++(OpenSpec.bare (Rows.OpenSpec.upto Rows.wholeAloneSpec)).plain.varTypes Tryz.prog++Tryz.f3.resultTypes.toList).any (Tryz.prog.wideKeysFrom ·)))=true:=by kernel_rfl
theorem k19:(Tryz.f3.resultTypes.all (fun t=>Tryz.prog.readableRec t&&decide (t<Tryz.prog.types.size)))=true:=by kernel_rfl
theorem k20:((Rows.wholeAloneUptoRow.ifacesOut==Tryz.f3.resultTypes.toList.any (Tryz.prog.ifacesRec ·)))=true:=by kernel_rfl
theorem k21:((Rows.wholeAloneUptoRow.loopsOut==Tryz.f3.resultTypes.toList.any (Tryz.prog.loopsFrom ·)))=true:=by kernel_rfl
theorem k23:(Rows.wholeAloneUptoRow.shortTexts.isNone)=true:=by kernel_rfl
theorem k28:((Rows.wholeAloneUptoRow.kinds==(if Rows.wholeAloneUptoRow.domain.isEmpty then []else Tryz.f3.params.toList.map fun t=>match Tryz.prog.underlying t with|some (.int k)=>some k|_=>none)))=true:=by kernel_rfl
theorem k30:((Rows.wholeAloneUptoRow.veiled==(Tryz.f3.params.toList++(OpenSpec.bare (Rows.OpenSpec.upto Rows.wholeAloneSpec)).plain.varTypes Tryz.prog++Tryz.f3.resultTypes.toList).any (Tryz.prog.veiledRec ·)))=true:=by kernel_rfl
theorem k31:(Rows.wholeAloneUptoRow.veiledFits Tryz.prog Tryz.f3.params.toList (Tryz.f3.params.toList++(OpenSpec.bare (Rows.OpenSpec.upto Rows.wholeAloneSpec)).plain.varTypes Tryz.prog++Tryz.f3.resultTypes.toList))=true:=by kernel_rfl
end closedA
end Go.Proofs.YtmpaljnacfidaaaGreatDoor
set_option linter.unusedVariables false
set_option maxRecDepth 100000
namespace Go.Proofs.YtmpaljnacfidaaaGreatDoor
open Go Go.Proofs
namespace closedA
theorem k0:(Rows.wholeAloneUptoRow.wf (OpenSpec.ofChange (OpenSpec.bare (Rows.OpenSpec.upto Rows.wholeAloneSpec))))=true:=by kernel_rfl
end closedA
end Go.Proofs.YtmpaljnacfidaaaGreatDoor
set_option linter.unusedVariables false
set_option maxRecDepth 100000
namespace Go.Proofs.YtmpaljnacfidaaaGreatDoor
open Go Go.Proofs
namespace closedA
theorem k2:(mapsRowed Tryz.prog)=true:=by kernel_rfl
end closedA
end Go.Proofs.YtmpaljnacfidaaaGreatDoor
set_option linter.unusedVariables false
set_option maxRecDepth 100000
namespace Go.Proofs.YtmpaljnacfidaaaGreatDoor
open Go Go.Proofs
namespace closedA
theorem k4:(namedTie Tryz.prog Rows.wholeAloneUptoRow.named (OpenSpec.bare (Rows.OpenSpec.upto Rows.wholeAloneSpec)).vars)=true:=by kernel_rfl
end closedA
end Go.Proofs.YtmpaljnacfidaaaGreatDoor
set_option linter.unusedVariables false
set_option maxRecDepth 100000
namespace Go.Proofs.YtmpaljnacfidaaaGreatDoor
open Go Go.Proofs
namespace closedA
theorem k10:((Rows.wholeAloneUptoRow.unfollowed==Tryz.prog.unfollowed 3))=true:=by kernel_rfl
end closedA
end Go.Proofs.YtmpaljnacfidaaaGreatDoor
set_option linter.unusedVariables false
set_option maxRecDepth 100000
namespace Go.Proofs.YtmpaljnacfidaaaGreatDoor
open Go Go.Proofs
namespace closedA
theorem k11:((Rows.wholeAloneUptoRow.recurses==Tryz.prog.recurses 3))=true:=by kernel_rfl
end closedA
end Go.Proofs.YtmpaljnacfidaaaGreatDoor
