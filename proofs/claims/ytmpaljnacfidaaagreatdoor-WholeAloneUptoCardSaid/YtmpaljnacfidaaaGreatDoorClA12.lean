import Derived.Test.YtmpaljnacfidaaaGreatDoorRows
import Derived.JoinedCond
set_option linter.unusedSectionVars false
set_option linter.unusedSimpArgs false
set_option linter.unusedVariables false
set_option maxRecDepth 100000
namespace Go.Proofs.YtmpaljnacfidaaaGreatDoor
open Go Go.Proofs
namespace closedA
theorem k18:((OpenSpec.bare (Rows.OpenSpec.upto Rows.wholeAloneSpec)).vars.all (Tryz.prog.varReadable ·))=true:=by kernel_rfl
end closedA
end Go.Proofs.YtmpaljnacfidaaaGreatDoor
set_option linter.unusedVariables false
set_option maxRecDepth 100000
namespace Go.Proofs.YtmpaljnacfidaaaGreatDoor
open Go Go.Proofs
namespace closedA
theorem k22:((Rows.wholeAloneUptoRow.plainKeys==Tryz.prog.plainKeys))=true:=by kernel_rfl
end closedA
end Go.Proofs.YtmpaljnacfidaaaGreatDoor
set_option linter.unusedVariables false
set_option maxRecDepth 100000
namespace Go.Proofs.YtmpaljnacfidaaaGreatDoor
open Go Go.Proofs
namespace closedA
theorem k24:(Tryz.prog.stopsHeard)=true:=by kernel_rfl
end closedA
end Go.Proofs.YtmpaljnacfidaaaGreatDoor
set_option linter.unusedVariables false
set_option maxRecDepth 100000
namespace Go.Proofs.YtmpaljnacfidaaaGreatDoor
open Go Go.Proofs
namespace closedA
theorem k25:(Tryz.prog.mayEnter)=true:=by kernel_rfl
end closedA
end Go.Proofs.YtmpaljnacfidaaaGreatDoor
set_option linter.unusedVariables false
set_option maxRecDepth 100000
namespace Go.Proofs.YtmpaljnacfidaaaGreatDoor
open Go Go.Proofs
namespace closedA
theorem k26:((Rows.wholeAloneUptoRow.lifted==Tryz.prog.liftsFinal))=true:=by kernel_rfl
end closedA
end Go.Proofs.YtmpaljnacfidaaaGreatDoor
set_option linter.unusedVariables false
set_option maxRecDepth 100000
namespace Go.Proofs.YtmpaljnacfidaaaGreatDoor
open Go Go.Proofs
namespace closedA
theorem k27:((Tryz.prog.make==some Rows.wholeAloneUptoRow.make))=true:=by kernel_rfl
end closedA
end Go.Proofs.YtmpaljnacfidaaaGreatDoor
set_option linter.unusedVariables false
set_option maxRecDepth 100000
namespace Go.Proofs.YtmpaljnacfidaaaGreatDoor
open Go Go.Proofs
namespace closedA
theorem k29:((Rows.wholeAloneUptoRow.pinned==Rows.wholeAloneUptoRow.pinnedBy))=true:=by kernel_rfl
end closedA
end Go.Proofs.YtmpaljnacfidaaaGreatDoor
