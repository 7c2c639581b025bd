import Derived.Test.YthpoddkmhfhboaaGreatDoorRows
import Derived.JoinedCond
set_option linter.unusedSimpArgs false
set_option linter.unusedVariables false
set_option maxRecDepth 100000
namespace Go.Proofs.YthpoddkmhfhboaaGreatDoor
open Go Go.Proofs
namespace closedB
theorem k18:((OpenSpec.bare (Rows.OpenSpec.upto Rows.wholeLearnsSpec)).vars.all (Tryz.prog.varReadable ·))=true:=by kernel_rfl
end closedB
namespace closedB
theorem k22:((Rows.wholeLearnsUptoRow.plainKeys==Tryz.prog.plainKeys))=true:=by kernel_rfl
end closedB
namespace closedB
theorem k24:(Tryz.prog.stopsHeard)=true:=by kernel_rfl
end closedB
namespace closedB
theorem k25:(Tryz.prog.mayEnter)=true:=by kernel_rfl
end closedB
namespace closedB
theorem k26:((Rows.wholeLearnsUptoRow.lifted==Tryz.prog.liftsFinal))=true:=by kernel_rfl
end closedB
namespace closedB
theorem k27:((Tryz.prog.make==some Rows.wholeLearnsUptoRow.make))=true:=by kernel_rfl
end closedB
namespace closedB
theorem k29:((Rows.wholeLearnsUptoRow.pinned==Rows.wholeLearnsUptoRow.pinnedBy))=true:=by kernel_rfl
end closedB
end Go.Proofs.YthpoddkmhfhboaaGreatDoor
