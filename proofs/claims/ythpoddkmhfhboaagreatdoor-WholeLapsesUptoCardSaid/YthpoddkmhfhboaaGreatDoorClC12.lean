import Derived.Test.YthpoddkmhfhboaaGreatDoorRows
import Derived.JoinedCond
set_option linter.unusedSimpArgs false
set_option linter.unusedVariables false
set_option maxRecDepth 100000
namespace Go.Proofs.YthpoddkmhfhboaaGreatDoor
open Go Go.Proofs
namespace closedC
theorem k18:((OpenSpec.bare (Rows.OpenSpec.upto Rows.wholeLapsesSpec)).vars.all (Tryz.prog.varReadable ·))=true:=by kernel_rfl
end closedC
namespace closedC
theorem k22:((Rows.wholeLapsesUptoRow.plainKeys==Tryz.prog.plainKeys))=true:=by kernel_rfl
end closedC
namespace closedC
theorem k24:(Tryz.prog.stopsHeard)=true:=by kernel_rfl
end closedC
namespace closedC
theorem k25:(Tryz.prog.mayEnter)=true:=by kernel_rfl
end closedC
namespace closedC
theorem k26:((Rows.wholeLapsesUptoRow.lifted==Tryz.prog.liftsFinal))=true:=by kernel_rfl
end closedC
namespace closedC
theorem k27:((Tryz.prog.make==some Rows.wholeLapsesUptoRow.make))=true:=by kernel_rfl
end closedC
namespace closedC
theorem k29:((Rows.wholeLapsesUptoRow.pinned==Rows.wholeLapsesUptoRow.pinnedBy))=true:=by kernel_rfl
end closedC
end Go.Proofs.YthpoddkmhfhboaaGreatDoor
