import Derived.Test.YthpoddkmhfhboaaGreatDoorCpB
set_option linter.unusedSimpArgs false
set_option linter.unusedVariables false
set_option maxRecDepth 100000
namespace Go.Proofs.YthpoddkmhfhboaaGreatDoor
open Go Go.Proofs
theorem zQO:(Rows.wholeLearnsUptoRow.named==Tryz.prog.varsNamed 4)=true:=by
 unfold Program.varsNamed
 rw[zFN]
 kernel_rfl
end Go.Proofs.YthpoddkmhfhboaaGreatDoor
