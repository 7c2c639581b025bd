import Derived.Test.YthpoddkmhfhboaaGreatDoorCpC
set_option linter.unusedSimpArgs false
set_option linter.unusedVariables false
set_option maxRecDepth 100000
namespace Go.Proofs.YthpoddkmhfhboaaGreatDoor
open Go Go.Proofs
theorem zRx:(Rows.wholeLapsesUptoRow.named==Tryz.prog.varsNamed 3)=true:=by
 unfold Program.varsNamed
 rw[zFh]
 kernel_rfl
end Go.Proofs.YthpoddkmhfhboaaGreatDoor
