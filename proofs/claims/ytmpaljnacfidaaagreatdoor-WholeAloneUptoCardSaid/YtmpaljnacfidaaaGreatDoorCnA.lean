import Derived.Test.YtmpaljnacfidaaaGreatDoorCpA
set_option linter.unusedSectionVars false
set_option linter.unusedSimpArgs false
set_option linter.unusedVariables false
set_option maxRecDepth 100000
namespace Go.Proofs.YtmpaljnacfidaaaGreatDoor
open Go Go.Proofs
theorem zQI:(Rows.wholeAloneUptoRow.named==Tryz.prog.varsNamed 3)=true:=by
  unfold Program.varsNamed
  rw[zEt]
  kernel_rfl
end Go.Proofs.YtmpaljnacfidaaaGreatDoor
