import Derived.Test.YthpoddkmhfhboaaGreatDoorTiC
set_option linter.unusedSimpArgs false
set_option linter.unusedVariables false
namespace Go.Proofs.YthpoddkmhfhboaaGreatDoor
theorem td(os:Os)(tape:Tape):varsDone Tryz.prog 400 (varsId Tryz.prog) os tape=true:=by kernel_rfl
theorem te(os:Os)(tape:Tape):(DataW.laidRun Tryz.prog (varsWorld Tryz.prog 400 (varsId Tryz.prog) os tape).memory 8 (laidL.map (·.1))).map (·.1)=some laidL:=by kernel_rfl
end Go.Proofs.YthpoddkmhfhboaaGreatDoor
