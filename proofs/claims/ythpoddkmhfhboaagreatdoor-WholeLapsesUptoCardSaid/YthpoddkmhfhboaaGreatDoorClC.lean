import Derived.Test.YthpoddkmhfhboaaGreatDoorLo
import Derived.Test.YthpoddkmhfhboaaGreatDoorCnC
import Derived.Test.YthpoddkmhfhboaaGreatDoorClC5
import Derived.Test.YthpoddkmhfhboaaGreatDoorClC12
set_option linter.unusedSimpArgs false
set_option linter.unusedVariables false
set_option maxRecDepth 100000
namespace Go.Proofs.YthpoddkmhfhboaaGreatDoor
open Go Go.Proofs
namespace closedC
theorem all:joinedFacts Tryz.prog 3 Tryz.f3 (OpenSpec.bare (Rows.OpenSpec.upto Rows.wholeLapsesSpec)) Rows.wholeLapsesUptoRow=true:=by
 unfold joinedFacts
 exact(closedLo.and_t (closedLo.and_t (closedLo.and_t (closedLo.and_t (closedLo.and_t (closedLo.and_t (closedLo.and_t (closedLo.and_t (closedLo.and_t (closedLo.and_t (closedLo.and_t (closedLo.and_t (closedLo.and_t (closedLo.and_t (closedLo.and_t (closedLo.and_t (closedLo.and_t (closedLo.and_t (closedLo.and_t (closedLo.and_t (closedLo.and_t (closedLo.and_t (closedLo.and_t (closedLo.and_t (closedLo.and_t (closedLo.and_t (closedLo.and_t (closedLo.and_t (closedLo.and_t (closedLo.and_t (closedLo.and_t k0 closedLo.laidOut) k2) k3) k4) k5) k6) k7) k8) zLJ) k10) k11) zRx) k13) k14) k15) k16) k17) k18) k19) k20) k21) k22) k23) k24) k25) k26) k27) k28) k29) k30) k31)
end closedC
end Go.Proofs.YthpoddkmhfhboaaGreatDoor
