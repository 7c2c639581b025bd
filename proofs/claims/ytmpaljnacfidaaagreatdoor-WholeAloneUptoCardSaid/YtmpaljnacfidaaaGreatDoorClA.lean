import Derived.Test.YtmpaljnacfidaaaGreatDoorRows
import Derived.Test.YtmpaljnacfidaaaGreatDoorLo
import Derived.Test.YtmpaljnacfidaaaGreatDoorCpA
import Derived.Test.YtmpaljnacfidaaaGreatDoorCnA
import Derived.Test.YtmpaljnacfidaaaGreatDoorClA5
import Derived.Test.YtmpaljnacfidaaaGreatDoorClA12
import Derived.JoinedCond
set_option linter.unusedSectionVars false
set_option linter.unusedSimpArgs false
set_option linter.unusedVariables false
set_option maxRecDepth 100000
namespace Go.Proofs.YtmpaljnacfidaaaGreatDoor
open Go Go.Proofs
namespace closedA
theorem all:joinedFacts Tryz.prog 3 Tryz.f3 (OpenSpec.bare (Rows.OpenSpec.upto Rows.wholeAloneSpec)) Rows.wholeAloneUptoRow=true:=by
  unfold joinedFacts
  exact(closedLo.and_t (closedLo.and_t (closedLo.and_t (closedLo.and_t (closedLo.and_t (closedLo.and_t (closedLo.and_t (closedLo.and_t (closedLo.and_t (closedLo.and_t (closedLo.and_t (closedLo.and_t (closedLo.and_t (closedLo.and_t (closedLo.and_t (closedLo.and_t (closedLo.and_t (closedLo.and_t (closedLo.and_t (closedLo.and_t (closedLo.and_t (closedLo.and_t (closedLo.and_t (closedLo.and_t (closedLo.and_t (closedLo.and_t (closedLo.and_t (closedLo.and_t (closedLo.and_t (closedLo.and_t (closedLo.and_t k0 closedLo.laidOut) k2) k3) k4) k5) k6) k7) k8) zK4) k10) k11) zQI) k13) k14) k15) k16) k17) k18) k19) k20) k21) k22) k23) k24) k25) k26) k27) k28) k29) k30) k31)
end closedA
end Go.Proofs.YtmpaljnacfidaaaGreatDoor
