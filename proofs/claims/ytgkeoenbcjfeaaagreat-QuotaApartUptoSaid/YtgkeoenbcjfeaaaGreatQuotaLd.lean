/-
  A TABLE LOADED; the reference's table of what is loaded.
-/
import Derived.Test.YtgkeoenbcjfeaaaGreatQuotaT
set_option linter.unusedVariables false
set_option maxRecDepth 10000
namespace Go.Proofs.YtgkeoenbcjfeaaaGreat
open Go Go.Sc Go.Proofs

end Go.Proofs.YtgkeoenbcjfeaaaGreat
