/-
  RANGES OVER FUNCTIONS whose elements are kept in blocks of their own.
-/
import Derived.Test.YtgcmbdgimepnmaaGreatFwG
set_option linter.unusedVariables false
set_option linter.unusedSectionVars false
namespace Go.Sc

section
variable {P : Program} {n : Nat} {fn : Func} {g : FuncId}
end
end Go.Sc
