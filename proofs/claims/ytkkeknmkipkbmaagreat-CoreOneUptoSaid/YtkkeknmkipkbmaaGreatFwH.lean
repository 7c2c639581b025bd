import Derived.Test.YtkkeknmkipkbmaaGreatFwG
set_option linter.unusedSimpArgs false
set_option linter.unusedVariables false
set_option linter.unusedSectionVars false
namespace Go.Sc
section
variable {P : Program} {n : Nat} {fn : Func} {g : FuncId}
end
end Go.Sc
