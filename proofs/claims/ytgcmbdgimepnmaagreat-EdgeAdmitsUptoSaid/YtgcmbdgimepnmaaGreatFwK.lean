/-
  MAPS COPIED: maps.clone; a map in an interface; a map held against nil.
-/
import Derived.Test.YtgcmbdgimepnmaaGreatFwR
import Derived.Laws.Externs
set_option linter.unusedVariables false
set_option linter.unusedSectionVars false
namespace Go.Sc

def isMapT (P : Program) (t : TypeId) : Bool := match P.underlying t with | some (.map _ _) => true | _ => false
section
variable {κ α : Type} [DecidableEq κ] {P : Program} {kt vt t t' : TypeId} {ke : κ → Value} {ve : α → Value}
variable {n : Nat} {ops : Array Oper} {N : K} {f : Nat → Value} {rest : List Oper} {d : Nat} {ty : TypeId} {p : String} {af : Array Edge} {x y z : Operand} {w0 : World} {S : List Nat} {L : List Res} {A : World → Prop}
end
end Go.Sc
