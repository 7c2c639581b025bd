/-
  STRUCTS THAT HOLD STRUCTS, HELD AGAINST EACH OTHER: '==' and '!=' where each field is an integer, a bool, a string, or a struct of such.
-/
import Derived.Test.YtgcmbdgimepnmaaFwE
import Derived.ChangeKeysEq
set_option linter.unusedVariables false
set_option linter.unusedSectionVars false
namespace Go.Sc

/-- A field's places: its own, or those of the struct that it holds. -/
def flatF (P : Program) (f : Field) : Option (List (Nat × Option (Option IntKind))) :=
  if f.name = "_" then none else
    match P.underlying f.type with
    | some (.int k) => some [(f.offset, some (some k))]
    | some .string => some [(f.offset, some none)]
    | some .bool => some [(f.offset, none)]
    | some (.struct _) =>
      match flatT P f.type with
      | some ks => if (P.info? f.type).isSome && ks.all (fun q => q.1 < P.cellsOf f.type) then some (ks.map fun q => (f.offset + q.1, q.2)) else none
      | none => none
    | _ => none
def flat2 (P : Program) (t : TypeId) : Option (List (List (Nat × Option (Option IntKind)))) :=
  match P.underlying t with
  | some (.struct fs) => if P.stoodInHeld t then none else fs.toList.mapM (flatF P)
  | _ => none

section
variable {P : Program}
variable {n : Nat} {ops : Array Oper} {N : K} {f : Nat → Value} {A : World → Prop} {rest : List Oper} {d : Nat} {ty : TypeId} {p : String} {af : Array Edge} {x y : Operand} {t t' : TypeId}
end
end Go.Sc
