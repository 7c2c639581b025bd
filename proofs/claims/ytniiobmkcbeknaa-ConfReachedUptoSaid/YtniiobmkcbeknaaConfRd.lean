/-
  HOW A CONFIGURATION AND A LIST OF NUMBERS ARE READ.
-/
import Derived.Test.YtniiobmkcbeknaaRead
import Derived.Test.YtniiobmkcbeknaaConfB
set_option linter.unusedVariables false
set_option maxRecDepth 10000
namespace Go.Proofs.Ytniiobmkcbeknaa
open Go Go.Sc Go.Proofs Go.RowKit Go.ChangeShapes Go.WideShapes

def IntsWf (W : World) (p : Value × List Int) : Prop := Rd W [] (Res.sl p.1 p.2.length (p.2.flatMap I1))
theorem sum_one {α : Type} (l : List α) : (l.map fun _ => 1).sum = l.length := by induction l <;> simp_all; omega
theorem rdInts (W : World) : RdA Try.prog W 22 (fun p : Value × List Int => [p.1]) (IntsWf W) (fun p => p.2.length + 1) :=
  (RdA.slice (sz := 1) Try.underlying22 (by kernel_rfl) (by decide) (fun _ => rfl) (RdA.i64 (W := W) Try.underlying3)).map id (fun _ => rfl) (fun p h => Rd.of h.1) (fun p _ => by rw [sum_one]; exact Nat.le_refl _)
theorem rdConf (W : World) : RdA Try.prog W 24 ConfD.cells (fun c => c.rd W []) (fun c => c.vs.length + c.ls.length) := by
  have h := RdA.struct (W := W) (tot := 2) Try.underlying24 (by kernel_rfl)
    (RdF.cons (sz := 1) rfl (by kernel_rfl) (rdInts W) (RdF.cons (sz := 1) rfl (by kernel_rfl) (rdInts W) (RdF.nil rfl)))
  exact h.map (fun p => ⟨p.1.1, p.1.2, p.2.1.1, p.2.1.2⟩) (fun _ => rfl) (fun _ h => ⟨h.1, h.2.1⟩) (fun _ _ => by dsimp only; omega)
end Go.Proofs.Ytniiobmkcbeknaa
