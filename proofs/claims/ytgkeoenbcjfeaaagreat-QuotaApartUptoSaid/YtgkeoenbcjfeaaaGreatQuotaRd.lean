/-
  HOW what is done to a table is read.
-/
import Derived.Test.YtgkeoenbcjfeaaaGreatRead
import Derived.Test.YtgkeoenbcjfeaaaGreatQuotaL
set_option linter.unusedVariables false
set_option maxRecDepth 10000
namespace Go.Proofs.YtgkeoenbcjfeaaaGreat
open Go Go.Sc Go.Proofs Go.RowKit Go.ChangeShapes Go.WideShapes

theorem rdQAct (W : World) : RdA Tryz.prog W 33 QActD.cells QActD.wf (fun x => x.key.size + 1) := by
  have h := RdA.struct (W := W) (tot := 6) Tryz.underlying33 (by kernel_rfl)
    (RdF.cons (sz := 1) rfl (by kernel_rfl) (RdA.i64 Tryz.underlying3) (RdF.cons (sz := 1) rfl (by kernel_rfl) (RdA.str Tryz.underlying9)
      (RdF.cons (sz := 1) rfl (by kernel_rfl) (RdA.i64 Tryz.underlying2) (RdF.cons (sz := 1) rfl (by kernel_rfl) (RdA.i64 Tryz.underlying2)
        (RdF.cons (sz := 1) rfl (by kernel_rfl) (RdA.u64 Tryz.underlying26) (RdF.cons (sz := 1) rfl (by kernel_rfl) (RdA.u64 Tryz.underlying26) (RdF.nil rfl)))))))
  exact h.map (fun p => ⟨p.1, p.2.1, p.2.2.1, p.2.2.2.1, p.2.2.2.2.1, p.2.2.2.2.2.1⟩) (fun _ => rfl) (fun _ h => ⟨h.2.2.1, h.2.2.2.1, h.2.2.2.2.1, h.2.2.2.2.2.1⟩) (fun _ _ => by dsimp only; omega)
theorem rdQActs (W : World) : RdA Tryz.prog W 22 (fun p : Value × List QActD => [p.1]) (fun p => Rd W [] (Res.sl p.1 p.2.length (p.2.flatMap QActD.cells)) ∧ ∀ a ∈ p.2, a.wf) (fun p => (p.2.map fun x => x.key.size + 1).sum + 1) :=
  (RdA.slice (sz := 6) Tryz.underlying22 (by kernel_rfl) (by decide) (fun _ => rfl) (rdQAct W)).map id (fun _ => rfl) (fun p h => ⟨Rd.of h.1, h.2⟩) (fun p _ => Nat.le_refl _)
theorem qacts_len (l : List QActD) : l.length ≤ (l.map fun x => x.key.size + 1).sum := by
  induction l with
  | nil => simp
  | cons a l ih => simp only [List.map_cons, List.sum_cons, List.length_cons]; omega
end Go.Proofs.YtgkeoenbcjfeaaaGreat
