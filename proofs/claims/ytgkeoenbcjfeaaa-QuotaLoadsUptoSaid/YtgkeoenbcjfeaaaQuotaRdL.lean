/-
  HOW budgets and leases are read.
-/
import Derived.Test.YtgkeoenbcjfeaaaQuotaRd
set_option linter.unusedVariables false
set_option maxRecDepth 10000
namespace Go.Proofs.Ytgkeoenbcjfeaaa
open Go Go.Sc Go.Proofs Go.RowKit Go.ChangeShapes Go.WideShapes

theorem rdBud (W : World) : RdA Try.prog W 68 BudD.cells (fun b => isI b.amount) (fun x => x.key.size + 1) := by
  have h := RdA.struct (W := W) (tot := 2) Try.underlying68 (by kernel_rfl)
    (RdF.cons (sz := 1) rfl (by kernel_rfl) (RdA.str Try.underlying9) (RdF.cons (sz := 1) rfl (by kernel_rfl) (RdA.i64 Try.underlying2) (RdF.nil rfl)))
  exact h.map (fun p => ⟨p.1, p.2.1⟩) (fun _ => rfl) (fun _ h => h.2.1) (fun _ _ => by dsimp only; omega)
theorem rdLea (W : World) : RdA Try.prog W 37 LeaD.cells (fun l => isI l.amount) (fun x => x.key.size + 1) := by
  have h := RdA.struct (W := W) (tot := 5) Try.underlying37 (by kernel_rfl)
    (RdF.cons (sz := 1) rfl (by kernel_rfl) (RdA.u64 Try.underlying26) (RdF.cons (sz := 1) rfl (by kernel_rfl) (RdA.u64 Try.underlying26)
      (RdF.cons (sz := 1) rfl (by kernel_rfl) (RdA.str Try.underlying9) (RdF.cons (sz := 1) rfl (by kernel_rfl) (RdA.i64 Try.underlying2)
        (RdF.cons (sz := 1) rfl (by kernel_rfl) (RdA.i64 Try.underlying2) (RdF.nil rfl))))))
  exact h.map (fun p => ⟨p.1, p.2.1, p.2.2.1, p.2.2.2.1, p.2.2.2.2.1⟩) (fun _ => rfl) (fun _ h => h.2.2.2.1) (fun _ _ => by dsimp only; omega)
theorem rdBuds (W : World) : RdA Try.prog W 27 (fun p : Value × List BudD => [p.1]) (fun p => Rd W [] (Res.sl p.1 p.2.length (p.2.flatMap BudD.cells)) ∧ ∀ a ∈ p.2, isI a.amount) (fun p => (p.2.map fun x => x.key.size + 1).sum + 1) :=
  (RdA.slice (sz := 2) Try.underlying27 (by kernel_rfl) (by decide) (fun _ => rfl) (rdBud W)).map id (fun _ => rfl) (fun p h => ⟨Rd.of h.1, h.2⟩) (fun p _ => Nat.le_refl _)
theorem rdLeas (W : World) : RdA Try.prog W 28 (fun p : Value × List LeaD => [p.1]) (fun p => Rd W [] (Res.sl p.1 p.2.length (p.2.flatMap LeaD.cells)) ∧ ∀ a ∈ p.2, isI a.amount) (fun p => (p.2.map fun x => x.key.size + 1).sum + 1) :=
  (RdA.slice (sz := 5) Try.underlying28 (by kernel_rfl) (by decide) (fun _ => rfl) (rdLea W)).map id (fun _ => rfl) (fun p h => ⟨Rd.of h.1, h.2⟩) (fun p _ => Nat.le_refl _)
theorem buds_len (l : List BudD) : l.length ≤ (l.map fun x => x.key.size + 1).sum := by
  induction l with
  | nil => simp
  | cons a l ih => simp only [List.map_cons, List.sum_cons, List.length_cons]; omega
theorem leas_len (l : List LeaD) : l.length ≤ (l.map fun x => x.key.size + 1).sum := by
  induction l with
  | nil => simp
  | cons a l ih => simp only [List.map_cons, List.sum_cons, List.length_cons]; omega
end Go.Proofs.Ytgkeoenbcjfeaaa
