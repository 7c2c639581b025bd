/-
  HOW what is done to the last replies is read.
-/
import Derived.Test.YtjnnobekbgpaaaaRead
import Derived.Test.YtjnnobekbgpaaaaDupR
set_option linter.unusedVariables false
set_option maxRecDepth 10000
namespace Go.Proofs.Ytjnnobekbgpaaaa
open Go Go.Sc Go.Proofs Go.RowKit Go.ChangeShapes Go.WideShapes

theorem sum_one {α : Type} (l : List α) : (l.map fun _ => 1).sum = l.length := by induction l <;> simp_all; omega
theorem rdReply (W : World) : RdA Try.prog W 26 RepD.cells RepD.wf (fun _ => 1) := by
  have h := RdA.struct (W := W) (tot := 6) Try.underlying26 (by kernel_rfl)
    (RdF.cons (sz := 1) rfl (by kernel_rfl) (RdA.u64 Try.underlying23) (RdF.cons (sz := 1) rfl (by kernel_rfl) (RdA.u64 Try.underlying23)
      (RdF.cons (sz := 1) rfl (by kernel_rfl) (RdA.i64 Try.underlying24) (RdF.cons (sz := 1) rfl (by kernel_rfl) (RdA.u64 Try.underlying23)
        (RdF.cons (sz := 1) rfl (by kernel_rfl) (RdA.i64 Try.underlying2) (RdF.cons (sz := 1) rfl (by kernel_rfl) (RdA.i64 Try.underlying2) (RdF.nil rfl)))))))
  exact h.map (fun p => ⟨p.1, p.2.1, p.2.2.1, p.2.2.2.1, p.2.2.2.2.1, p.2.2.2.2.2.1⟩) (fun _ => rfl) (fun _ h => ⟨h.1, h.2.1, h.2.2.2.1, h.2.2.2.2.1, h.2.2.2.2.2.1⟩) (fun _ _ => by omega)
theorem rdDAct (W : World) : RdA Try.prog W 44 DActD.cells (fun a => a.r.wf) (fun _ => 1) := by
  have h := RdA.struct (W := W) (tot := 7) Try.underlying44 (by kernel_rfl)
    (RdF.cons (sz := 1) rfl (by kernel_rfl) (RdA.i64 Try.underlying3) (RdF.cons (sz := 6) rfl (by kernel_rfl) (rdReply W) (RdF.nil rfl)))
  exact h.map (fun p => ⟨p.1, p.2.1⟩) (fun p => by show _ ++ (_ ++ _) = _; simp [DActD.cells]) (fun _ h => h.2.1) (fun _ _ => by omega)
theorem rdDActs (W : World) : RdA Try.prog W 22 (fun p : Value × List DActD => [p.1]) (fun p => Rd W [] (Res.sl p.1 p.2.length (p.2.flatMap DActD.cells)) ∧ ∀ a ∈ p.2, a.r.wf) (fun p => p.2.length + 1) :=
  (RdA.slice (sz := 7) Try.underlying22 (by kernel_rfl) (by decide) (fun _ => rfl) (rdDAct W)).map id (fun _ => rfl) (fun p h => ⟨Rd.of h.1, h.2⟩) (fun p _ => by rw [sum_one]; exact Nat.le_refl _)
theorem rdReplies (W : World) : RdA Try.prog W 37 (fun p : Value × List RepD => [p.1]) (fun p => Rd W [] (Res.sl p.1 p.2.length (p.2.flatMap RepD.cells)) ∧ ∀ a ∈ p.2, a.wf) (fun p => p.2.length + 1) :=
  (RdA.slice (sz := 6) Try.underlying37 (by kernel_rfl) (by decide) (fun _ => rfl) (rdReply W)).map id (fun _ => rfl) (fun p h => ⟨Rd.of h.1, h.2⟩) (fun p _ => by rw [sum_one]; exact Nat.le_refl _)
end Go.Proofs.Ytjnnobekbgpaaaa
