/-
  THE TWO SORTS of a table's readers, by the kit's laws: strings, and leases by their numbers.
-/
import Derived.Test.YthincafbmpialaaGreatLeaC
import Derived.Test.YthincafbmpialaaGreatFwY
import Derived.Test.YthincafbmpialaaGreatShS
import Derived.Test.YthincafbmpialaaGreatShF
import Derived.Lib.Walk
set_option linter.unusedVariables false
set_option maxRecDepth 10000
namespace Go.Proofs.YthincafbmpialaaGreat
open Go Go.Sc Go.Proofs Go.Shelf Go.Lib Go.Sort

/-- Whole numbers held against each other: the world is as it was. -/
theorem nanX (x : Nat) (w : World) : Calls Tryz.prog 120 #[.int .u64 (x : Nat)] w fun e w' => e = .returned (.bool false) ∧ w' = w := by
  go_enter Tryz.func120, Tryz.ntmps120
  go_wp2
  go_ret
  exact ⟨by simp, rfl⟩
theorem cmpX (x y : Nat) (w : World) : Calls Tryz.prog 88 #[.int .u64 (x : Nat), .int .u64 (y : Nat)] w fun e w' => e = .returned (.int .i64 (cmpN x y)) ∧ w' = w := by
  go_enter Tryz.func88, Tryz.ntmps88
  go_wp2_with (go_at_call 120; refine (nanX _ _).mono ?_; rintro e w' ⟨rfl, hw⟩; rw [hw])
  all_goals (go_ret; refine ⟨?_, rfl⟩; unfold cmpN; (repeat' split) <;> first | rfl | (exfalso; omega))
theorem leaX (x y : LeaD) (w : World) : Calls Tryz.prog 87 #[.agg (LeaD.cells x).toArray, .agg (LeaD.cells y).toArray] w fun e w' => e = .returned (.int .i64 (cmpL x y)) ∧ ∃ q os', w' = grow (w.drewN q) os' := by
  have hcon := fun W' => cmpX x.id y.id W'
  show Calls _ _ _ _ fun e w' => e = .returned (.int .i64 (cmpN x.id y.id)) ∧ _
  generalize cmpN x.id y.id = r at hcon ⊢
  simp only [LeaD.cells, List.toArray]
  go_enter Tryz.func87, Tryz.ntmps87
  go_wp2_with (go_at_call 88; refine (hcon _).mono ?_; rintro e w' ⟨rfl, rfl⟩)
  go_ret
  exact ⟨rfl, 0, _, by rw [alloc_eq_grow, alloc_eq_grow, grow_grow]; rfl⟩
theorem sort_f (v : Value) (l : List LeaD) (w : World) (hl : LenOk l.length) (hin : Own w (fps [Res.vec 76 5 v l.length (l.flatMap LeaD.cells)]) [Res.vec 76 5 v l.length (l.flatMap LeaD.cells)] w) : Rets Tryz.prog 118 #[v, .func (.func 87) #[] #[]] w fun u_ w' => ∃ (l' : List LeaD), u_ = .tuple #[] ∧ l'.Perm l ∧ l'.Pairwise (fun x y => ole x y) ∧ Own w (fps [Res.vec 76 5 v l.length (l.flatMap LeaD.cells)]) [Res.vec 76 5 v l'.length (l'.flatMap LeaD.cells)] w' := by
  exact sortF_own Tryz.sortF rfl LeaD.cells 5 Tryz.isAgg76 Tryz.sizeOf76 (fun _ => rfl) (fun x v hv => by simp [LeaD.cells] at hv; rcases hv with rfl | rfl | rfl | rfl | rfl <;> rfl) cmpL (fun _ _ => Iff.rfl) 87 (enters_of Tryz.func87 (by kernel_rfl) rfl) leaX v l w hl hin
end Go.Proofs.YthincafbmpialaaGreat
