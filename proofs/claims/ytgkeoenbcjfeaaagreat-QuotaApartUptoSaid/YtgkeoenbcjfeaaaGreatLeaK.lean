/-
  THE TWO SORTS of a table's readers, by the kit's laws: strings, and leases by their numbers.
-/
import Derived.Test.YtgkeoenbcjfeaaaGreatLeaC
import Derived.Test.YtgkeoenbcjfeaaaGreatFwY
import Derived.Test.YtgkeoenbcjfeaaaGreatShS
import Derived.Test.YtgkeoenbcjfeaaaGreatShF
import Derived.Lib.Walk
set_option linter.unusedVariables false
set_option maxRecDepth 10000
namespace Go.Proofs.YtgkeoenbcjfeaaaGreat
open Go Go.Sc Go.Proofs Go.Shelf Go.Lib Go.Sort

/-- Whole numbers held against each other: the world is as it was. -/
theorem nanX (x : Nat) (w : World) : Calls Tryz.prog 53 #[.int .u64 (x : Nat)] w fun e w' => e = .returned (.bool false) ∧ w' = w := by
  go_enter Tryz.func53, Tryz.ntmps53
  go_wp2
  go_ret
  exact ⟨by simp, rfl⟩
theorem cmpX (x y : Nat) (w : World) : Calls Tryz.prog 31 #[.int .u64 (x : Nat), .int .u64 (y : Nat)] w fun e w' => e = .returned (.int .i64 (cmpN x y)) ∧ w' = w := by
  go_enter Tryz.func31, Tryz.ntmps31
  go_wp2_with (go_at_call 53; refine (nanX _ _).mono ?_; rintro e w' ⟨rfl, hw⟩; rw [hw])
  all_goals (go_ret; refine ⟨?_, rfl⟩; unfold cmpN; (repeat' split) <;> first | rfl | (exfalso; omega))
theorem leaX (x y : LeaD) (w : World) : Calls Tryz.prog 30 #[.agg (LeaD.cells x).toArray, .agg (LeaD.cells y).toArray] w fun e w' => e = .returned (.int .i64 (cmpL x y)) ∧ ∃ q os', w' = grow (w.drewN q) os' := by
  have hcon := fun W' => cmpX x.id y.id W'
  show Calls _ _ _ _ fun e w' => e = .returned (.int .i64 (cmpN x.id y.id)) ∧ _
  generalize cmpN x.id y.id = r at hcon ⊢
  simp only [LeaD.cells, List.toArray]
  go_enter Tryz.func30, Tryz.ntmps30
  go_wp2_with (go_at_call 31; refine (hcon _).mono ?_; rintro e w' ⟨rfl, rfl⟩)
  go_ret
  exact ⟨rfl, 0, _, by rw [alloc_eq_grow, alloc_eq_grow, grow_grow]; rfl⟩
theorem sort_s (v : Value) (l : List ByteArray) (w : World) (hl : LenOk l.length) (hin : Own w (fps [Res.vec 9 1 v l.length (l.flatMap S1)]) [Res.vec 9 1 v l.length (l.flatMap S1)] w) : Rets Tryz.prog 48 #[v] w fun u_ w' => ∃ (l' : List ByteArray), u_ = .tuple #[] ∧ l'.Perm l ∧ l'.Pairwise (fun x y => ole x y) ∧ Own w (fps [Res.vec 9 1 v l.length (l.flatMap S1)]) [Res.vec 9 1 v l'.length (l'.flatMap S1)] w' := by
  exact sortS_own Tryz.sortS rfl v l w hl hin
theorem sort_f (v : Value) (l : List LeaD) (w : World) (hl : LenOk l.length) (hin : Own w (fps [Res.vec 49 5 v l.length (l.flatMap LeaD.cells)]) [Res.vec 49 5 v l.length (l.flatMap LeaD.cells)] w) : Rets Tryz.prog 51 #[v, .func (.func 30) #[] #[]] w fun u_ w' => ∃ (l' : List LeaD), u_ = .tuple #[] ∧ l'.Perm l ∧ l'.Pairwise (fun x y => ole x y) ∧ Own w (fps [Res.vec 49 5 v l.length (l.flatMap LeaD.cells)]) [Res.vec 49 5 v l'.length (l'.flatMap LeaD.cells)] w' := by
  exact sortF_own Tryz.sortF rfl LeaD.cells 5 Tryz.isAgg49 Tryz.sizeOf49 (fun _ => rfl) (fun x v hv => by simp [LeaD.cells] at hv; rcases hv with rfl | rfl | rfl | rfl | rfl <;> rfl) cmpL (fun _ _ => Iff.rfl) 30 (enters_of Tryz.func30 (by kernel_rfl) rfl) leaX v l w hl hin
end Go.Proofs.YtgkeoenbcjfeaaaGreat
