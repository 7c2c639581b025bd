/-
  DedupActs is true of every input that is not greater than the statement's bound: the program returns, it returns true, and what came in reads as it did. Condition: the bulk that the statement names.
-/
import Derived.Test.YtjnnobekbgpaaaaDupRd
import Derived.Test.YtjnnobekbgpaaaaDupL
set_option linter.unusedVariables false
set_option maxRecDepth 10000
namespace Go.Proofs.Ytjnnobekbgpaaaa
open Go Go.Sc Go.Proofs Go.RowKit Go.ChangeShapes Go.WideShapes

namespace dedupActs
theorem own : ownKnob Try.prog.godebug = none := by kernel_rfl
theorem laidOut : laidOutB Try.prog = true := by kernel_rfl

theorem contract (H : Type) (enc : TypeId × Value → H) (W : World) (base : Nat) (args : Array Value) (ds gs : List (DataW H)) (before : List MemPlace)
    (hval : ∀ (j : Nat) t v, Try.f5.params[j]? = some t → args[j]? = some v → Value.okWide Try.prog W .any base t v)
    (hW : DataW.Whole enc Try.prog Try.f5.params.toList Rows.dedupActsSpec.vars false W args.toList ds gs before) (hk : Rows.uptoSmall H (ds ++ gs) = true) :
    Calls Try.prog 5 args W fun e W' => ∃ v, e = .returned v ∧ Rows.dedupActsSpec.post enc Try.prog Try.f5 false true false false W args v W' := by
  have hW' := hW
  obtain ⟨p, q, hA0, hV, rfl, hfz, hnd⟩ := hW
  have hA : DataW.TrodAll enc Try.prog W 0 (fun _ => true) true Try.f5.params.toList args.toList ds p := hA0
  rw [Try.params5] at hA hval
  obtain ⟨v0, vs0, d0, ds0, p0, q0, hargs, rfl, rfl, h0, r0⟩ := trodAll_cons hA
  obtain ⟨rfl, rfl, rfl⟩ := trodAll_nil r0
  obtain rfl : args = #[v0] := by cases args; simp_all
  obtain ⟨rfl, rfl⟩ := trodVars_none hV
  have hB : Rows.uptoBulk d0 ≤ 1048576 := by
    have := of_decide_eq_true hk
    simp only [List.append_nil, Rows.uptoBulkAll] at this
    omega
  obtain ⟨u0, hf0⟩ := h0
  obtain ⟨a0, e0, w0, z0⟩ := (rdDActs W) H enc _ _ _ hf0
  try dsimp only at z0
  obtain rfl := arg_slice Try.underlying22 (hval 0 _ v0 rfl rfl) e0
  refine Calls.mono (dedupActs_s a0.1 a0.2 W (by omega) w0.2 w0.1) fun e W' he => ?_
  obtain ⟨v, rfl, rfl, hO⟩ := he
  exact ⟨_, rfl, law_post laidOut rfl (fun ds h => by
    rw [Try.params5] at h
    match ds, h with
    | [_], _ => rfl) rfl Try.underlying4 (by kernel_rfl) hW' (Own.below hO)⟩

set_option maxRecDepth 100000 in
theorem lifted (os : Os) (started : os.Started) (H : Type) (enc : TypeId × Value → H) (F : Stop.Interp) :
    ReturnsInHanded {} Try.checked os 5 .any ((Rows.OpenSpec.upto Rows.dedupActsSpec).pre6 enc Try.prog Try.f5 Rows.dedupActsUptoRow.domain false) (((Rows.OpenSpec.upto Rows.dedupActsSpec).at F).post enc Try.prog Try.f5 false true false false) := by
  refine returnsInHanded_of_cond (C := Try.checked) (s := Rows.OpenSpec.upto Rows.dedupActsSpec) (k := Rows.uptoSmall) rfl own started (by kernel_rfl) Try.func5
    (OpenSpec.witness (enc := enc) (C := Try.checked) (s := Rows.OpenSpec.upto Rows.dedupActsSpec) (k := Rows.uptoSmall) rfl false ⟨#[], #[.slice none 0 0], []⟩ 8 (by kernel_rfl) (by kernel_rfl) (by kernel_rfl)
      (x := ([.nil], [], [])) (by kernel_rfl) rfl (by kernel_rfl)) ?_
  intro W base args ds gs before hval hW _ hk _
  exact contract H enc W base args ds gs before hval hW hk

/-- DedupActs: proved. -/
theorem proved : Rows.DedupActsUptoSaid :=
  OpenClaim.holds_of_cond 5 Try.f5 rfl rfl rfl rfl rfl rfl rfl ⟨rfl, rfl, rfl, rfl, rfl⟩ rfl rfl rfl rfl rfl (by kernel_rfl) Try.func5 (by kernel_rfl)
    (of_decide_eq_true (by kernel_rfl)) (by unfold Func.isWrapper; first | (rw [if_pos (by decide +kernel)]; kernel_rfl) | (rw [if_neg (by decide +kernel)]; exact ⟨rfl, rfl⟩))
    (fun os started H enc _ F => lifted os started H enc F)
end dedupActs
end Go.Proofs.Ytjnnobekbgpaaaa
