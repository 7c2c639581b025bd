/-
  LedgerLoads is true of every input that is not greater than the statement's bound: the program returns, it returns true, and what came in reads as it did. Condition: the bulk that the statement names.
-/
import Derived.Test.YthincafbmpialaaGreatLedDoes
import Derived.Test.YthincafbmpialaaGreatLedSv
set_option linter.unusedSectionVars false
set_option linter.unusedSimpArgs false
set_option linter.unusedVariables false
set_option maxRecDepth 10000
namespace Go.Proofs.YthincafbmpialaaGreat
open Go Go.Sc Go.Proofs Go.RowKit Go.ChangeShapes Go.WideShapes
namespace ledgerLoads
theorem own : ownKnob Tryz.prog.godebug = none := by kernel_rfl
theorem laidOut : laidOutB Tryz.prog = true := by kernel_rfl
theorem contract (H : Type) (enc : TypeId × Value → H) (W : World) (base : Nat) (args : Array Value) (ds gs : List (DataW H)) (before : List MemPlace)
    (hval : ∀ (j : Nat) t v, Tryz.f8.params[j]? = some t → args[j]? = some v → Value.okWide Tryz.prog W .any base t v)
    (hW : DataW.Whole enc Tryz.prog Tryz.f8.params.toList Rows.ledgerLoadsSpec.vars false W args.toList ds gs before) (hk : Rows.uptoSmall H (ds ++ gs) = true) :
    Calls Tryz.prog 8 args W fun e W' => ∃ v, e = .returned v ∧ Rows.ledgerLoadsSpec.post enc Tryz.prog Tryz.f8 false true false false W args v W' := by
  have hW' := hW
  obtain ⟨p, q, hA0, hV, rfl, hfz, hnd⟩ := hW
  have hA : DataW.TrodAll enc Tryz.prog W 0 (fun _ => true) true Tryz.f8.params.toList args.toList ds p := hA0
  rw [Tryz.params8] at hA hval
  obtain ⟨v0, vs0, d0, ds0, p0, q0, hargs, rfl, rfl, h0, r0⟩ := trodAll_cons hA
  obtain ⟨v1, vs1, d1, ds1, p1, q1, rfl, rfl, rfl, h1, r1⟩ := trodAll_cons r0
  obtain ⟨rfl, rfl, rfl⟩ := trodAll_nil r1
  obtain rfl : args = #[v0, v1] := by cases args; simp_all
  obtain ⟨rfl, rfl⟩ := trodVars_none hV
  have hB : Rows.uptoBulk d0 + Rows.uptoBulk d1 ≤ 1048576 := by
    have := of_decide_eq_true hk
    simp only [List.append_nil, Rows.uptoBulkAll] at this
    omega
  obtain ⟨u0, hf0⟩ := h0
  obtain ⟨a0, e0, w0, z0⟩ := (zMC W) H enc _ _ _ hf0
  obtain ⟨u1, hf1⟩ := h1
  obtain ⟨a1, e1, w1, z1⟩ := (zGF W) H enc _ _ _ hf1
  try dsimp only at z0
  try dsimp only at z1
  obtain rfl := zDJ Tryz.underlying22 (hval 0 _ v0 rfl rfl) e0
  obtain rfl := zDJ Tryz.underlying52 (hval 1 _ v1 rfl rfl) e1
  refine Calls.mono (zC9 a0.1 a0.2 a1.1 a1.2 W (zD4 w0.2 (by omega)).2.1 (zD4 w0.2 (by omega)).1 (by omega) w0.1 (zD4 w0.2 (by omega)).2.2 w1) fun e W' he => ?_
  obtain ⟨v, rfl, rfl, hO⟩ := he
  exact ⟨_, rfl, zH1 laidOut rfl (fun ds h => by
    rw [Tryz.params8] at h
    match ds, h with
    | [_, _], _ => rfl) rfl Tryz.underlying4 (by kernel_rfl) hW' (Own.below hO)⟩
set_option maxRecDepth 100000 in
theorem lifted (os : Os) (started : os.Started) (H : Type) (enc : TypeId × Value → H) (F : Stop.Interp) :
    ReturnsInHanded {} Tryz.checked os 8 .any ((Rows.OpenSpec.upto Rows.ledgerLoadsSpec).pre6 enc Tryz.prog Tryz.f8 Rows.ledgerLoadsUptoRow.domain false) (((Rows.OpenSpec.upto Rows.ledgerLoadsSpec).at F).post enc Tryz.prog Tryz.f8 false true false false) := by
  refine returnsInHanded_of_cond (C := Tryz.checked) (s := Rows.OpenSpec.upto Rows.ledgerLoadsSpec) (k := Rows.uptoSmall) rfl own started (by kernel_rfl) Tryz.func8
    (OpenSpec.witness (enc := enc) (C := Tryz.checked) (s := Rows.OpenSpec.upto Rows.ledgerLoadsSpec) (k := Rows.uptoSmall) rfl false ⟨#[], #[.slice none 0 0, .slice none 0 0], []⟩ 8 (by kernel_rfl) (by kernel_rfl) (by kernel_rfl)
      (x := ([.nil, .nil], [], [])) (by kernel_rfl) rfl (by kernel_rfl)) ?_
  intro W base args ds gs before hval hW _ hk _
  exact contract H enc W base args ds gs before hval hW hk
theorem proved : Rows.LedgerLoadsUptoSaid :=
  OpenClaim.holds_of_cond 8 Tryz.f8 rfl rfl rfl rfl rfl rfl rfl ⟨rfl, rfl, rfl, rfl, rfl⟩ rfl rfl rfl rfl rfl (by kernel_rfl) Tryz.func8 (by kernel_rfl)
    (of_decide_eq_true (by kernel_rfl)) (by unfold Func.isWrapper; first | (rw [if_pos (by decide +kernel)]; kernel_rfl) | (rw [if_neg (by decide +kernel)]; exact ⟨rfl, rfl⟩))
    (fun os started H enc _ F => lifted os started H enc F)
end ledgerLoads
end Go.Proofs.YthincafbmpialaaGreat
