/-
  LinTrue is true of every input that is not greater than the statement's bound: the program returns, it returns true, and what came in reads as it did. Condition: the bulk that the statement names.
-/
import Derived.Test.YtcdiehplbmkmeaaGreatFwK
import Derived.Test.YtcdiehplbmkmeaaGreatLinT
set_option linter.unusedSectionVars false
set_option linter.unusedSimpArgs false
set_option linter.unusedVariables false
set_option maxRecDepth 10000
namespace Go.Proofs.YtcdiehplbmkmeaaGreat
open Go Go.Sc Go.Proofs Go.RowKit Go.ChangeShapes Go.WideShapes
def BytesWf (W : World) (p : Value × List UInt8) : Prop := Rd W [] (Res.sl p.1 p.2.length (p.2.map vb))
theorem rdBytes (W : World) : RdA Tryz.prog W 46 (fun p : Value × List UInt8 => [p.1]) (BytesWf W) (fun p => p.2.length + 1) :=
  (RdA.slice (sz := 1) Tryz.underlying46 (by kernel_rfl) (by decide) (fun _ => rfl) (RdA.byte (W := W) Tryz.underlying5)).map id (fun _ => rfl) (fun p h => Rd.of (by have := h.1; rw [← zD5] at this; exact this)) (fun p _ => by rw [zIk]; exact Nat.le_refl _)
namespace linTrue
theorem own : ownKnob Tryz.prog.godebug = none := by kernel_rfl
theorem laidOut : laidOutB Tryz.prog = true := by kernel_rfl
theorem contract (H : Type) (enc : TypeId × Value → H) (W : World) (base : Nat) (args : Array Value) (ds gs : List (DataW H)) (before : List MemPlace)
    (hval : ∀ (j : Nat) t v, Tryz.f6.params[j]? = some t → args[j]? = some v → Value.okWide Tryz.prog W .any base t v)
    (hW : DataW.Whole enc Tryz.prog Tryz.f6.params.toList Rows.linTrueSpec.vars false W args.toList ds gs before) (hk : Rows.uptoSmall H (ds ++ gs) = true) :
    Calls Tryz.prog 6 args W fun e W' => ∃ v, e = .returned v ∧ Rows.linTrueSpec.post enc Tryz.prog Tryz.f6 false true false false W args v W' := by
  have hW' := hW
  obtain ⟨p, q, hA0, hV, rfl, hfz, hnd⟩ := hW
  have hA : DataW.TrodAll enc Tryz.prog W 0 (fun _ => true) true Tryz.f6.params.toList args.toList ds p := hA0
  rw [Tryz.params6] at hA hval
  obtain ⟨v0, vs0, d0, ds0, p0, q0, hargs, rfl, rfl, h0, r0⟩ := trodAll_cons hA
  obtain ⟨v1, vs1, d1, ds1, p1, q1, rfl, rfl, rfl, h1, r1⟩ := trodAll_cons r0
  obtain ⟨rfl, rfl, rfl⟩ := trodAll_nil r1
  obtain rfl : args = #[v0, v1] := by cases args; simp_all
  obtain ⟨rfl, rfl⟩ := trodVars_none hV
  have hB : Rows.uptoBulk d0 + Rows.uptoBulk d1 ≤ 1048576 := by
    have := of_decide_eq_true hk
    simp only [List.append_nil, Rows.uptoBulkAll] at this
    omega
  obtain ⟨u0, hf0⟩ := h0
  obtain ⟨a0, e0, w0, z0⟩ := (zJy W) H enc _ _ _ hf0
  obtain ⟨u1, hf1⟩ := h1
  obtain ⟨a1, e1, w1, z1⟩ := (rdBytes W) H enc _ _ _ hf1
  try dsimp only at z0
  try dsimp only at z1
  obtain rfl := zCf Tryz.underlying45 (hval 0 _ v0 rfl rfl) e0
  obtain rfl := zCf Tryz.underlying46 (hval 1 _ v1 rfl rfl) e1
  refine Calls.mono (zF7 a0.1 a1.1 a0.2 a1.2 W (zIH w0.2 (by omega)).2 w0.1 w1) fun e W' he => ?_
  obtain ⟨v, rfl, rfl, hO⟩ := he
  exact ⟨_, rfl, zHR laidOut rfl (fun ds h => by
    rw [Tryz.params6] at h
    match ds, h with
    | [_, _], _ => rfl) rfl Tryz.underlying4 (by kernel_rfl) hW' (Own.below hO)⟩
set_option maxRecDepth 100000 in
theorem lifted (os : Os) (started : os.Started) (H : Type) (enc : TypeId × Value → H) (F : Stop.Interp) :
    ReturnsInHanded {} Tryz.checked os 6 .any ((Rows.OpenSpec.upto Rows.linTrueSpec).pre6 enc Tryz.prog Tryz.f6 Rows.linTrueUptoRow.domain false) (((Rows.OpenSpec.upto Rows.linTrueSpec).at F).post enc Tryz.prog Tryz.f6 false true false false) := by
  refine returnsInHanded_of_cond (C := Tryz.checked) (s := Rows.OpenSpec.upto Rows.linTrueSpec) (k := Rows.uptoSmall) rfl own started (by kernel_rfl) Tryz.func6
    (OpenSpec.witness (enc := enc) (C := Tryz.checked) (s := Rows.OpenSpec.upto Rows.linTrueSpec) (k := Rows.uptoSmall) rfl false ⟨#[], #[.slice none 0 0, .slice none 0 0], []⟩ 8 (by kernel_rfl) (by kernel_rfl) (by kernel_rfl)
      (x := ([.nil, .nil], [], [])) (by kernel_rfl) rfl (by kernel_rfl)) ?_
  intro W base args ds gs before hval hW _ hk _
  exact contract H enc W base args ds gs before hval hW hk
theorem proved : Rows.LinTrueUptoSaid :=
  OpenClaim.holds_of_cond 6 Tryz.f6 rfl rfl rfl rfl rfl rfl rfl ⟨rfl, rfl, rfl, rfl, rfl⟩ rfl rfl rfl rfl rfl (by kernel_rfl) Tryz.func6 (by kernel_rfl)
    (of_decide_eq_true (by kernel_rfl)) (by unfold Func.isWrapper; first | (rw [if_pos (by decide +kernel)]; kernel_rfl) | (rw [if_neg (by decide +kernel)]; exact ⟨rfl, rfl⟩))
    (fun os started H enc _ F => lifted os started H enc F)
end linTrue
end Go.Proofs.YtcdiehplbmkmeaaGreat
