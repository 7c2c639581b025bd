/-
  CoreTrusts is true of every input: the program returns, it returns true, and what came in reads as it did. Condition: none, but the bulk that the statement names.
-/
import Derived.Test.YtkkeknmkipkbmaaGreatBytes
import Derived.Test.YtkkeknmkipkbmaaGreatCoY
set_option linter.unusedSectionVars false
set_option linter.unusedSimpArgs false
set_option linter.unusedVariables false
set_option maxRecDepth 10000
namespace Go.Proofs.YtkkeknmkipkbmaaGreat
open Go Go.Sc Go.Proofs Go.RowKit Go.ChangeShapes Go.WideShapes
theorem rdU16 {P : Program} {W : World} {t : TypeId} (ht : P.underlying t = some (.int .u16)) : RdA P W t (fun n : Nat => [.int .u16 n]) (fun n => n < 65536) (fun _ => 1) := by
  intro H enc fuel cs x hx
  obtain ⟨a, rfl, rfl, hw⟩ := DataW.trod_int ht hx
  simp [Lit.wf, IntKind.min, IntKind.max, IntKind.signed, IntKind.bits] at hw
  refine ⟨a.toNat, by show _ = [Value.int .u16 (a.toNat : Int)]; rw [Int.toNat_of_nonneg (by omega)], ?_, by simp [Rows.uptoBulk]⟩
  omega
theorem coreTrusts_any {rho : Int} {wait : Nat} {ans : Bool} {w : World} (h : wait < 65536) :
    Rets Tryz.prog 4 #[.int .i64 rho, .int .u16 wait, .bool ans] w fun u_ w' => u_ = .bool true ∧ Own w [] [] w' := by
  by_cases hr : 0 ≤ rho ∧ rho ≤ 500000
  · exact zHE rho wait ans w hr h
  · exact zDX rho wait ans w (by omega)
namespace coreTrusts
theorem own : ownKnob Tryz.prog.godebug = none := by kernel_rfl
theorem laidOut : laidOutB Tryz.prog = true := by kernel_rfl
theorem contract (H : Type) (enc : TypeId × Value → H) (W : World) (base : Nat) (args : Array Value) (ds gs : List (DataW H)) (before : List MemPlace)
    (hval : ∀ (j : Nat) t v, Tryz.f4.params[j]? = some t → args[j]? = some v → Value.okWide Tryz.prog W .any base t v)
    (hW : DataW.Whole enc Tryz.prog Tryz.f4.params.toList Rows.coreTrustsSpec.vars false W args.toList ds gs before) (hk : Rows.uptoSmall H (ds ++ gs) = true) :
    Calls Tryz.prog 4 args W fun e W' => ∃ v, e = .returned v ∧ Rows.coreTrustsSpec.post enc Tryz.prog Tryz.f4 false true false false W args v W' := by
  have hW' := hW
  obtain ⟨p, q, hA0, hV, rfl, hfz, hnd⟩ := hW
  have hA : DataW.TrodAll enc Tryz.prog W 0 (fun _ => true) true Tryz.f4.params.toList args.toList ds p := hA0
  rw [Tryz.params4] at hA hval
  obtain ⟨v0, vs0, d0, ds0, p0, q0, hargs, rfl, rfl, h0, r0⟩ := trodAll_cons hA
  obtain ⟨v1, vs1, d1, ds1, p1, q1, rfl, rfl, rfl, h1, r1⟩ := trodAll_cons r0
  obtain ⟨v2, vs2, d2, ds2, p2, q2, rfl, rfl, rfl, h2, r2⟩ := trodAll_cons r1
  obtain ⟨rfl, rfl, rfl⟩ := trodAll_nil r2
  obtain rfl : args = #[v0, v1, v2] := by cases args; simp_all
  obtain ⟨rfl, rfl⟩ := trodVars_none hV
  have hB : Rows.uptoBulk d0 + Rows.uptoBulk d1 + Rows.uptoBulk d2 ≤ 1048576 := by
    have := of_decide_eq_true hk
    simp only [List.append_nil, Rows.uptoBulkAll] at this
    omega
  obtain ⟨u0, hf0⟩ := h0
  obtain ⟨a0, e0, w0, z0⟩ := (RdA.i64 (W := W) Tryz.underlying2) H enc _ _ _ hf0
  obtain ⟨u1, hf1⟩ := h1
  obtain ⟨a1, e1, w1, z1⟩ := (rdU16 (W := W) Tryz.underlying55) H enc _ _ _ hf1
  obtain ⟨u2, hf2⟩ := h2
  obtain ⟨a2, e2, w2, z2⟩ := (RdA.bool (W := W) Tryz.underlying4) H enc _ _ _ hf2
  try dsimp only at z0
  try dsimp only at z1
  try dsimp only at z2
  obtain rfl := zEo Tryz.underlying2 (hval 0 _ v0 rfl rfl) e0
  obtain rfl := zEo Tryz.underlying55 (hval 1 _ v1 rfl rfl) e1
  obtain rfl := zG5 Tryz.underlying4 (hval 2 _ v2 rfl rfl) e2
  refine Calls.mono (coreTrusts_any w1) fun e W' he => ?_
  obtain ⟨v, rfl, rfl, hO⟩ := he
  exact ⟨_, rfl, zHo laidOut rfl (fun ds h => by
    rw [Tryz.params4] at h
    match ds, h with
    | [_, _, _], _ => rfl) rfl Tryz.underlying4 (by kernel_rfl) hW' (Own.below hO)⟩
set_option maxRecDepth 100000 in
theorem lifted (os : Os) (started : os.Started) (H : Type) (enc : TypeId × Value → H) (F : Stop.Interp) :
    ReturnsInHanded {} Tryz.checked os 4 .any ((Rows.OpenSpec.upto Rows.coreTrustsSpec).pre6 enc Tryz.prog Tryz.f4 Rows.coreTrustsUptoRow.domain false) (((Rows.OpenSpec.upto Rows.coreTrustsSpec).at F).post enc Tryz.prog Tryz.f4 false true false false) := by
  refine returnsInHanded_of_cond (C := Tryz.checked) (s := Rows.OpenSpec.upto Rows.coreTrustsSpec) (k := Rows.uptoSmall) rfl own started (by kernel_rfl) Tryz.func4
    (OpenSpec.witness (enc := enc) (C := Tryz.checked) (s := Rows.OpenSpec.upto Rows.coreTrustsSpec) (k := Rows.uptoSmall) rfl false ⟨#[], #[.int .i64 0, .int .u16 0, .bool false], []⟩ 8 (by kernel_rfl) (by kernel_rfl) (by kernel_rfl)
      (x := ([.lit (.int .i64 0), .lit (.int .u16 0), .lit (.bool false)], [], [])) (by kernel_rfl) rfl (by kernel_rfl)) ?_
  intro W base args ds gs before hval hW _ hk _
  exact contract H enc W base args ds gs before hval hW hk
theorem proved : Rows.CoreTrustsUptoSaid :=
  OpenClaim.holds_of_cond 4 Tryz.f4 rfl rfl rfl rfl rfl rfl rfl ⟨rfl, rfl, rfl, rfl, rfl⟩ rfl rfl rfl rfl rfl (by kernel_rfl) Tryz.func4 (by kernel_rfl)
    (of_decide_eq_true (by kernel_rfl)) (by unfold Func.isWrapper; first | (rw [if_pos (by decide +kernel)]; kernel_rfl) | (rw [if_neg (by decide +kernel)]; exact ⟨rfl, rfl⟩))
    (fun os started H enc _ F => lifted os started H enc F)
end coreTrusts
end Go.Proofs.YtkkeknmkipkbmaaGreat
