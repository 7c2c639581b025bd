/-
  EdgeLapses is true of every input: the program returns, it returns true, and what came in reads as it did. Condition: none, but the bulk that the statement names.
-/
import Derived.Test.YtgcmbdgimepnmaaRead
import Derived.Test.YtgcmbdgimepnmaaEdLa
set_option linter.unusedVariables false
set_option maxRecDepth 10000
namespace Go.Proofs.Ytgcmbdgimepnmaa
open Go Go.Sc Go.Proofs Go.RowKit Go.ChangeShapes Go.WideShapes

theorem edgeLapses_any {rho sp am beg late : Int} {back : Bool} {w : World} (h1 : isI rho) (h2 : isI sp) (h3 : isI am) (h4 : isI beg) (h5 : isI late) :
    Rets Try.prog 3 #[.int .i64 rho, .int .i64 sp, .int .i64 am, .int .i64 beg, .int .i64 late, .bool back] w fun u_ w' => u_ = .bool true ∧ Own w [] [] w' := by
  by_cases hr : 0 ≤ rho ∧ rho ≤ 500000
  · exact edgeLapses_s rho sp am beg late back w hr h2 h3 h4 h5
  · exact edgeLapsesBad_s rho sp am beg late back w (by omega)
namespace edgeLapses
theorem own : ownKnob Try.prog.godebug = none := by kernel_rfl
theorem laidOut : laidOutB Try.prog = true := by kernel_rfl

theorem contract (H : Type) (enc : TypeId × Value → H) (W : World) (base : Nat) (args : Array Value) (ds gs : List (DataW H)) (before : List MemPlace)
    (hval : ∀ (j : Nat) t v, Try.f3.params[j]? = some t → args[j]? = some v → Value.okWide Try.prog W .any base t v)
    (hW : DataW.Whole enc Try.prog Try.f3.params.toList Rows.edgeLapsesSpec.vars false W args.toList ds gs before) (hk : Rows.uptoSmall H (ds ++ gs) = true) :
    Calls Try.prog 3 args W fun e W' => ∃ v, e = .returned v ∧ Rows.edgeLapsesSpec.post enc Try.prog Try.f3 false true false false W args v W' := by
  have hW' := hW
  obtain ⟨p, q, hA0, hV, rfl, hfz, hnd⟩ := hW
  have hA : DataW.TrodAll enc Try.prog W 0 (fun _ => true) true Try.f3.params.toList args.toList ds p := hA0
  rw [Try.params3] at hA hval
  obtain ⟨v0, vs0, d0, ds0, p0, q0, hargs, rfl, rfl, h0, r0⟩ := trodAll_cons hA
  obtain ⟨v1, vs1, d1, ds1, p1, q1, rfl, rfl, rfl, h1, r1⟩ := trodAll_cons r0
  obtain ⟨v2, vs2, d2, ds2, p2, q2, rfl, rfl, rfl, h2, r2⟩ := trodAll_cons r1
  obtain ⟨v3, vs3, d3, ds3, p3, q3, rfl, rfl, rfl, h3, r3⟩ := trodAll_cons r2
  obtain ⟨v4, vs4, d4, ds4, p4, q4, rfl, rfl, rfl, h4, r4⟩ := trodAll_cons r3
  obtain ⟨v5, vs5, d5, ds5, p5, q5, rfl, rfl, rfl, h5, r5⟩ := trodAll_cons r4
  obtain ⟨rfl, rfl, rfl⟩ := trodAll_nil r5
  obtain rfl : args = #[v0, v1, v2, v3, v4, v5] := by cases args; simp_all
  obtain ⟨rfl, rfl⟩ := trodVars_none hV
  have hB : Rows.uptoBulk d0 + Rows.uptoBulk d1 + Rows.uptoBulk d2 + Rows.uptoBulk d3 + Rows.uptoBulk d4 + Rows.uptoBulk d5 ≤ 1048576 := by
    have := of_decide_eq_true hk
    simp only [List.append_nil, Rows.uptoBulkAll] at this
    omega
  obtain ⟨u0, hf0⟩ := h0
  obtain ⟨a0, e0, w0, z0⟩ := (RdA.i64 (W := W) Try.underlying2) H enc _ _ _ hf0
  obtain ⟨u1, hf1⟩ := h1
  obtain ⟨a1, e1, w1, z1⟩ := (RdA.i64 (W := W) Try.underlying2) H enc _ _ _ hf1
  obtain ⟨u2, hf2⟩ := h2
  obtain ⟨a2, e2, w2, z2⟩ := (RdA.i64 (W := W) Try.underlying2) H enc _ _ _ hf2
  obtain ⟨u3, hf3⟩ := h3
  obtain ⟨a3, e3, w3, z3⟩ := (RdA.i64 (W := W) Try.underlying2) H enc _ _ _ hf3
  obtain ⟨u4, hf4⟩ := h4
  obtain ⟨a4, e4, w4, z4⟩ := (RdA.i64 (W := W) Try.underlying2) H enc _ _ _ hf4
  obtain ⟨u5, hf5⟩ := h5
  obtain ⟨a5, e5, w5, z5⟩ := (RdA.bool (W := W) Try.underlying4) H enc _ _ _ hf5
  try dsimp only at z0
  try dsimp only at z1
  try dsimp only at z2
  try dsimp only at z3
  try dsimp only at z4
  try dsimp only at z5
  obtain rfl := arg_int Try.underlying2 (hval 0 _ v0 rfl rfl) e0
  obtain rfl := arg_int Try.underlying2 (hval 1 _ v1 rfl rfl) e1
  obtain rfl := arg_int Try.underlying2 (hval 2 _ v2 rfl rfl) e2
  obtain rfl := arg_int Try.underlying2 (hval 3 _ v3 rfl rfl) e3
  obtain rfl := arg_int Try.underlying2 (hval 4 _ v4 rfl rfl) e4
  obtain rfl := arg_bool Try.underlying4 (hval 5 _ v5 rfl rfl) e5
  refine Calls.mono (edgeLapses_any w0 w1 w2 w3 w4) fun e W' he => ?_
  obtain ⟨v, rfl, rfl, hO⟩ := he
  exact ⟨_, rfl, law_post laidOut rfl (fun ds h => by
    rw [Try.params3] at h
    match ds, h with
    | [_, _, _, _, _, _], _ => rfl) rfl Try.underlying4 (by kernel_rfl) hW' (Own.below hO)⟩

set_option maxRecDepth 100000 in
theorem lifted (os : Os) (started : os.Started) (H : Type) (enc : TypeId × Value → H) (F : Stop.Interp) :
    ReturnsInHanded {} Try.checked os 3 .any ((Rows.OpenSpec.upto Rows.edgeLapsesSpec).pre6 enc Try.prog Try.f3 Rows.edgeLapsesUptoRow.domain false) (((Rows.OpenSpec.upto Rows.edgeLapsesSpec).at F).post enc Try.prog Try.f3 false true false false) := by
  refine returnsInHanded_of_cond (C := Try.checked) (s := Rows.OpenSpec.upto Rows.edgeLapsesSpec) (k := Rows.uptoSmall) rfl own started (by kernel_rfl) Try.func3
    (OpenSpec.witness (enc := enc) (C := Try.checked) (s := Rows.OpenSpec.upto Rows.edgeLapsesSpec) (k := Rows.uptoSmall) rfl false ⟨#[], #[.int .i64 0, .int .i64 0, .int .i64 0, .int .i64 0, .int .i64 0, .bool false], []⟩ 8 (by kernel_rfl) (by kernel_rfl) (by kernel_rfl)
      (x := ([.lit (.int .i64 0), .lit (.int .i64 0), .lit (.int .i64 0), .lit (.int .i64 0), .lit (.int .i64 0), .lit (.bool false)], [], [])) (by kernel_rfl) rfl (by kernel_rfl)) ?_
  intro W base args ds gs before hval hW _ hk _
  exact contract H enc W base args ds gs before hval hW hk

/-- EdgeLapses: proved. -/
theorem proved : Rows.EdgeLapsesUptoSaid :=
  OpenClaim.holds_of_cond 3 Try.f3 rfl rfl rfl rfl rfl rfl rfl ⟨rfl, rfl, rfl, rfl, rfl⟩ rfl rfl rfl rfl rfl (by kernel_rfl) Try.func3 (by kernel_rfl)
    (of_decide_eq_true (by kernel_rfl)) (by unfold Func.isWrapper; first | (rw [if_pos (by decide +kernel)]; kernel_rfl) | (rw [if_neg (by decide +kernel)]; exact ⟨rfl, rfl⟩))
    (fun os started H enc _ F => lifted os started H enc F)
end edgeLapses
end Go.Proofs.Ytgcmbdgimepnmaa
