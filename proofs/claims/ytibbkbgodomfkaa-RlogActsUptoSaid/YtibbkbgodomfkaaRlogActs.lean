/-
  RlogActs is true of every input that is not greater than the statement's bound: the program returns, it returns true, and what came in reads as it did. Condition: the bulk that the statement names.
-/
import Derived.Test.YtibbkbgodomfkaaRlogRd
import Derived.Test.YtibbkbgodomfkaaRlogC
set_option linter.unusedVariables false
set_option maxRecDepth 10000
namespace Go.Proofs.Ytibbkbgodomfkaa
open Go Go.Sc Go.Proofs Go.RowKit Go.ChangeShapes Go.WideShapes

theorem rlogActs_any {index term : Nat} {av : Value} {acts : List ActD} {w : World} (h : ActsOk acts) (hav : Rd w [] (Res.sl av acts.length (acts.flatMap ActD.cells))) (hall : ∀ p ∈ acts, ActD.rd p w []) :
    Rets Try.prog 7 #[.int .u64 (index : Nat), .int .u64 (term : Nat), av] w fun u_ w' => u_ = .bool true ∧ Own w [] [] w' := by
  by_cases hi : index ≤ 4611686018427387904 ∧ term ≤ 4611686018427387904
  · exact rlogActs_s index term av acts w h.sum h.len h.each hi.1 hi.2 hav hall
  · exact rlogActsNil_s index term av acts w h.len hi hav hall
namespace rlogActs
theorem own : ownKnob Try.prog.godebug = none := by kernel_rfl
theorem laidOut : laidOutB Try.prog = true := by kernel_rfl

theorem contract (H : Type) (enc : TypeId × Value → H) (W : World) (base : Nat) (args : Array Value) (ds gs : List (DataW H)) (before : List MemPlace)
    (hval : ∀ (j : Nat) t v, Try.f7.params[j]? = some t → args[j]? = some v → Value.okWide Try.prog W .any base t v)
    (hW : DataW.Whole enc Try.prog Try.f7.params.toList Rows.rlogActsSpec.vars false W args.toList ds gs before) (hk : Rows.uptoSmall H (ds ++ gs) = true) :
    Calls Try.prog 7 args W fun e W' => ∃ v, e = .returned v ∧ Rows.rlogActsSpec.post enc Try.prog Try.f7 false true false false W args v W' := by
  have hW' := hW
  obtain ⟨p, q, hA0, hV, rfl, hfz, hnd⟩ := hW
  have hA : DataW.TrodAll enc Try.prog W 0 (fun _ => true) true Try.f7.params.toList args.toList ds p := hA0
  rw [Try.params7] at hA hval
  obtain ⟨v0, vs0, d0, ds0, p0, q0, hargs, rfl, rfl, h0, r0⟩ := trodAll_cons hA
  obtain ⟨v1, vs1, d1, ds1, p1, q1, rfl, rfl, rfl, h1, r1⟩ := trodAll_cons r0
  obtain ⟨v2, vs2, d2, ds2, p2, q2, rfl, rfl, rfl, h2, r2⟩ := trodAll_cons r1
  obtain ⟨rfl, rfl, rfl⟩ := trodAll_nil r2
  obtain rfl : args = #[v0, v1, v2] := by cases args; simp_all
  obtain ⟨rfl, rfl⟩ := trodVars_none hV
  have hB : Rows.uptoBulk d0 + Rows.uptoBulk d1 + Rows.uptoBulk d2 ≤ 1048576 := by
    have := of_decide_eq_true hk
    simp only [List.append_nil, Rows.uptoBulkAll] at this
    omega
  obtain ⟨u0, hf0⟩ := h0
  obtain ⟨a0, e0, w0, z0⟩ := (RdA.u64 (W := W) Try.underlying22) H enc _ _ _ hf0
  obtain ⟨u1, hf1⟩ := h1
  obtain ⟨a1, e1, w1, z1⟩ := (RdA.u64 (W := W) Try.underlying22) H enc _ _ _ hf1
  obtain ⟨u2, hf2⟩ := h2
  obtain ⟨a2, e2, w2, z2⟩ := (rdActs W) H enc _ _ _ hf2
  try dsimp only at z0
  try dsimp only at z1
  try dsimp only at z2
  obtain rfl := arg_int Try.underlying22 (hval 0 _ v0 rfl rfl) e0
  obtain rfl := arg_int Try.underlying22 (hval 1 _ v1 rfl rfl) e1
  obtain rfl := arg_slice Try.underlying31 (hval 2 _ v2 rfl rfl) e2
  refine Calls.mono (rlogActs_any (index := a0) (term := a1) (acts_ok w2.2 (by omega)) w2.1 (fun p hp => (w2.2 p hp).rd)) fun e W' he => ?_
  obtain ⟨v, rfl, rfl, hO⟩ := he
  exact ⟨_, rfl, law_post laidOut rfl (fun ds h => by
    rw [Try.params7] at h
    match ds, h with
    | [_, _, _], _ => rfl) rfl Try.underlying4 (by kernel_rfl) hW' (Own.below hO)⟩

set_option maxRecDepth 100000 in
theorem lifted (os : Os) (started : os.Started) (H : Type) (enc : TypeId × Value → H) (F : Stop.Interp) :
    ReturnsInHanded {} Try.checked os 7 .any ((Rows.OpenSpec.upto Rows.rlogActsSpec).pre6 enc Try.prog Try.f7 Rows.rlogActsUptoRow.domain false) (((Rows.OpenSpec.upto Rows.rlogActsSpec).at F).post enc Try.prog Try.f7 false true false false) := by
  refine returnsInHanded_of_cond (C := Try.checked) (s := Rows.OpenSpec.upto Rows.rlogActsSpec) (k := Rows.uptoSmall) rfl own started (by kernel_rfl) Try.func7
    (OpenSpec.witness (enc := enc) (C := Try.checked) (s := Rows.OpenSpec.upto Rows.rlogActsSpec) (k := Rows.uptoSmall) rfl false ⟨#[], #[.int .u64 0, .int .u64 0, .slice none 0 0], []⟩ 8 (by kernel_rfl) (by kernel_rfl) (by kernel_rfl)
      (x := ([.lit (.int .u64 0), .lit (.int .u64 0), .nil], [], [])) (by kernel_rfl) rfl (by kernel_rfl)) ?_
  intro W base args ds gs before hval hW _ hk _
  exact contract H enc W base args ds gs before hval hW hk

/-- RlogActs: proved. -/
theorem proved : Rows.RlogActsUptoSaid :=
  OpenClaim.holds_of_cond 7 Try.f7 rfl rfl rfl rfl rfl rfl rfl ⟨rfl, rfl, rfl, rfl, rfl⟩ rfl rfl rfl rfl rfl (by kernel_rfl) Try.func7 (by kernel_rfl)
    (of_decide_eq_true (by kernel_rfl)) (by unfold Func.isWrapper; first | (rw [if_pos (by decide +kernel)]; kernel_rfl) | (rw [if_neg (by decide +kernel)]; exact ⟨rfl, rfl⟩))
    (fun os started H enc _ F => lifted os started H enc F)
end rlogActs
end Go.Proofs.Ytibbkbgodomfkaa
