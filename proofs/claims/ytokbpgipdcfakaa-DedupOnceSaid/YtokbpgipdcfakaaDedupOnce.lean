/-
  DedupOnce is true of every input: the program returns, it returns true, and what came in reads as it did. No condition.
-/
import Derived.Test.YtokbpgipdcfakaaRead
import Derived.Test.YtokbpgipdcfakaaDedup5
set_option linter.unusedVariables false
set_option maxRecDepth 10000
namespace Go.Proofs.Ytokbpgipdcfakaa
open Go Go.Sc Go.Proofs Go.RowKit Go.ChangeShapes Go.WideShapes

theorem rdReply (W : World) : RdA Try.prog W 26 RepD.cells RepD.wf (fun _ => 1) := by
  have h := RdA.struct (W := W) (tot := 6) Try.underlying26 (by kernel_rfl)
    (RdF.cons (sz := 1) rfl (by kernel_rfl) (RdA.u64 Try.underlying23) (RdF.cons (sz := 1) rfl (by kernel_rfl) (RdA.u64 Try.underlying23)
      (RdF.cons (sz := 1) rfl (by kernel_rfl) (RdA.i64 Try.underlying24) (RdF.cons (sz := 1) rfl (by kernel_rfl) (RdA.u64 Try.underlying23)
        (RdF.cons (sz := 1) rfl (by kernel_rfl) (RdA.i64 Try.underlying2) (RdF.cons (sz := 1) rfl (by kernel_rfl) (RdA.i64 Try.underlying2) (RdF.nil rfl)))))))
  exact h.map (fun p => ⟨p.1, p.2.1, p.2.2.1, p.2.2.2.1, p.2.2.2.2.1, p.2.2.2.2.2.1⟩) (fun _ => rfl) (fun _ h => ⟨h.1, h.2.1, h.2.2.1, h.2.2.2.1, h.2.2.2.2.1, h.2.2.2.2.2.1⟩) (fun _ _ => by omega)
theorem rdAct (W : World) : RdA Try.prog W 44 ActD.cells (fun a => a.r.wf) (fun _ => 1) := by
  have h := RdA.struct (W := W) (tot := 7) Try.underlying44 (by kernel_rfl)
    (RdF.cons (sz := 1) rfl (by kernel_rfl) (RdA.i64 Try.underlying3) (RdF.cons (sz := 6) rfl (by kernel_rfl) (rdReply W) (RdF.nil rfl)))
  exact h.map (fun p => ⟨p.1, p.2.1⟩) (fun p => by show _ ++ (_ ++ _) = _; simp [ActD.cells]) (fun _ h => h.2.1) (fun _ _ => by omega)
theorem rdActs (W : World) : RdA Try.prog W 22 (fun p : Value × List ActD => [p.1]) (fun p => Sl W p.1 p.2.length (p.2.flatMap ActD.cells) ∧ ∀ a ∈ p.2, a.r.wf) (fun p => (p.2.map fun _ => 1).sum + 1) :=
  RdA.slice (sz := 7) Try.underlying22 (by kernel_rfl) (by decide) (fun _ => rfl) (rdAct W)

namespace dedupOnce
theorem own : ownKnob Try.prog.godebug = none := by kernel_rfl
theorem laidOut : laidOutB Try.prog = true := by kernel_rfl

theorem contract (H : Type) (enc : TypeId × Value → H) (W : World) (base : Nat) (args : Array Value) (ds gs : List (DataW H)) (before : List MemPlace)
    (hval : ∀ (j : Nat) t v, Try.f3.params[j]? = some t → args[j]? = some v → Value.okWide Try.prog W .any base t v)
    (hW : DataW.Whole enc Try.prog Try.f3.params.toList Rows.dedupOnceSpec.vars false W args.toList ds gs before) :
    Calls Try.prog 3 args W fun e W' => ∃ v, e = .returned v ∧ Rows.dedupOnceSpec.post enc Try.prog Try.f3 false true false false W args v W' := by
  have hW' := hW
  obtain ⟨p, q, hA0, hV, rfl, hfz, hnd⟩ := hW
  have hA : DataW.TrodAll enc Try.prog W 0 (fun _ => true) true Try.f3.params.toList args.toList ds p := hA0
  rw [Try.params3] at hA hval
  obtain ⟨v0, vs0, d0, ds0, p0, q0, hargs, rfl, rfl, h0, r0⟩ := trodAll_cons hA
  obtain ⟨v1, vs1, d1, ds1, p1, q1, rfl, rfl, rfl, h1, r1⟩ := trodAll_cons r0
  obtain ⟨v2, vs2, d2, ds2, p2, q2, rfl, rfl, rfl, h2, r2⟩ := trodAll_cons r1
  obtain ⟨v3, vs3, d3, ds3, p3, q3, rfl, rfl, rfl, h3, r3⟩ := trodAll_cons r2
  obtain ⟨rfl, rfl, rfl⟩ := trodAll_nil r3
  obtain rfl : args = #[v0, v1, v2, v3] := by cases args; simp_all
  obtain ⟨rfl, rfl⟩ := trodVars_none hV
  obtain ⟨u0, hf0⟩ := h0
  obtain ⟨a0, e0, w0, z0⟩ := (rdActs W) H enc _ _ _ hf0
  obtain ⟨u1, hf1⟩ := h1
  obtain ⟨a1, e1, w1, z1⟩ := (rdReply W) H enc _ _ _ hf1
  obtain ⟨u2, hf2⟩ := h2
  obtain ⟨a2, e2, w2, z2⟩ := (rdReply W) H enc _ _ _ hf2
  obtain ⟨u3, hf3⟩ := h3
  obtain ⟨a3, e3, w3, z3⟩ := (RdA.u64 (W := W) Try.underlying23) H enc _ _ _ hf3
  obtain rfl := arg_slice Try.underlying22 (hval 0 _ v0 rfl rfl) e0
  obtain rfl := arg_struct Try.underlying26 (hval 1 _ v1 rfl rfl) e1
  obtain rfl := arg_struct Try.underlying26 (hval 2 _ v2 rfl rfl) e2
  obtain rfl := arg_int Try.underlying23 (hval 3 _ v3 rfl rfl) e3
  refine Calls.mono (dedupOnce_spec a0.1 a0.2 w0.2 a1 a2 w1 w2 a3 W w0.1) fun e W' he => ?_
  obtain ⟨v, rfl, rfl, hO⟩ := he
  exact ⟨_, rfl, law_post laidOut rfl (fun ds h => by
    rw [Try.params3] at h
    match ds, h with
    | [_, _, _, _], _ => rfl) rfl Try.underlying4 (by kernel_rfl) hW' (Own.below hO)⟩

set_option maxRecDepth 100000 in
theorem lifted (os : Os) (started : os.Started) (H : Type) (enc : TypeId × Value → H) :
    ReturnsInHanded {} Try.checked os 3 .any (Rows.dedupOnceSpec.pre6 enc Try.prog Try.f3 Rows.dedupOnceRow.domain false) (Rows.dedupOnceSpec.post enc Try.prog Try.f3 false true false false) := by
  refine returnsInHanded_of_change (C := Try.checked) own started (by kernel_rfl) Try.func3
    (ChangeSpec.witness6 (enc := enc) (C := Try.checked) false ⟨#[], #[.slice none 0 0, .agg #[.int .u64 0, .int .u64 0, .int .i64 0, .int .u64 0, .int .i64 0, .int .i64 0], .agg #[.int .u64 0, .int .u64 0, .int .i64 0, .int .u64 0, .int .i64 0, .int .i64 0], .int .u64 0], []⟩ 8 (by kernel_rfl) (by kernel_rfl) (by kernel_rfl) (by kernel_rfl)) ?_
  intro W base args ds gs before hval hW _ _
  exact contract H enc W base args ds gs before hval hW

/-- DedupOnce: proved. -/
theorem proved : Rows.DedupOnceSaid :=
  OpenClaim.holds_of_wide 3 Try.f3 rfl rfl rfl rfl rfl rfl rfl ⟨rfl, rfl, rfl, rfl, rfl⟩ rfl rfl rfl rfl rfl (by kernel_rfl) Try.func3 (by kernel_rfl)
    (of_decide_eq_true (by kernel_rfl)) (by unfold Func.isWrapper; first | (rw [if_pos (by decide +kernel)]; kernel_rfl) | (rw [if_neg (by decide +kernel)]; exact ⟨rfl, rfl⟩))
    (fun os started H enc _ => lifted os started H enc)
end dedupOnce
end Go.Proofs.Ytokbpgipdcfakaa
