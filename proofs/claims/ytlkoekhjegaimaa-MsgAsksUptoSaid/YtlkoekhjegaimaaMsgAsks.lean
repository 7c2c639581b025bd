/-
  MsgAsks is true of every input that is not greater than the statement's bound: the program returns, it returns true, and what came in reads as it did. Condition: the bulk that the statement names.
-/
import Derived.Test.YtlkoekhjegaimaaRead
import Derived.Test.YtlkoekhjegaimaaAsks
set_option linter.unusedVariables false
set_option maxRecDepth 10000
namespace Go.Proofs.Ytlkoekhjegaimaa
open Go Go.Sc Go.Proofs Go.RowKit Go.ChangeShapes Go.WideShapes

theorem rdReply (W : World) : RdA Try.prog W 27 RepD.cells RepD.wf (fun _ => 1) := by
  have h := RdA.struct (W := W) (tot := 6) Try.underlying27 (by kernel_rfl)
    (RdF.cons (sz := 1) rfl (by kernel_rfl) (RdA.u64 Try.underlying22) (RdF.cons (sz := 1) rfl (by kernel_rfl) (RdA.u64 Try.underlying22)
      (RdF.cons (sz := 1) rfl (by kernel_rfl) (RdA.i64 Try.underlying25) (RdF.cons (sz := 1) rfl (by kernel_rfl) (RdA.u64 Try.underlying22)
        (RdF.cons (sz := 1) rfl (by kernel_rfl) (RdA.i64 Try.underlying2) (RdF.cons (sz := 1) rfl (by kernel_rfl) (RdA.i64 Try.underlying2) (RdF.nil rfl)))))))
  exact h.map (fun p => ⟨p.1, p.2.1, p.2.2.1, p.2.2.2.1, p.2.2.2.2.1, p.2.2.2.2.2.1⟩) (fun _ => rfl) (fun _ h => ⟨h.1, h.2.1, h.2.2.1, h.2.2.2.1, h.2.2.2.2.1, h.2.2.2.2.2.1⟩) (fun _ _ => by omega)
/-- All but the key's length. -/
structure CmdD.wf0 (x : CmdD) : Prop where
  session : isU x.session
  seq : isU x.seq
  op : isI x.op
  amount : isI x.amount
  span : isI x.span
  lease : isU x.lease
theorem CmdD.wf0.wf {x : CmdD} (h : x.wf0) (hk : x.key.size ≤ 1048576) : x.wf := ⟨h.session, h.seq, h.op, hk, h.amount, h.span, h.lease⟩
theorem rdCmd (W : World) : RdA Try.prog W 24 CmdD.cells CmdD.wf0 (fun x => x.key.size + 1) := by
  have h := RdA.struct (W := W) (tot := 7) Try.underlying24 (by kernel_rfl)
    (RdF.cons (sz := 1) rfl (by kernel_rfl) (RdA.u64 Try.underlying22) (RdF.cons (sz := 1) rfl (by kernel_rfl) (RdA.u64 Try.underlying22)
      (RdF.cons (sz := 1) rfl (by kernel_rfl) (RdA.i64 Try.underlying3) (RdF.cons (sz := 1) rfl (by kernel_rfl) (RdA.str Try.underlying9)
        (RdF.cons (sz := 1) rfl (by kernel_rfl) (RdA.i64 Try.underlying2) (RdF.cons (sz := 1) rfl (by kernel_rfl) (RdA.i64 Try.underlying2) (RdF.cons (sz := 1) rfl (by kernel_rfl) (RdA.u64 Try.underlying22) (RdF.nil rfl))))))))
  exact h.map (fun p => ⟨p.1, p.2.1, p.2.2.1, p.2.2.2.1, p.2.2.2.2.1, p.2.2.2.2.2.1, p.2.2.2.2.2.2.1⟩) (fun _ => rfl) (fun _ h => ⟨h.1, h.2.1, h.2.2.1, h.2.2.2.2.1, h.2.2.2.2.2.1, h.2.2.2.2.2.2.1⟩) (fun _ _ => by dsimp only; omega)
structure AskD.wf0 (x : AskD) : Prop where
  seq : isU x.seq
  cmd : x.cmd.wf0
theorem AskD.wf0.wf {x : AskD} (h : x.wf0) (hk : x.cmd.key.size + x.key.size ≤ 1048576) : x.wf := ⟨h.seq, h.cmd.wf (by omega), by omega⟩
theorem rdAsk (W : World) : RdA Try.prog W 29 AskD.cells AskD.wf0 (fun x => x.cmd.key.size + x.key.size + 1) := by
  have h := RdA.struct (W := W) (tot := 11) Try.underlying29 (by kernel_rfl)
    (RdF.cons (sz := 1) rfl (by kernel_rfl) (RdA.bool Try.underlying4) (RdF.cons (sz := 1) rfl (by kernel_rfl) (RdA.bool Try.underlying4)
      (RdF.cons (sz := 1) rfl (by kernel_rfl) (RdA.u64 Try.underlying22) (RdF.cons (sz := 7) rfl (by kernel_rfl) (rdCmd W)
        (RdF.cons (sz := 1) rfl (by kernel_rfl) (RdA.str Try.underlying9) (RdF.nil rfl))))))
  exact h.map (fun p => ⟨p.1, p.2.1, p.2.2.1, p.2.2.2.1, p.2.2.2.2.1⟩) (fun _ => rfl) (fun _ h => ⟨h.2.2.1, h.2.2.2.1⟩) (fun _ _ => by dsimp only; omega)
theorem rdTold (W : World) : RdA Try.prog W 31 TldD.cells TldD.wf (fun _ => 1) := by
  have h := RdA.struct (W := W) (tot := 11) Try.underlying31 (by kernel_rfl)
    (RdF.cons (sz := 1) rfl (by kernel_rfl) (RdA.u64 Try.underlying22) (RdF.cons (sz := 1) rfl (by kernel_rfl) (RdA.bool Try.underlying4)
      (RdF.cons (sz := 1) rfl (by kernel_rfl) (RdA.i64 Try.underlying3) (RdF.cons (sz := 6) rfl (by kernel_rfl) (rdReply W)
        (RdF.cons (sz := 1) rfl (by kernel_rfl) (RdA.i64 Try.underlying2) (RdF.cons (sz := 1) rfl (by kernel_rfl) (RdA.i64 Try.underlying2) (RdF.nil rfl)))))))
  exact h.map (fun p => ⟨p.1, p.2.1, p.2.2.1, p.2.2.2.1, p.2.2.2.2.1, p.2.2.2.2.2.1⟩) (fun _ => rfl) (fun _ h => ⟨h.1, h.2.2.1, h.2.2.2.1, h.2.2.2.2.1, h.2.2.2.2.2.1⟩) (fun _ _ => by omega)

namespace msgAsks
theorem own : ownKnob Try.prog.godebug = none := by kernel_rfl
theorem laidOut : laidOutB Try.prog = true := by kernel_rfl

theorem contract (H : Type) (enc : TypeId × Value → H) (W : World) (base : Nat) (args : Array Value) (ds gs : List (DataW H)) (before : List MemPlace)
    (hval : ∀ (j : Nat) t v, Try.f3.params[j]? = some t → args[j]? = some v → Value.okWide Try.prog W .any base t v)
    (hW : DataW.Whole enc Try.prog Try.f3.params.toList Rows.msgAsksSpec.vars false W args.toList ds gs before) (hk : Rows.uptoSmall H (ds ++ gs) = true) :
    Calls Try.prog 3 args W fun e W' => ∃ v, e = .returned v ∧ Rows.msgAsksSpec.post enc Try.prog Try.f3 false true false false W args v W' := by
  have hW' := hW
  obtain ⟨p, q, hA0, hV, rfl, hfz, hnd⟩ := hW
  have hA : DataW.TrodAll enc Try.prog W 0 (fun _ => true) true Try.f3.params.toList args.toList ds p := hA0
  rw [Try.params3] at hA hval
  obtain ⟨v0, vs0, d0, ds0, p0, q0, hargs, rfl, rfl, h0, r0⟩ := trodAll_cons hA
  obtain ⟨v1, vs1, d1, ds1, p1, q1, rfl, rfl, rfl, h1, r1⟩ := trodAll_cons r0
  obtain ⟨v2, vs2, d2, ds2, p2, q2, rfl, rfl, rfl, h2, r2⟩ := trodAll_cons r1
  obtain ⟨v3, vs3, d3, ds3, p3, q3, rfl, rfl, rfl, h3, r3⟩ := trodAll_cons r2
  obtain ⟨rfl, rfl, rfl⟩ := trodAll_nil r3
  obtain rfl : args = #[v0, v1, v2, v3] := by cases args; simp_all
  obtain ⟨rfl, rfl⟩ := trodVars_none hV
  have hB : Rows.uptoBulk d0 + Rows.uptoBulk d1 + Rows.uptoBulk d2 + Rows.uptoBulk d3 ≤ 1048576 := by
    have := of_decide_eq_true hk
    simp only [List.append_nil, Rows.uptoBulkAll] at this
    omega
  obtain ⟨u0, hf0⟩ := h0
  obtain ⟨a0, e0, w0, z0⟩ := (rdCmd W) H enc _ _ _ hf0
  obtain ⟨u1, hf1⟩ := h1
  obtain ⟨a1, e1, w1, z1⟩ := (rdReply W) H enc _ _ _ hf1
  obtain ⟨u2, hf2⟩ := h2
  obtain ⟨a2, e2, w2, z2⟩ := (rdAsk W) H enc _ _ _ hf2
  obtain ⟨u3, hf3⟩ := h3
  obtain ⟨a3, e3, w3, z3⟩ := (rdTold W) H enc _ _ _ hf3
  try dsimp only at z0
  try dsimp only at z1
  try dsimp only at z2
  try dsimp only at z3
  obtain rfl := arg_struct Try.underlying24 (hval 0 _ v0 rfl rfl) e0
  obtain rfl := arg_struct Try.underlying27 (hval 1 _ v1 rfl rfl) e1
  obtain rfl := arg_struct Try.underlying29 (hval 2 _ v2 rfl rfl) e2
  obtain rfl := arg_struct Try.underlying31 (hval 3 _ v3 rfl rfl) e3
  refine Calls.mono (msgAsks_spec a0 a1 a2 a3 (w0.wf (by omega)) w1 (w2.wf (by omega)) w3 W) fun e W' he => ?_
  obtain ⟨v, rfl, rfl, hO⟩ := he
  exact ⟨_, rfl, law_post laidOut rfl (fun ds h => by
    rw [Try.params3] at h
    match ds, h with
    | [_, _, _, _], _ => rfl) rfl Try.underlying4 (by kernel_rfl) hW' (Own.below hO)⟩

set_option maxRecDepth 100000 in
theorem lifted (os : Os) (started : os.Started) (H : Type) (enc : TypeId × Value → H) (F : Stop.Interp) :
    ReturnsInHanded {} Try.checked os 3 .any ((Rows.OpenSpec.upto Rows.msgAsksSpec).pre6 enc Try.prog Try.f3 Rows.msgAsksUptoRow.domain false) (((Rows.OpenSpec.upto Rows.msgAsksSpec).at F).post enc Try.prog Try.f3 false true false false) := by
  refine returnsInHanded_of_cond (C := Try.checked) (s := Rows.OpenSpec.upto Rows.msgAsksSpec) (k := Rows.uptoSmall) rfl own started (by kernel_rfl) Try.func3
    (OpenSpec.witness (enc := enc) (C := Try.checked) (s := Rows.OpenSpec.upto Rows.msgAsksSpec) (k := Rows.uptoSmall) rfl false ⟨#[], #[.agg #[.int .u64 0, .int .u64 0, .int .i64 0, .string .empty, .int .i64 0, .int .i64 0, .int .u64 0], .agg #[.int .u64 0, .int .u64 0, .int .i64 0, .int .u64 0, .int .i64 0, .int .i64 0], .agg #[.bool false, .bool false, .int .u64 0, .int .u64 0, .int .u64 0, .int .i64 0, .string .empty, .int .i64 0, .int .i64 0, .int .u64 0, .string .empty], .agg #[.int .u64 0, .bool false, .int .i64 0, .int .u64 0, .int .u64 0, .int .i64 0, .int .u64 0, .int .i64 0, .int .i64 0, .int .i64 0, .int .i64 0]], []⟩ 8 (by kernel_rfl) (by kernel_rfl) (by kernel_rfl)
      (x := ([.agg [.lit (.int .u64 0), .lit (.int .u64 0), .lit (.int .i64 0), .lit (.string []), .lit (.int .i64 0), .lit (.int .i64 0), .lit (.int .u64 0)], .agg [.lit (.int .u64 0), .lit (.int .u64 0), .lit (.int .i64 0), .lit (.int .u64 0), .lit (.int .i64 0), .lit (.int .i64 0)], .agg [.lit (.bool false), .lit (.bool false), .lit (.int .u64 0), .agg [.lit (.int .u64 0), .lit (.int .u64 0), .lit (.int .i64 0), .lit (.string []), .lit (.int .i64 0), .lit (.int .i64 0), .lit (.int .u64 0)], .lit (.string [])], .agg [.lit (.int .u64 0), .lit (.bool false), .lit (.int .i64 0), .agg [.lit (.int .u64 0), .lit (.int .u64 0), .lit (.int .i64 0), .lit (.int .u64 0), .lit (.int .i64 0), .lit (.int .i64 0)], .lit (.int .i64 0), .lit (.int .i64 0)]], [], [])) (by kernel_rfl) rfl (by kernel_rfl)) ?_
  intro W base args ds gs before hval hW _ hk _
  exact contract H enc W base args ds gs before hval hW hk

/-- MsgAsks: proved. -/
theorem proved : Rows.MsgAsksUptoSaid :=
  OpenClaim.holds_of_cond 3 Try.f3 rfl rfl rfl rfl rfl rfl rfl ⟨rfl, rfl, rfl, rfl, rfl⟩ rfl rfl rfl rfl rfl (by kernel_rfl) Try.func3 (by kernel_rfl)
    (of_decide_eq_true (by kernel_rfl)) (by unfold Func.isWrapper; first | (rw [if_pos (by decide +kernel)]; kernel_rfl) | (rw [if_neg (by decide +kernel)]; exact ⟨rfl, rfl⟩))
    (fun os started H enc _ F => lifted os started H enc F)
end msgAsks
end Go.Proofs.Ytlkoekhjegaimaa
