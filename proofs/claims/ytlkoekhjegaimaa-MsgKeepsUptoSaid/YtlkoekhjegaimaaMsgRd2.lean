/-
  HOW messages are read.
-/
import Derived.Test.YtlkoekhjegaimaaMsgRd
import Derived.Test.YtlkoekhjegaimaaMsgD
set_option linter.unusedVariables false
set_option maxRecDepth 10000
namespace Go.Proofs.Ytlkoekhjegaimaa
open Go Go.Sc Go.Proofs Go.RowKit Go.ChangeShapes Go.WideShapes

theorem rdEnts (W : World) : RdA Try.prog W 59 (fun p : Value × List EntD => [p.1]) (fun p => Rd W [] (Res.sl p.1 p.2.length (p.2.flatMap EntD.cells)) ∧ ∀ a ∈ p.2, EntOk W a) (fun p => (p.2.map fun x => x.data.length + 1).sum + 1) :=
  (RdA.slice (sz := 5) Try.underlying59 (by kernel_rfl) (by decide) (fun _ => rfl) (rdEnt W)).map id (fun _ => rfl) (fun p h => ⟨Rd.of h.1, h.2⟩) (fun p _ => Nat.le_refl _)
structure MsgOk (W : World) (x : MsgD) : Prop where
  term : isU x.term
  index : isU x.index
  logTerm : isU x.logTerm
  commit : isU x.commit
  round : isU x.round
  each : ∀ a ∈ x.ents, EntOk W a
  rd : x.rd W []
theorem sum_ge (l : List EntD) : (l.map fun e => e.data.length).sum + l.length ≤ (l.map fun x => x.data.length + 1).sum := by
  induction l with
  | nil => simp
  | cons a l ih => simp only [List.map_cons, List.sum_cons, List.length_cons]; omega
theorem mem_sum {l : List EntD} {e : EntD} (h : e ∈ l) : e.data.length ≤ (l.map fun e => e.data.length).sum := by
  induction l with
  | nil => cases h
  | cons a l ih =>
    rcases List.mem_cons.1 h with rfl | h
    · simp
    · have := ih h; simp only [List.map_cons, List.sum_cons]; omega
theorem MsgOk.wf {W : World} {x : MsgD} (h : MsgOk W x) (hd : (x.ents.map fun x => x.data.length + 1).sum + x.conf.vs.length + x.conf.ls.length + x.data.length ≤ 1048576) : x.wf := by
  have h1 := sum_ge x.ents
  exact ⟨h.term, h.index, h.logTerm, h.commit, h.round, by omega, fun e he => (h.each e he).wf (by have := mem_sum he; omega), ⟨by omega, by omega⟩, ⟨by omega, by omega⟩, by omega, by omega⟩
theorem rdMsg (W : World) : RdA Try.prog W 97 MsgD.cells (MsgOk W) (fun x => (x.ents.map fun x => x.data.length + 1).sum + x.conf.vs.length + x.conf.ls.length + x.data.length) := by
  have h := RdA.struct (W := W) (tot := 14) Try.underlying97 (by kernel_rfl)
    (RdF.cons (sz := 1) rfl (by kernel_rfl) (RdA.i64 Try.underlying3) (RdF.cons (sz := 1) rfl (by kernel_rfl) (RdA.i64 Try.underlying3) (RdF.cons (sz := 1) rfl (by kernel_rfl) (RdA.i64 Try.underlying3)
      (RdF.cons (sz := 1) rfl (by kernel_rfl) (RdA.u64 Try.underlying22) (RdF.cons (sz := 1) rfl (by kernel_rfl) (RdA.u64 Try.underlying22) (RdF.cons (sz := 1) rfl (by kernel_rfl) (RdA.u64 Try.underlying22)
        (RdF.cons (sz := 1) rfl (by kernel_rfl) (RdA.u64 Try.underlying22) (RdF.cons (sz := 1) rfl (by kernel_rfl) (RdA.u64 Try.underlying22) (RdF.cons (sz := 1) rfl (by kernel_rfl) (RdA.bool Try.underlying4)
          (RdF.cons (sz := 1) rfl (by kernel_rfl) (rdEnts W) (RdF.cons (sz := 2) rfl (by kernel_rfl) (rdConf W) (RdF.cons (sz := 1) rfl (by kernel_rfl) (RdA.i64 Try.underlying3)
            (RdF.cons (sz := 1) rfl (by kernel_rfl) (rdBytes W) (RdF.nil rfl))))))))))))))
  exact h.map (fun p => ⟨p.1, p.2.1, p.2.2.1, p.2.2.2.1, p.2.2.2.2.1, p.2.2.2.2.2.1, p.2.2.2.2.2.2.1, p.2.2.2.2.2.2.2.1, p.2.2.2.2.2.2.2.2.1, p.2.2.2.2.2.2.2.2.2.1.1, p.2.2.2.2.2.2.2.2.2.1.2, p.2.2.2.2.2.2.2.2.2.2.1, p.2.2.2.2.2.2.2.2.2.2.2.1, p.2.2.2.2.2.2.2.2.2.2.2.2.1.1, p.2.2.2.2.2.2.2.2.2.2.2.2.1.2⟩)
    (fun _ => rfl)
    (fun _ h => ⟨h.2.2.2.1, h.2.2.2.2.1, h.2.2.2.2.2.1, h.2.2.2.2.2.2.1, h.2.2.2.2.2.2.2.1, h.2.2.2.2.2.2.2.2.2.1.2, ⟨h.2.2.2.2.2.2.2.2.2.1.1, fun p hp => (h.2.2.2.2.2.2.2.2.2.1.2 p hp).rd, h.2.2.2.2.2.2.2.2.2.2.1, h.2.2.2.2.2.2.2.2.2.2.2.2.1⟩⟩)
    (fun _ _ => by dsimp only; omega)
end Go.Proofs.Ytlkoekhjegaimaa
