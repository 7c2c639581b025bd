/-
  HOW what is done to an edge is read.
-/
import Derived.Test.YtgcmbdgimepnmaaGreatRead
import Derived.Test.YtgcmbdgimepnmaaGreatEdL
set_option linter.unusedVariables false
set_option maxRecDepth 10000
namespace Go.Proofs.YtgcmbdgimepnmaaGreat
open Go Go.Sc Go.Proofs Go.RowKit Go.ChangeShapes Go.WideShapes

theorem sum_one {α : Type} (l : List α) : (l.map fun _ => 1).sum = l.length := by induction l <;> simp_all; omega
def BytesWf (W : World) (p : Value × List UInt8) : Prop := Rd W [] (Res.sl p.1 p.2.length (p.2.map vb))
theorem rdBytes (W : World) : RdA Tryz.prog W 39 (fun p : Value × List UInt8 => [p.1]) (BytesWf W) (fun p => p.2.length + 1) :=
  (RdA.slice (sz := 1) Tryz.underlying39 (by kernel_rfl) (by decide) (fun _ => rfl) (RdA.byte (W := W) Tryz.underlying5)).map id (fun _ => rfl) (fun p h => Rd.of (by have := h.1; rw [← map_flat] at this; exact this)) (fun p _ => by rw [sum_one]; exact Nat.le_refl _)
theorem rdReply (W : World) : RdA Tryz.prog W 26 RepD.cells RepD.wf (fun _ => 1) := by
  have h := RdA.struct (W := W) (tot := 6) Tryz.underlying26 (by kernel_rfl)
    (RdF.cons (sz := 1) rfl (by kernel_rfl) (RdA.u64 Tryz.underlying23) (RdF.cons (sz := 1) rfl (by kernel_rfl) (RdA.u64 Tryz.underlying23)
      (RdF.cons (sz := 1) rfl (by kernel_rfl) (RdA.i64 Tryz.underlying24) (RdF.cons (sz := 1) rfl (by kernel_rfl) (RdA.u64 Tryz.underlying23)
        (RdF.cons (sz := 1) rfl (by kernel_rfl) (RdA.i64 Tryz.underlying2) (RdF.cons (sz := 1) rfl (by kernel_rfl) (RdA.i64 Tryz.underlying2) (RdF.nil rfl)))))))
  exact h.map (fun p => ⟨p.1, p.2.1, p.2.2.1, p.2.2.2.1, p.2.2.2.2.1, p.2.2.2.2.2.1⟩) (fun _ => rfl) (fun _ h => ⟨h.1, h.2.1, h.2.2.2.1, h.2.2.2.2.1, h.2.2.2.2.2.1⟩) (fun _ _ => by omega)
structure CmdOk (x : CmdD) : Prop where
  session : x.session < 18446744073709551616
  seq : x.seq < 18446744073709551616
  amount : isI x.amount
  span : isI x.span
  lease : x.lease < 18446744073709551616
theorem rdCmd (W : World) : RdA Tryz.prog W 38 CmdD.cells CmdOk (fun x => x.key.size + 1) := by
  have h := RdA.struct (W := W) (tot := 7) Tryz.underlying38 (by kernel_rfl)
    (RdF.cons (sz := 1) rfl (by kernel_rfl) (RdA.u64 Tryz.underlying23) (RdF.cons (sz := 1) rfl (by kernel_rfl) (RdA.u64 Tryz.underlying23)
      (RdF.cons (sz := 1) rfl (by kernel_rfl) (RdA.i64 Tryz.underlying3) (RdF.cons (sz := 1) rfl (by kernel_rfl) (RdA.str Tryz.underlying9)
        (RdF.cons (sz := 1) rfl (by kernel_rfl) (RdA.i64 Tryz.underlying2) (RdF.cons (sz := 1) rfl (by kernel_rfl) (RdA.i64 Tryz.underlying2)
          (RdF.cons (sz := 1) rfl (by kernel_rfl) (RdA.u64 Tryz.underlying23) (RdF.nil rfl))))))))
  exact h.map (fun p => ⟨p.1, p.2.1, p.2.2.1, p.2.2.2.1, p.2.2.2.2.1, p.2.2.2.2.2.1, p.2.2.2.2.2.2.1⟩) (fun _ => rfl) (fun _ h => ⟨h.1, h.2.1, h.2.2.2.2.1, h.2.2.2.2.2.1, h.2.2.2.2.2.2.1⟩) (fun _ _ => by first | omega | (dsimp only; omega))
theorem rdTold (W : World) : RdA Tryz.prog W 28 TldD.cells TldD.wf (fun _ => 1) := by
  have h := RdA.struct (W := W) (tot := 11) Tryz.underlying28 (by kernel_rfl)
    (RdF.cons (sz := 1) rfl (by kernel_rfl) (RdA.u64 Tryz.underlying23) (RdF.cons (sz := 1) rfl (by kernel_rfl) (RdA.bool Tryz.underlying4)
      (RdF.cons (sz := 1) rfl (by kernel_rfl) (RdA.i64 Tryz.underlying3) (RdF.cons (sz := 6) rfl (by kernel_rfl) (rdReply W)
        (RdF.cons (sz := 1) rfl (by kernel_rfl) (RdA.i64 Tryz.underlying2) (RdF.cons (sz := 1) rfl (by kernel_rfl) (RdA.i64 Tryz.underlying2) (RdF.nil rfl)))))))
  exact h.map (fun p => ⟨p.1, p.2.1, p.2.2.1, p.2.2.2.1, p.2.2.2.2.1, p.2.2.2.2.2.1⟩) (fun p => by show _ ++ (_ ++ (_ ++ (_ ++ _))) = _; simp [TldD.cells]) (fun _ h => ⟨h.1, h.2.2.2.1, h.2.2.2.2.1, h.2.2.2.2.2.1⟩) (fun _ _ => by first | omega | (dsimp only; omega))
structure EActOk (W : World) (x : EActD) : Prop where
  cmd : CmdOk x.cmd
  told : x.told.wf
  t : isI x.t
  rd : x.rd W []
def EActD.sz (x : EActD) : Nat := x.cmd.key.size + x.key.size + x.data.length + 1
theorem rdEAct (W : World) : RdA Tryz.prog W 41 EActD.cells (EActOk W) EActD.sz := by
  have h := RdA.struct (W := W) (tot := 28) Tryz.underlying41 (by kernel_rfl)
    (RdF.cons (sz := 1) rfl (by kernel_rfl) (RdA.i64 Tryz.underlying3) (RdF.cons (sz := 1) rfl (by kernel_rfl) (RdA.i64 Tryz.underlying3)
      (RdF.cons (sz := 1) rfl (by kernel_rfl) (RdA.i64 Tryz.underlying3) (RdF.cons (sz := 1) rfl (by kernel_rfl) (RdA.i64 Tryz.underlying2)
        (RdF.cons (sz := 1) rfl (by kernel_rfl) (RdA.i64 Tryz.underlying2) (RdF.cons (sz := 7) rfl (by kernel_rfl) (rdCmd W)
          (RdF.cons (sz := 1) rfl (by kernel_rfl) (RdA.str Tryz.underlying9) (RdF.cons (sz := 1) rfl (by kernel_rfl) (RdA.bool Tryz.underlying4)
            (RdF.cons (sz := 1) rfl (by kernel_rfl) (RdA.bool Tryz.underlying4) (RdF.cons (sz := 1) rfl (by kernel_rfl) (RdA.bool Tryz.underlying4)
              (RdF.cons (sz := 11) rfl (by kernel_rfl) (rdTold W) (RdF.cons (sz := 1) rfl (by kernel_rfl) (rdBytes W) (RdF.nil rfl)))))))))))))
  exact h.map (fun p => ⟨p.1, p.2.1, p.2.2.1, p.2.2.2.1, p.2.2.2.2.1, p.2.2.2.2.2.1, p.2.2.2.2.2.2.1, p.2.2.2.2.2.2.2.1, p.2.2.2.2.2.2.2.2.1, p.2.2.2.2.2.2.2.2.2.1, p.2.2.2.2.2.2.2.2.2.2.1, p.2.2.2.2.2.2.2.2.2.2.2.1.1, p.2.2.2.2.2.2.2.2.2.2.2.1.2⟩) (fun p => by show _ ++ (_ ++ (_ ++ (_ ++ (_ ++ (_ ++ (_ ++ (_ ++ (_ ++ (_ ++ (_ ++ (_ ++ _))))))))))) = _; simp [EActD.cells]) (fun _ h => ⟨h.2.2.2.2.2.1, h.2.2.2.2.2.2.2.2.2.2.1, h.2.2.2.1, ⟨h.2.2.2.2.2.2.2.2.2.2.2.1⟩⟩) (fun _ _ => by unfold EActD.sz; dsimp only; omega)
theorem rdEActs (W : World) : RdA Tryz.prog W 22 (fun p : Value × List EActD => [p.1]) (fun p => Rd W [] (Res.sl p.1 p.2.length (p.2.flatMap EActD.cells)) ∧ ∀ a ∈ p.2, EActOk W a) (fun p => (p.2.map EActD.sz).sum + 1) :=
  (RdA.slice (sz := 28) Tryz.underlying22 (by kernel_rfl) (by decide) (fun _ => rfl) (rdEAct W)).map id (fun _ => rfl) (fun p h => ⟨Rd.of h.1, h.2⟩) (fun p _ => Nat.le_refl _)
theorem eact_le {l : List EActD} {a : EActD} (h : a ∈ l) : a.sz ≤ (l.map EActD.sz).sum := by
  induction l with
  | nil => cases h
  | cons b l ih =>
    rcases List.mem_cons.1 h with rfl | h
    · simp
    · have := ih h; simp only [List.map_cons, List.sum_cons]; omega
theorem eacts_len (l : List EActD) : l.length ≤ (l.map EActD.sz).sum := by
  induction l with
  | nil => simp
  | cons a l ih => simp only [List.map_cons, List.sum_cons, List.length_cons, EActD.sz] at *; omega
theorem eacts_wf {W : World} {l : List EActD} (h : ∀ a ∈ l, EActOk W a) (hd : (l.map EActD.sz).sum ≤ 1048576) : ∀ a ∈ l, a.wf := fun a ha => by
  have h1 := h a ha
  have h2 := eact_le ha
  have h3 : a.sz = a.cmd.key.size + a.key.size + a.data.length + 1 := rfl
  exact ⟨⟨h1.cmd.session, h1.cmd.seq, by omega, h1.cmd.amount, h1.cmd.span, h1.cmd.lease⟩, by omega, h1.told, by omega, h1.t⟩
end Go.Proofs.YtgcmbdgimepnmaaGreat
