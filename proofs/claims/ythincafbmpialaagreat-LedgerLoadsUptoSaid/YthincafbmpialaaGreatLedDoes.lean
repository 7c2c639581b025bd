import Derived.Test.YthincafbmpialaaGreatFwS
import Derived.Test.YthincafbmpialaaGreatLedL
set_option linter.unusedSectionVars false
set_option linter.unusedSimpArgs false
set_option linter.unusedVariables false
set_option maxRecDepth 10000
namespace Go.Proofs.YthincafbmpialaaGreat
open Go Go.Sc Go.Proofs Go.RowKit Go.ChangeShapes Go.WideShapes
theorem zKM {α : Type} (l : List α) : (l.map fun _ => 1).sum = l.length := by induction l <;> simp_all; omega
def zJ6 (W : World) (p : Value × List UInt8) : Prop := Rd W [] (Res.sl p.1 p.2.length (p.2.map vb))
theorem zGF (W : World) : RdA Tryz.prog W 52 (fun p : Value × List UInt8 => [p.1]) (zJ6 W) (fun p => p.2.length + 1) :=
  (RdA.slice (sz := 1) Tryz.underlying52 (by kernel_rfl) (by decide) (fun _ => rfl) (RdA.byte (W := W) Tryz.underlying5)).map id (fun _ => rfl) (fun p h => Rd.of (by have := h.1; rw [← zCp] at this; exact this)) (fun p _ => by rw [zKM]; exact Nat.le_refl _)
structure EntIn (W : World) (x : EntD) : Prop where
  index : x.index < 18446744073709551616
  term : x.term < 18446744073709551616
  delta : xY x.delta
  rd : x.rd W []
theorem EntIn.ok {W : World} {x : EntD} (h : EntIn W x) (hd : x.data.length ≤ 1048576) : EntOk x := ⟨⟨h.index, h.term, by omega⟩, h.delta⟩
theorem zNA (W : World) : RdA Tryz.prog W 57 EntD.cells (EntIn W) (fun x => x.data.length + 1) := by
  have h := RdA.struct (W := W) (tot := 5) Tryz.underlying57 (by kernel_rfl)
    (RdF.cons (sz := 1) rfl (by kernel_rfl) (RdA.u64 Tryz.underlying28) (RdF.cons (sz := 1) rfl (by kernel_rfl) (RdA.u64 Tryz.underlying28)
      (RdF.cons (sz := 1) rfl (by kernel_rfl) (RdA.i64 Tryz.underlying3) (RdF.cons (sz := 1) rfl (by kernel_rfl) (RdA.i64 Tryz.underlying2)
        (RdF.cons (sz := 1) rfl (by kernel_rfl) (zGF W) (RdF.nil rfl))))))
  exact h.map (fun p => ⟨⟨p.1, p.2.1, p.2.2.1, p.2.2.2.1, p.2.2.2.2.1.2⟩, p.2.2.2.2.1.1⟩) (fun _ => rfl) (fun _ h => ⟨h.1, h.2.1, h.2.2.2.1, ⟨h.2.2.2.2.1⟩⟩) (fun _ _ => by dsimp only; omega)
theorem zMC (W : World) : RdA Tryz.prog W 22 (fun p : Value × List EntD => [p.1]) (fun p => Rd W [] (Res.sl p.1 p.2.length (p.2.flatMap EntD.cells)) ∧ ∀ a ∈ p.2, EntIn W a) (fun p => (p.2.map fun x => x.data.length + 1).sum + 1) :=
  (RdA.slice (sz := 5) Tryz.underlying22 (by kernel_rfl) (by decide) (fun _ => rfl) (zNA W)).map id (fun _ => rfl) (fun p h => ⟨Rd.of h.1, h.2⟩) (fun p _ => Nat.le_refl _)
theorem zD4 {W : World} {l : List EntD} (h : ∀ a ∈ l, EntIn W a) (hd : (l.map fun x => x.data.length + 1).sum ≤ 1048576) : l.length ≤ 10000000 ∧ (∀ x ∈ l, EntOk x) ∧ ∀ p ∈ l, EntD.rd p W [] := by
  have key : ∀ l : List EntD, l.length ≤ (l.map fun x => x.data.length + 1).sum ∧ ∀ x ∈ l, x.data.length ≤ (l.map fun x => x.data.length + 1).sum := fun l => by
    induction l with
    | nil => simp
    | cons a l ih =>
      simp only [List.map_cons, List.sum_cons, List.length_cons]
      refine ⟨by omega, fun x hx => ?_⟩
      rcases List.mem_cons.1 hx with rfl | hx
      · omega
      · have := ih.2 x hx; omega
  exact ⟨by have := (key l).1; omega, fun x hx => (h x hx).ok (by have := (key l).2 x hx; omega), fun p hp => (h p hp).rd⟩
structure CmdIn (x : CmdD) : Prop where
  session : x.session < 18446744073709551616
  seq : x.seq < 18446744073709551616
  amount : xY x.amount
  span : xY x.span
  lease : x.lease < 18446744073709551616
theorem CmdIn.wf {x : CmdD} (h : CmdIn x) (hd : x.key.size ≤ 1048576) : x.wf := ⟨h.session, h.seq, hd, h.amount, h.span, h.lease⟩
instance : Inhabited CmdD := ⟨cmd1⟩
section
variable {now : Int} {cnt cnt' : Nat} {kb kb' : List (ByteArray × Int)} {kl kl' : List (Nat × LeaD)} {kr kr' : List (Nat × RepD)} {c : CmdD} {r s : RepD} {did : Bool}
theorem LSt.eqs {idx : Nat} {idx2 : Nat} {now2 : Int} {cnt2 : Nat} {bs : List BudD} {ls : List LeaD} {rs : List RepD} (h : LSt idx now cnt kb kl kr idx2 now2 cnt2 bs ls rs) (e : cnt' = cnt ∧ kb' = kb ∧ kl' = kl ∧ kr' = kr) : LSt idx now cnt' kb' kl' kr' idx2 now2 cnt2 bs ls rs := by
  obtain ⟨rfl, rfl, rfl, rfl⟩ := e; exact h
end
end Go.Proofs.YthincafbmpialaaGreat
