/-
  HOW bytes, entries, configurations, snapshots, terms and votes are read.
-/
import Derived.Test.YtlkoekhjegaimaaGreatRead
import Derived.Test.YtlkoekhjegaimaaGreatEnc2
set_option linter.unusedVariables false
set_option maxRecDepth 10000
namespace Go.Proofs.YtlkoekhjegaimaaGreat
open Go Go.Sc Go.Proofs Go.RowKit Go.ChangeShapes Go.WideShapes

def IntsWf (W : World) (p : Value × List Int) : Prop := Rd W [] (Res.sl p.1 p.2.length (p.2.flatMap I1))
theorem sum_one {α : Type} (l : List α) : (l.map fun _ => 1).sum = l.length := by induction l <;> simp_all; omega
theorem rdInts (W : World) : RdA Tryz.prog W 25 (fun p : Value × List Int => [p.1]) (IntsWf W) (fun p => p.2.length + 1) :=
  (RdA.slice (sz := 1) Tryz.underlying25 (by kernel_rfl) (by decide) (fun _ => rfl) (RdA.i64 (W := W) Tryz.underlying3)).map id (fun _ => rfl) (fun p h => Rd.of h.1) (fun p _ => by rw [sum_one]; exact Nat.le_refl _)
theorem rdConf (W : World) : RdA Tryz.prog W 27 ConfD.cells (fun c => c.rd W []) (fun c => c.vs.length + c.ls.length) := by
  have h := RdA.struct (W := W) (tot := 2) Tryz.underlying27 (by kernel_rfl)
    (RdF.cons (sz := 1) rfl (by kernel_rfl) (rdInts W) (RdF.cons (sz := 1) rfl (by kernel_rfl) (rdInts W) (RdF.nil rfl)))
  exact h.map (fun p => ⟨p.1.1, p.1.2, p.2.1.1, p.2.1.2⟩) (fun _ => rfl) (fun _ h => ⟨h.1, h.2.1⟩) (fun _ _ => by dsimp only; omega)
def BytesWf (W : World) (p : Value × List UInt8) : Prop := Rd W [] (Res.sl p.1 p.2.length (p.2.map vb))
theorem rdBytes (W : World) : RdA Tryz.prog W 22 (fun p : Value × List UInt8 => [p.1]) (BytesWf W) (fun p => p.2.length + 1) :=
  (RdA.slice (sz := 1) Tryz.underlying22 (by kernel_rfl) (by decide) (fun _ => rfl) (RdA.byte (W := W) Tryz.underlying5)).map id (fun _ => rfl) (fun p h => Rd.of (by have := h.1; rw [← map_flat] at this; exact this)) (fun p _ => by rw [sum_one]; exact Nat.le_refl _)
structure EntOk (W : World) (x : EntD) : Prop where
  index : isU x.index
  term : isU x.term
  rd : x.rd W []
theorem EntOk.wf {W : World} {x : EntD} (h : EntOk W x) (hd : x.data.length ≤ 1048576) : x.wf := ⟨h.index, h.term, by omega⟩
theorem rdEnt (W : World) : RdA Tryz.prog W 75 EntD.cells (EntOk W) (fun x => x.data.length + 1) := by
  have h := RdA.struct (W := W) (tot := 5) Tryz.underlying75 (by kernel_rfl)
    (RdF.cons (sz := 1) rfl (by kernel_rfl) (RdA.u64 Tryz.underlying23) (RdF.cons (sz := 1) rfl (by kernel_rfl) (RdA.u64 Tryz.underlying23)
      (RdF.cons (sz := 1) rfl (by kernel_rfl) (RdA.i64 Tryz.underlying3) (RdF.cons (sz := 1) rfl (by kernel_rfl) (RdA.i64 Tryz.underlying2)
        (RdF.cons (sz := 1) rfl (by kernel_rfl) (rdBytes W) (RdF.nil rfl))))))
  exact h.map (fun p => ⟨⟨p.1, p.2.1, p.2.2.1, p.2.2.2.1, p.2.2.2.2.1.2⟩, p.2.2.2.2.1.1⟩) (fun _ => rfl) (fun _ h => ⟨h.1, h.2.1, ⟨h.2.2.2.2.1⟩⟩) (fun _ _ => by dsimp only; omega)
structure ShtOk (W : World) (x : ShtD) : Prop where
  index : isU x.index
  term : isU x.term
  rd : x.rd W []
theorem ShtOk.wf {W : World} {x : ShtD} (h : ShtOk W x) (hd : x.conf.vs.length + x.conf.ls.length + x.data.length ≤ 1048576) : x.wf := ⟨h.index, h.term, ⟨by omega, by omega⟩, by omega⟩
-- left out: api.Shot
theorem rdHrd (W : World) : RdA Tryz.prog W 108 HrdD.cells (fun x => isU x.term) (fun _ => 1) := by
  have h := RdA.struct (W := W) (tot := 2) Tryz.underlying108 (by kernel_rfl)
    (RdF.cons (sz := 1) rfl (by kernel_rfl) (RdA.u64 Tryz.underlying23) (RdF.cons (sz := 1) rfl (by kernel_rfl) (RdA.i64 Tryz.underlying3) (RdF.nil rfl)))
  exact h.map (fun p => ⟨p.1, p.2.1⟩) (fun _ => rfl) (fun _ h => h.1) (fun _ _ => by omega)
end Go.Proofs.YtlkoekhjegaimaaGreat
