/-
  HOW what is done to a log is read.
-/
import Derived.Test.YtibbkbgodomfkaaMsgRd
import Derived.Test.YtibbkbgodomfkaaRlogL
set_option linter.unusedVariables false
set_option maxRecDepth 10000
namespace Go.Proofs.Ytibbkbgodomfkaa
open Go Go.Sc Go.Proofs Go.RowKit Go.ChangeShapes Go.WideShapes

theorem rdEnts (W : World) : RdA Try.prog W 32 (fun p : Value × List EntD => [p.1]) (fun p => Rd W [] (Res.sl p.1 p.2.length (p.2.flatMap EntD.cells)) ∧ ∀ a ∈ p.2, EntOk W a) (fun p => (p.2.map fun x => x.data.length + 1).sum + 1) :=
  (RdA.slice (sz := 5) Try.underlying32 (by kernel_rfl) (by decide) (fun _ => rfl) (rdEnt W)).map id (fun _ => rfl) (fun p h => ⟨Rd.of h.1, h.2⟩) (fun p _ => Nat.le_refl _)
theorem sum_ge (l : List EntD) : (l.map fun e => e.data.length).sum + l.length ≤ (l.map fun x => x.data.length + 1).sum := by
  induction l with
  | nil => simp
  | cons a l ih => simp only [List.map_cons, List.sum_cons, List.length_cons]; omega
theorem mem_sum {l : List EntD} {e : EntD} (h : e ∈ l) : e.data.length ≤ (l.map fun e => e.data.length).sum := by
  induction l with
  | nil => cases h
  | cons a l ih =>
    rcases List.mem_cons.1 h with rfl | h
    · simp
    · have := ih h; simp only [List.map_cons, List.sum_cons]; omega
def ActD.sz (x : ActD) : Nat := (x.list.map fun x => x.data.length + 1).sum + 1
structure ActOk (W : World) (x : ActD) : Prop where
  index : isU x.index
  term : isU x.term
  each : ∀ a ∈ x.list, EntOk W a
  rd : x.rd W []
theorem rdAct (W : World) : RdA Try.prog W 55 ActD.cells (ActOk W) ActD.sz := by
  have h := RdA.struct (W := W) (tot := 5) Try.underlying55 (by kernel_rfl)
    (RdF.cons (sz := 1) rfl (by kernel_rfl) (RdA.i64 Try.underlying3) (RdF.cons (sz := 1) rfl (by kernel_rfl) (RdA.i64 Try.underlying3)
      (RdF.cons (sz := 1) rfl (by kernel_rfl) (RdA.u64 Try.underlying22) (RdF.cons (sz := 1) rfl (by kernel_rfl) (RdA.u64 Try.underlying22)
        (RdF.cons (sz := 1) rfl (by kernel_rfl) (rdEnts W) (RdF.nil rfl))))))
  exact h.map (fun p => ⟨p.1, p.2.1, p.2.2.1, p.2.2.2.1, p.2.2.2.2.1.1, p.2.2.2.2.1.2⟩) (fun _ => rfl) (fun _ h => ⟨h.2.2.1, h.2.2.2.1, h.2.2.2.2.1.2, ⟨h.2.2.2.2.1.1, fun p hp => (h.2.2.2.2.1.2 p hp).rd⟩⟩) (fun _ _ => by unfold ActD.sz; dsimp only; omega)
theorem rdActs (W : World) : RdA Try.prog W 31 (fun p : Value × List ActD => [p.1]) (fun p => Rd W [] (Res.sl p.1 p.2.length (p.2.flatMap ActD.cells)) ∧ ∀ a ∈ p.2, ActOk W a) (fun p => (p.2.map ActD.sz).sum + 1) :=
  (RdA.slice (sz := 5) Try.underlying31 (by kernel_rfl) (by decide) (fun _ => rfl) (rdAct W)).map id (fun _ => rfl) (fun p h => ⟨Rd.of h.1, h.2⟩) (fun p _ => Nat.le_refl _)
theorem acts_sum (l : List ActD) : (l.map fun a => a.list.length).sum + l.length ≤ (l.map ActD.sz).sum := by
  induction l with
  | nil => simp
  | cons a l ih => have := sum_ge a.list; simp only [List.map_cons, List.sum_cons, List.length_cons, ActD.sz] at *; omega
theorem act_le {l : List ActD} {a : ActD} (h : a ∈ l) : a.sz ≤ (l.map ActD.sz).sum := by
  induction l with
  | nil => cases h
  | cons b l ih =>
    rcases List.mem_cons.1 h with rfl | h
    · simp
    · have := ih h; simp only [List.map_cons, List.sum_cons]; omega
theorem ents_wf {W : World} {l : List EntD} (h : ∀ a ∈ l, EntOk W a) (hd : (l.map fun x => x.data.length + 1).sum ≤ 1048576) : ∀ e ∈ l, e.wf := fun e he => (h e he).wf (by have := mem_sum he; have := sum_ge l; omega)
theorem ActOk.wf {W : World} {x : ActD} (h : ActOk W x) (hd : x.sz ≤ 1048577) : x.wf := by
  unfold ActD.sz at hd
  have h1 := sum_ge x.list
  exact ⟨h.index, h.term, by omega, ents_wf h.each (by omega)⟩
structure ActsOk (l : List ActD) : Prop where
  sum : (l.map fun a => a.list.length).sum ≤ 1048576
  len : LenOk l.length
  each : ∀ a ∈ l, a.wf
theorem acts_ok {W : World} {l : List ActD} (h : ∀ a ∈ l, ActOk W a) (hd : (l.map ActD.sz).sum ≤ 1048576) : ActsOk l := by
  have h1 := acts_sum l
  exact ⟨by omega, by show _ ≤ _; omega, fun a ha => (h a ha).wf (by have := act_le ha; omega)⟩
end Go.Proofs.Ytibbkbgodomfkaa
