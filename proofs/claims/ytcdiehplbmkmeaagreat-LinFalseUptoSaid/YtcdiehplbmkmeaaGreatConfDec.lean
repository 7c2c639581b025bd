import Derived.Test.YtcdiehplbmkmeaaGreatIn
import Derived.Test.YtcdiehplbmkmeaaGreatFwT
import Derived.Test.YtcdiehplbmkmeaaGreatChecked
set_option linter.unusedSectionVars false
set_option linter.unusedSimpArgs false
set_option linter.unusedVariables false
set_option maxRecDepth 10000
namespace Go.Proofs.YtcdiehplbmkmeaaGreat
open Go Go.Sc Go.Proofs
theorem BytesPost.yes {p : Option (List UInt8 × Nat)} {d : List UInt8} {k : Nat} {e : Int} (h : BytesPost p d k e) (he : e = 0) : p = some (d, k) := by
  rcases h with h | h
  · exact h.2
  · exact absurd he h.1
theorem BytesPost.no {p : Option (List UInt8 × Nat)} {d : List UInt8} {k : Nat} {e : Int} (h : BytesPost p d k e) (he : e ≠ 0) : p = none := by
  rcases h with h | h
  · exact absurd h.1 he
  · exact h.2
def zKu {α : Type} (p : List UInt8 → Nat → Option (α × Nat)) : Nat → List UInt8 → Nat → Option (List α × Nat)
  | 0 => zAS []
  | k + 1 => xE (zKu p k) fun l => xE p fun x => zAS (l ++ [x])
def zIM (most : Nat) : List UInt8 → Nat → Option (Int × Nat) := xE (zHG most) fun n => zAS (n : Int)
def zK6 : List UInt8 → Nat → Option (List Int × Nat) := xE (zHG 16) fun n => zKu (zIM 16) n
structure ConfD where
  vv : Value
  vs : List Int
  lv : Value
  ls : List Int
def ConfD.cells (x : ConfD) : List Value := [x.vv, x.lv]
structure ConfD.rd (x : ConfD) (w : World) (S : List Nat) : Prop where
  vv : Rd w S (Res.sl x.vv x.vs.length (x.vs.flatMap I1))
  lv : Rd w S (Res.sl x.lv x.ls.length (x.ls.flatMap I1))
theorem ConfD.rd.at0 {x : ConfD} {w0 w : World} {S : List Nat} {L : List Res} (h : x.rd w0 S) (hw : Own w0 S L w) : x.rd w [] := ⟨hw.rd0 h.vv, hw.rd0 h.lv⟩
theorem ConfD.rd.at {x : ConfD} {w0 w : World} {S : List Nat} {L Lin : List Res} (h : x.rd w0 S) (hw : Own w0 S L w) (m : List Nat) (hm : m.mapM (fun i => L[i]?) = some Lin) : x.rd w (x6 Lin) := ⟨hw.rdTo h.vv m hm, hw.rdTo h.lv m hm⟩
def Rises (l : List Int) : Prop := (0 :: l).Pairwise (· < ·) ∧ ∀ x ∈ l, x ≤ 16
instance (l : List Int) : Decidable (Rises l) := inferInstanceAs (Decidable (_ ∧ _))
theorem Rises.take {l : List Int} (h : Rises l) (k : Nat) : Rises (l.take k) :=
  ⟨by have := h.1.take (i := k + 1); simpa using this, fun x hx => h.2 x (List.mem_of_mem_take hx)⟩
structure ConfD.wf (x : ConfD) : Prop where
  vs : z6 x.vs.length
  ls : z6 x.ls.length
def ConfD.ok (x : ConfD) : Prop := ((Rises x.vs ∧ Rises x.ls) ∧ 0 < x.vs.length) ∧ ∀ v ∈ x.vs, v ∉ x.ls
instance (x : ConfD) : Decidable x.ok := inferInstanceAs (Decidable ((_ ∧ _) ∧ _))
def ConfD.enc (c : ConfD) : List UInt8 := zIe c.vs ++ zIe c.ls
structure ConfD.few (c : ConfD) : Prop where
  vs : c.vs.length ≤ 1000000000
  ls : c.ls.length ≤ 1000000000
theorem ConfD.few.wf {c : ConfD} (h : c.few) : c.wf := ⟨by have := h.vs; show _ ≤ _; omega, by have := h.ls; show _ ≤ _; omega⟩
theorem zIJ (v : Value) (l : List Int) (w : World) (hl : z6 l.length) (hv : Rd w [] (Res.sl v l.length (l.flatMap I1))) : Rets Tryz.prog 33 #[v] w fun u_ w' => ∃ (r : Value), u_ = r ∧ Own w [] [Res.vec 3 1 r l.length (l.flatMap I1)] w' := by
  refine ze Tryz.func33 rfl Tryz.ntmps33 (Own.start w) ?_
  refine zB (zH rfl (zA (zL (zB (zC rfl (zCp (len := l.length) (cs := (l.flatMap I1)) (by kernel_rfl) rfl rfl (fun w' hw' => Own.rd hv hw') rfl (zA (jm rfl (fun c1 => ?_) (fun c1 => ?_)))))))))
  ·
   refine zB (zH rfl (zA ?_))
   exact zN (z4 (v := .slice none 0 0) rfl rfl (fun w' hw => ⟨.slice none 0 0, rfl, by obtain ⟨_, h0⟩ := Sl.isNil hv.φ c1; rw [List.eq_nil_of_length_eq_zero h0]; exact yZ hw 3 1⟩))
  ·
   refine zJ (zB (yh (e := 3) (sz := 1) (vs := []) (by kernel_rfl) rfl rfl (by simp [Value.cells]) (by decide) rfl (fun b5 => zC rfl (yq (g := I1) (sz := 1) (by' := 8) (fun _ => rfl) (l := []) (l' := l) (by simp [cell1, I1]) 0 (by kernel_rfl) rfl rfl rfl (fun w' hw' => Own.rd hv hw') (by first | omega | (simp; omega)) (by decide) rfl (fun v7 => zH rfl (zA ?_))))))
   exact zN (z4 (v := v7) rfl rfl (fun w' hw => ⟨v7, rfl, hw⟩))
def cnt (vs ids : List Int) : Nat := (vs.filter (· ∈ ids)).length
def ConfD.quorum (c : ConfD) (ids : List Int) : Prop := c.ok ∧ c.vs.length < 2 * cnt c.vs ids
instance (c : ConfD) (ids : List Int) : Decidable (c.quorum ids) := inferInstanceAs (Decidable (_ ∧ _))
structure ConfA where
  vs : List Int
  ls : List Int
  deriving DecidableEq
def ConfD.a (c : ConfD) : ConfA := ⟨c.vs, c.ls⟩
def ConfA.ok (x : ConfA) : Prop := ((Rises x.vs ∧ Rises x.ls) ∧ 0 < x.vs.length) ∧ ∀ v ∈ x.vs, v ∉ x.ls
instance (x : ConfA) : Decidable x.ok := inferInstanceAs (Decidable ((_ ∧ _) ∧ _))
def zLq : List UInt8 → Nat → Option (ConfA × Nat) := xE zK6 fun vs => xE zK6 fun ls => zAS ⟨vs, ls⟩
def zBm {α : Type} (p : List UInt8 → Nat → Option (α × Nat)) (ok : α → Prop) [DecidablePred ok] (b : List UInt8) : Option α := (p b 0).bind fun q => if q.2 = b.length ∧ ok q.1 then some q.1 else none
def ValPost {α : Type} (d : Option α) (x z : α) (e : Int) : Prop := (e = 0 ∧ d = some x) ∨ (e = 4 ∧ d = none ∧ x = z)
instance : DecidablePred ConfA.ok := fun x => inferInstance
def zIi (b : List UInt8) : Option ConfA := zBm zLq ConfA.ok b
theorem zHp {α : Type} {p : List UInt8 → Nat → Option (α × Nat)} {ok : α → Prop} [DecidablePred ok] {b : List UInt8} {x : α} {a : Nat} {bad : Bool} (h : RdS p b 0 false x a bad) (hn : bad = false → a = b.length → ¬ ok x) : zBm p ok b = none := by
  cases hp : p b 0 with
  | none => simp only [zBm, hp, Option.bind_none]
  | some q =>
    obtain ⟨h1, h2, h3⟩ := h.ok q.1 q.2 rfl hp
    simp only [zBm, hp, Option.bind_some]
    rw [if_neg]
    rintro ⟨h4, h5⟩
    rw [← h2] at h5
    exact hn h1 (h3.trans h4) h5
structure RefPost {α : Type} (d : Option α) (x : α) (f : Bool) : Prop where
  yes : f = true → d = some x
  no : f = false → d = none
theorem RefPost.off {α : Type} {p : List UInt8 → Nat → Option (α × Nat)} {ok : α → Prop} [DecidablePred ok] {b : List UInt8} {x : α} {a : Nat} {bad : Bool} (h : RdS p b 0 false x a bad) (hw : ¬ (bad = false ∧ a = b.length)) : RefPost (zBm p ok b) x false :=
  ⟨fun q => (by cases q), fun _ => zHp h fun h1 h2 _ => hw ⟨h1, h2⟩⟩
end Go.Proofs.YtcdiehplbmkmeaaGreat
