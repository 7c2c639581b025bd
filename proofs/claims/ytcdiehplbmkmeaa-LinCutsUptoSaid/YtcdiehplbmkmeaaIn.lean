import Derived.Test.YtcdiehplbmkmeaaOutS
set_option linter.unusedSectionVars false
set_option linter.unusedSimpArgs false
set_option linter.unusedVariables false
set_option maxRecDepth 10000
namespace Go.Proofs.Ytcdiehplbmkmeaa
open Go Go.Sc Go.Proofs
def le (n : Nat) : Nat → List UInt8
  | 0 => []
  | k + 1 => le n k ++ [UInt8.ofNat (n / 256 ^ k)]
theorem zDk (d : List UInt8) (h : d.length < 18446744073709551616) : (dat d).length ≤ d.length + 9 := by
  have := zGM h
  simp [dat]; omega
theorem zAp {α β : Type} (f : α → List β) (l : List α) (k : Nat) : ((l.take k).flatMap f).length ≤ (l.flatMap f).length := by
  have : l.flatMap f = (l.take k).flatMap f ++ (l.drop k).flatMap f := by rw [← List.flatMap_append, List.take_append_drop]
  rw [this, List.length_append]; omega
def beN (l : List UInt8) : Nat := l.foldl (fun n c => n * 256 + c.toNat) 0
def zJ0 (l : List UInt8) : Option (Nat × Nat) :=
  if l.length = 0 then none else if 8 < (zG l 0).toNat ∨ (1 < l.length ∧ 0 < (zG l 0).toNat) ∧ (zG l 1).toNat = 0 then none else if l.length ≤ (zG l 0).toNat then none else some (beN ((l.take (1 + (zG l 0).toNat)).drop 1), 1 + (zG l 0).toNat)
def zAo (b : List UInt8) (at_ : Nat) : Option (Nat × Nat) := (zJ0 (b.drop at_)).map fun q => (q.1, at_ + q.2)
def NumPost (p : Option (Nat × Nat)) (n k : Nat) (e : Int) : Prop := (e = 0 ∧ p = some (n, k)) ∨ (e ≠ 0 ∧ n = 0 ∧ k = 0 ∧ p = none)
theorem NumPost.yes {p : Option (Nat × Nat)} {n k : Nat} {e : Int} (h : NumPost p n k e) (he : e = 0) : p = some (n, k) := by
  rcases h with h | h
  · exact h.2
  · exact absurd he h.1
theorem NumPost.no {p : Option (Nat × Nat)} {n k : Nat} {e : Int} (h : NumPost p n k e) (he : e ≠ 0) : p = none := by
  rcases h with h | h
  · exact absurd h.1 he
  · exact h.2.2.2
structure RdS {α : Type} (p : List UInt8 → Nat → Option (α × Nat)) (b : List UInt8) (a : Nat) (bad : Bool) (x : α) (a' : Nat) (bad' : Bool) : Prop where
  le : a' ≤ b.length
  st : bad = true → bad' = true
  ok : ∀ v k, bad = false → p b a = some (v, k) → bad' = false ∧ x = v ∧ a' = k
  no : bad = false → p b a = none → bad' = true
def jy {α : Type} (x : α) : List UInt8 → Nat → Option (α × Nat) := fun _ a => some (x, a)
def y0 {α β : Type} (p : List UInt8 → Nat → Option (α × Nat)) (q : α → List UInt8 → Nat → Option (β × Nat)) : List UInt8 → Nat → Option (β × Nat) := fun b a => (p b a).bind fun r => q r.1 b r.2
theorem RdS.pure {α : Type} {b : List UInt8} {a : Nat} {bad : Bool} (x : α) (h : a ≤ b.length) : RdS (jy x) b a bad x a bad :=
  ⟨h, id, fun v k hb h => (by simp only [jy, Option.some.injEq, Prod.mk.injEq] at h; exact ⟨hb, h.1, h.2⟩), fun _ h => (by cases h)⟩
theorem RdS.bind {α β : Type} {p : List UInt8 → Nat → Option (α × Nat)} {q : α → List UInt8 → Nat → Option (β × Nat)} {b : List UInt8} {a a1 a2 : Nat} {bad bad1 bad2 : Bool} {x : α} {y : β}
    (h1 : RdS p b a bad x a1 bad1) (h2 : RdS (q x) b a1 bad1 y a2 bad2) : RdS (y0 p q) b a bad y a2 bad2 := by
  refine ⟨h2.le, fun h => h2.st (h1.st h), fun v k hb h => ?_, fun hb h => ?_⟩
  · simp only [y0, Option.bind_eq_some_iff] at h
    obtain ⟨⟨u, j⟩, h3, h4⟩ := h
    obtain ⟨e1, rfl, rfl⟩ := h1.ok u j hb h3
    exact h2.ok v k e1 h4
  · cases hp : p b a with
    | none => exact h2.st (h1.no hb hp)
    | some r =>
      obtain ⟨u, j⟩ := r
      obtain ⟨e1, rfl, rfl⟩ := h1.ok u j hb hp
      simp only [y0, hp, Option.bind_some] at h
      exact h2.no e1 h
theorem RdS.map {α β : Type} {p : List UInt8 → Nat → Option (α × Nat)} {b : List UInt8} {a a1 : Nat} {bad bad1 : Bool} {x : α} (g : α → β) (h : RdS p b a bad x a1 bad1) : RdS (y0 p fun v => jy (g v)) b a bad (g x) a1 bad1 :=
  h.bind (RdS.pure _ h.le)
theorem RdS.done {α : Type} {p : List UInt8 → Nat → Option (α × Nat)} {b : List UInt8} {a a' : Nat} {bad : Bool} {x : α} (ha : a' ≤ b.length) (hp : p b a = some (x, a')) : RdS p b a bad x a' bad :=
  ⟨ha, id, fun v k h h' => (by rw [hp] at h'; cases h'; exact ⟨h, rfl, rfl⟩), fun _ h' => (by rw [hp] at h'; cases h')⟩
def zGf (most : Nat) : List UInt8 → Nat → Option (Nat × Nat) := fun b a => (zAo b a).bind fun q => if most < q.1 then none else some q
def zIj (b : List UInt8) (a : Nat) : Option (List UInt8 × Nat) := (zAo b a).bind fun q => if b.length - q.2 < q.1 then none else some ((b.take (q.2 + q.1)).drop q.2, q.2 + q.1)
theorem zFu (v : Value) (l : List UInt8) (w : World) (hl : zx l.length) (hv : Rd w [] (Res.sl v l.length (l.map vb))) : Rets Try.prog 85 #[v] w fun u_ w' => ∃ (r : Value), u_ = r ∧ Own w [] [Res.vec 5 1 r l.length (l.map vb)] w' := by
  refine zh Try.func85 rfl Try.ntmps85 (Own.start w) ?_
  refine zB (zH rfl (zA (zM (zB (zC rfl (zCW (len := l.length) (cs := (l.map vb)) (by kernel_rfl) rfl rfl (fun w' hw' => Own.rd hv hw') rfl (zA (j8 rfl (fun c1 => ?_) (fun c1 => ?_)))))))))
  ·
   refine zB (zH rfl (zA ?_))
   exact zR (z3 (v := .slice none 0 0) rfl rfl (fun w' hw => ⟨.slice none 0 0, rfl, by obtain ⟨_, h0⟩ := Sl.isNil hv.φ c1; rw [List.eq_nil_of_length_eq_zero h0]; exact yd hw 5 1⟩))
  ·
   refine zL (zB (yg (e := 5) (sz := 1) (vs := []) (by kernel_rfl) rfl rfl (by simp [Value.cells]) (by decide) rfl (fun b5 => zC rfl (zGR (l := ([] : List UInt8)) (l' := l) 0 (by kernel_rfl) rfl rfl rfl (fun w' hw' => Own.rd hv hw') (by first | omega | (simp; omega)) rfl (fun v7 => zH rfl (zA ?_))))))
   exact zR (z3 (v := v7) rfl rfl (fun w' hw => ⟨v7, rfl, hw⟩))
def BytesPost (p : Option (List UInt8 × Nat)) (d : List UInt8) (k : Nat) (e : Int) : Prop := (e = 0 ∧ p = some (d, k)) ∨ (e ≠ 0 ∧ p = none)
end Go.Proofs.Ytcdiehplbmkmeaa