import Derived.Test.YtkkeknmkipkbmaaGreatEnc
set_option linter.unusedSectionVars false
set_option linter.unusedSimpArgs false
set_option linter.unusedVariables false
set_option maxRecDepth 10000
namespace Go.Proofs.YtkkeknmkipkbmaaGreat
open Go Go.Sc Go.Proofs
def folA : Nat → Nat → List EntA → Prop
  | _, _, [] => True
  | i, t, e :: l => (e.ok ∧ e.index = i + 1 ∧ t ≤ e.term) ∧ folA e.index e.term l
instance folA.dec : (i t : Nat) → (l : List EntA) → Decidable (folA i t l)
  | _, _, [] => isTrue trivial
  | i, t, e :: l => by
    unfold folA
    have := folA.dec e.index e.term l
    infer_instance
def xI (i : Nat) (l : List EntA) : Nat := i + l.length
def xK (t : Nat) : List EntA → Nat
  | [] => t
  | e :: l => xK e.term l
theorem folA_append {l m : List EntA} : ∀ {i t : Nat}, folA i t (l ++ m) ↔ folA i t l ∧ folA (xI i l) (xK t l) m := by
  induction l with
  | nil => intro i t; simp [folA, xI, xK]
  | cons e l ih =>
    intro i t
    simp only [List.cons_append, folA, ih, xK, xI, List.length_cons]
    constructor
    · rintro ⟨h1, h2, h3⟩; rw [h1.2.1] at h3; exact ⟨⟨h1, h2⟩, by rwa [Nat.add_assoc, Nat.add_comm 1] at h3⟩
    · rintro ⟨⟨h1, h2⟩, h3⟩; refine ⟨h1, h2, ?_⟩; rw [h1.2.1]; rwa [Nat.add_assoc, Nat.add_comm 1]
theorem kF {l : List EntA} {e : EntA} : ∀ {t : Nat}, xK t (l ++ [e]) = e.term := by
  induction l with
  | nil => intro t; rfl
  | cons a l ih => intro t; exact ih
theorem x2 {l : List EntA} (h : 0 < l.length) {t : Nat} : xK t l = (zU l (l.length - 1)).term := by
  have e : l = l.take (l.length - 1) ++ [zU l (l.length - 1)] := by
    rw [← z5 (by omega), List.take_of_length_le (by omega)]
  rw [e, kF]; congr 1; rw [← e]
theorem folA.take {i t : Nat} {l : List EntA} (h : folA i t l) (k : Nat) : folA i t (l.take k) := by
  rw [← List.take_append_drop k l] at h; exact (folA_append.1 h).1
theorem folA.ok {l : List EntA} : ∀ {i t : Nat}, folA i t l → ∀ e ∈ l, e.ok := by
  induction l with
  | nil => intro _ _ _ e he; cases he
  | cons a l ih =>
    intro i t h e he
    rcases List.mem_cons.1 he with rfl | he
    · exact h.1.1
    · exact ih h.2 e he
theorem folA.idx {l : List EntA} : ∀ {i t : Nat}, folA i t l → ∀ k, k < l.length → (zU l k).index = i + k + 1 := by
  induction l with
  | nil => intro _ _ _ k hk; simp at hk
  | cons a l ih =>
    intro i t h k hk
    cases k with
    | zero => simpa [zU] using h.1.2.1
    | succ k =>
      have := ih h.2 k (by simpa using hk)
      have e : zU (a :: l) (k + 1) = zU l k := by simp [zU]
      rw [e, this, h.1.2.1]; omega
theorem folA.base {l : List EntA} : ∀ {i t : Nat}, folA i t l → ∀ e ∈ l, t ≤ e.term := by
  induction l with
  | nil => intro _ _ _ e he; cases he
  | cons a l ih =>
    intro i t h e he
    rcases List.mem_cons.1 he with rfl | he
    · exact h.1.2.2
    · have := ih h.2 e he; have := h.1.2.2; omega
theorem folA.mono {i t : Nat} {l : List EntA} (h : folA i t l) {j k : Nat} (hjk : j ≤ k) (hk : k < l.length) : (zU l j).term ≤ (zU l k).term := by
  by_cases e : j = k
  · rw [e]; exact Nat.le_refl _
  · have h1 := h
    rw [← List.take_append_drop (j + 1) l] at h1
    have h2 := (folA_append.1 h1).2.base (zU l k) (by
      have : zU (l.drop (j + 1)) (k - (j + 1)) = zU l k := by rw [xP]; congr 1; omega
      rw [← this]; exact zt (by simp; omega))
    rw [z5 (by omega), kF] at h2
    exact h2
theorem folA.snoc {i t : Nat} {l : List EntA} {e : EntA} : folA i t (l ++ [e]) ↔ folA i t l ∧ e.ok ∧ e.index = xI i l + 1 ∧ xK t l ≤ e.term := by
  rw [folA_append]; simp [folA]
theorem folA.last_le {i t : Nat} {l : List EntA} (h : folA i t l) (hi : i ≤ 4611686018427387904) : i + l.length ≤ 4611686018427387904 := by
  by_cases hl : l.length = 0
  · omega
  · have h1 := h.idx (l.length - 1) (by omega)
    have h2 := (h.ok _ (zt (l := l) (j := l.length - 1) (by omega))).1.2.1.1
    omega
theorem folA.term_le {i t : Nat} {l : List EntA} (h : folA i t l) (ht : t ≤ 4611686018427387904) : xK t l ≤ 4611686018427387904 := by
  by_cases hl : l.length = 0
  · rw [List.eq_nil_of_length_eq_zero hl]; exact ht
  · rw [x2 (by omega)]
    exact (h.ok _ (zt (l := l) (j := l.length - 1) (by omega))).1.2.1.2
theorem folA.below {l : List EntA} : ∀ {i t : Nat}, folA i t l → ∀ f, l.filter (fun e => decide (e.index < f)) = l.take (f - i - 1) := by
  induction l with
  | nil => intro i t _ f; simp
  | cons a l ih =>
    intro i t h f
    have h1 := ih h.2 f
    have h2 := h.1.2.1
    by_cases c : a.index < f
    · rw [List.filter_cons_of_pos (by simpa using c), h1, show f - i - 1 = (f - a.index - 1) + 1 by omega]; rfl
    · rw [List.filter_cons_of_neg (by simpa using c), h1, show f - i - 1 = 0 by omega, show f - a.index - 1 = 0 by omega]; simp
structure LogA where
  i : Nat
  t : Nat
  l : List EntA
  deriving DecidableEq
structure LogA.good (x : LogA) : Prop where
  i : x.i ≤ 4611686018427387904
  t : x.t ≤ 4611686018427387904
  fol : folA x.i x.t x.l
def LogA.last (x : LogA) : Nat := x.i + x.l.length
def LogA.end_ (x : LogA) : Nat := xK x.t x.l
def LogA.termE (x : LogA) (k : Nat) : Nat × Int :=
  if k < x.i then (0, 13) else if k = x.i then (x.t, 0) else if k ≤ x.last then ((zU x.l (k - x.i - 1)).term, 0) else (0, 8)
def LogA.fits (x : LogA) (k t : Nat) : Prop := (x.termE k).2 = 0 ∧ (x.termE k).1 = t
instance (x : LogA) (k t : Nat) : Decidable (x.fits k t) := by unfold LogA.fits; infer_instance
def LogA.fresh (x : LogA) (k t : Nat) : Prop := x.end_ < t ∨ (t = x.end_ ∧ x.last ≤ k)
instance (x : LogA) (k t : Nat) : Decidable (x.fresh k t) := by unfold LogA.fresh; infer_instance
def LogA.fromE (x : LogA) (k : Nat) (most : Int) : List EntA × Int :=
  if k ≤ x.i then ([], 13) else if x.last + 1 < k then ([], 8) else if most < 0 then ([], 1) else ((x.l.drop (k - x.i - 1)).take most.toNat, 0)
def LogA.kn (x : LogA) : List EntA → Nat
  | [] => 0
  | e :: m => if x.fits e.index e.term then x.kn m + 1 else 0
theorem LogA.kn_le (x : LogA) : ∀ (m : List EntA), x.kn m ≤ m.length
  | [] => Nat.le_refl _
  | e :: m => by unfold LogA.kn; have := x.kn_le m; split <;> simp <;> omega
theorem LogA.kn_fits (x : LogA) : ∀ (m : List EntA), ∀ e ∈ m.take (x.kn m), x.fits e.index e.term
  | [], e, he => by simp at he
  | a :: m, e, he => by
    unfold LogA.kn at he
    split at he
    · rename_i h
      rw [List.take_succ_cons] at he
      rcases List.mem_cons.1 he with rfl | he
      · exact h
      · exact x.kn_fits m e he
    · simp at he
theorem LogA.kn_of (x : LogA) : ∀ {m : List EntA} {k : Nat}, k ≤ m.length → (∀ e ∈ m.take k, x.fits e.index e.term) → (k < m.length → ¬ x.fits (zU m k).index (zU m k).term) → x.kn m = k
  | [], k, hk, _, _ => by simp at hk; subst hk; rfl
  | a :: m, k, hk, h1, h2 => by
    unfold LogA.kn
    cases k with
    | zero => rw [if_neg (by simpa [zU] using h2 (by simp))]
    | succ k =>
      rw [if_pos (h1 a (by simp))]
      congr 1
      refine x.kn_of (by simpa using hk) (fun e he => h1 e (by rw [List.take_succ_cons]; exact .tail _ he)) fun hk' => ?_
      have := h2 (by simpa using hk')
      simpa [zU] using this
def LogA.put (x : LogA) (m : List EntA) : LogA :=
  if x.kn m < m.length then ⟨x.i, x.t, x.l.take ((zU m (x.kn m)).index - x.i - 1) ++ m.drop (x.kn m)⟩ else x
def LogA.put0 (x : LogA) (m : List EntA) : Nat := if x.kn m < m.length then (zU m (x.kn m)).index else 0
def LogA.append (x : LogA) (index term : Nat) (m : List EntA) : LogA := if folA index term m ∧ x.fits index term then x.put m else x
def LogA.ans (x : LogA) (index term : Nat) (m : List EntA) : Nat × Nat × Int :=
  if folA index term m then (if x.fits index term then (index + m.length, x.put0 m, 0) else (0, 0, 12)) else (0, 0, 2)
def LogA.hintN (x : LogA) (k t : Nat) : Nat → Nat × Nat
  | 0 => (x.i, x.t)
  | n + 1 => if (zU x.l n).index ≤ k ∧ (zU x.l n).term ≤ t then ((zU x.l n).index, (zU x.l n).term) else x.hintN k t n
def LogA.hint (x : LogA) (k t : Nat) : Nat × Nat := x.hintN k t x.l.length
def LogA.shrink (x : LogA) (k : Nat) : LogA := if (x.termE k).2 = 0 then ⟨k, (x.termE k).1, x.l.drop (k - x.i)⟩ else x
theorem LogA.good.last_le {x : LogA} (h : x.good) : x.last ≤ 4611686018427387904 := h.fol.last_le h.i
theorem LogA.good.end_le {x : LogA} (h : x.good) : x.end_ ≤ 4611686018427387904 := h.fol.term_le h.t
theorem LogA.fits_iff {x : LogA} {k t : Nat} : x.fits k t ↔ (x.i ≤ k ∧ k ≤ x.last) ∧ (if k = x.i then x.t else (zU x.l (k - x.i - 1)).term) = t := by
  unfold LogA.fits LogA.termE
  by_cases h1 : k < x.i
  · rw [if_pos h1]; simp; omega
  · rw [if_neg h1]
    by_cases h2 : k = x.i
    · rw [if_pos h2, if_pos h2]; subst h2; unfold LogA.last; simp
    · rw [if_neg h2, if_neg h2]
      by_cases h3 : k ≤ x.last
      · rw [if_pos h3]; simp; omega
      · rw [if_neg h3]; simp; omega
theorem LogA.upto {x : LogA} {k : Nat} (h1 : x.i ≤ k) (h2 : k ≤ x.last) : (if k = x.i then x.t else (zU x.l (k - x.i - 1)).term) = xK x.t (x.l.take (k - x.i)) := by
  unfold LogA.last at h2
  by_cases h : k = x.i
  · rw [if_pos h, h, Nat.sub_self]; rfl
  · rw [if_neg h, x2 (by simp; omega), List.length_take, Nat.min_eq_left (by omega), y8 (by omega)]
theorem LogA.fits_end {x : LogA} {k t : Nat} (h : x.fits k t) : (x.i ≤ k ∧ k ≤ x.last) ∧ xK x.t (x.l.take (k - x.i)) = t := by
  have h' := LogA.fits_iff.1 h
  rw [LogA.upto h'.1.1 h'.1.2] at h'
  exact h'
theorem LogA.fits_of {x : LogA} {k t : Nat} (h1 : x.i ≤ k ∧ k ≤ x.last) (h2 : xK x.t (x.l.take (k - x.i)) = t) : x.fits k t := by
  rw [LogA.fits_iff, LogA.upto h1.1 h1.2]; exact ⟨h1, h2⟩
theorem zBE {x : LogA} {index term : Nat} {m : List EntA} (hm : folA index term m) (hf : x.fits index term) : x.fits (xI index (m.take (x.kn m))) (xK term (m.take (x.kn m))) := by
  by_cases h0 : x.kn m = 0
  · rw [h0]; exact hf
  · have hl := x.kn_le m
    have hl2 : (m.take (x.kn m)).length = x.kn m := by simp; omega
    rw [x2 (by omega), hl2, y8 (by omega)]
    have := hm.idx (x.kn m - 1) (by omega)
    have h2 := x.kn_fits m (zU m (x.kn m - 1)) (by rw [← y8 (i := x.kn m) (by omega)]; exact zt (by omega))
    rw [this] at h2
    have e : xI index (m.take (x.kn m)) = index + (x.kn m - 1) + 1 := by unfold xI; omega
    rw [e]; exact h2
theorem zCq {x : LogA} (hx : x.good) {index term : Nat} {m : List EntA} (hm : folA index term m) (hf : x.fits index term) : (x.put m).good := by
  unfold LogA.put
  split
  · rename_i hk
    have h1 := LogA.fits_end (zBE hm hf)
    have h2 := hm.idx _ hk
    refine ⟨hx.i, hx.t, ?_⟩
    have hl2 : (m.take (x.kn m)).length = x.kn m := by simp; omega
    have e : (zU m (x.kn m)).index - x.i - 1 = xI index (m.take (x.kn m)) - x.i := by unfold xI; omega
    dsimp only
    rw [e, folA_append]
    refine ⟨hx.fol.take _, ?_⟩
    have h3 := h1.1
    unfold LogA.last at h3
    have e2 : xI x.i (x.l.take (xI index (m.take (x.kn m)) - x.i)) = xI index (m.take (x.kn m)) := by
      show x.i + _ = _; rw [List.length_take, Nat.min_eq_left (by omega)]; omega
    rw [e2, h1.2]
    rw [← List.take_append_drop (x.kn m) m] at hm
    exact (folA_append.1 hm).2
  · exact hx
theorem LogA.append_good {x : LogA} (hx : x.good) {index term : Nat} {m : List EntA} : (x.append index term m).good := by
  unfold LogA.append
  split
  · rename_i h; exact zCq hx h.1 h.2
  · exact hx
theorem LogA.kn_all {x : LogA} {m : List EntA} (h : ∀ e ∈ m, x.fits e.index e.term) : x.kn m = m.length := x.kn_of (Nat.le_refl _) (by rwa [List.take_length]) fun h => absurd h (Nat.lt_irrefl _)
theorem LogA.put_same {x : LogA} {m : List EntA} (h : ∀ e ∈ m, x.fits e.index e.term) : x.put m = x ∧ x.put0 m = 0 := by
  have := LogA.kn_all h
  constructor
  · unfold LogA.put; rw [if_neg (by omega)]
  · unfold LogA.put0; rw [if_neg (by omega)]
end Go.Proofs.YtkkeknmkipkbmaaGreat
