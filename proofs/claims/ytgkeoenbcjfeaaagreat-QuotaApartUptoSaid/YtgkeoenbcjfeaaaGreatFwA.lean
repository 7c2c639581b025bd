/-
  MORE ON WHAT IS OWNED: picking, splitting, a cell that holds a slice.
-/
import Derived.Test.YtgkeoenbcjfeaaaGreatFw9
set_option linter.unusedVariables false
namespace Go.Sc

theorem mapM_at {L L' : List Res} : ∀ {m : List Nat}, m.mapM (fun i => L[i]?) = some L' → ∀ (i : Nat) (r : Res), L'[i]? = some r → ∃ k, m[i]? = some k ∧ L[k]? = some r := by
  intro m
  induction m generalizing L' with
  | nil => intro h i r hr; simp at h; subst h; simp at hr
  | cons k m ih =>
    intro h i r hr
    simp only [List.mapM_cons, bind, Option.bind_eq_some_iff, pure] at h
    obtain ⟨a, ha, l, hl, h⟩ := h
    simp at h; subst h
    cases i with
    | zero => simp at hr; subst hr; exact ⟨k, rfl, ha⟩
    | succ i => simp at hr; exact ih hl i r hr

theorem mapM_len {L L' : List Res} : ∀ {m : List Nat}, m.mapM (fun i => L[i]?) = some L' → L'.length = m.length := by
  intro m
  induction m generalizing L' with
  | nil => intro h; simp at h; subst h; rfl
  | cons k m ih =>
    intro h
    simp only [List.mapM_cons, bind, Option.bind_eq_some_iff, pure] at h
    obtain ⟨a, ha, l, hl, h⟩ := h
    simp at h; subst h
    simp [ih hl]

section
variable {w0 w : World} {S : List Nat} {L : List Res}

/-- Of what is owned, these, in this order. -/
theorem Own.sel {L' : List Res} (m : List Nat) (hm : m.mapM (fun i => L[i]?) = some L') (hn : m.Nodup) (h : Own w0 S L w) : Own w0 S L' w := by
  refine h.pick (fun i => m[i]?.getD 0) ?_ ?_
  · intro i r hr
    obtain ⟨k, h1, h2⟩ := mapM_at hm i r hr
    simp only [h1, Option.getD_some]
    exact h2
  · intro i j hi hj hij
    rw [mapM_len hm] at hi hj
    simp only [List.getElem?_eq_getElem hi, List.getElem?_eq_getElem hj, Option.getD_some] at hij
    exact (List.getElem_inj hn).1 hij

/-- Cell 0 of o holds a slice of bytes. -/
def Res.buf (o : Nat) (T : TypeId) (v : Value) (bs : List UInt8) : Res where
  fp := o :: blkS v
  φ w := Row w o T [v] ∧ Sl w v bs.length (bs.map vb) ∧ o ∉ blkS v
  st w w' h hb := by
    obtain ⟨⟨lo, hi, h1, h2⟩, h3, h4⟩ := h
    exact ⟨⟨lo, hi, by rw [hb o (by simp)]; exact h1, h2⟩, h3.st fun b hb' => hb b (by simp [hb']), h4⟩
  lt w h b hb := by
    obtain ⟨⟨lo, hi, h1, h2⟩, h3, h4⟩ := h
    simp only [List.mem_cons] at hb
    rcases hb with rfl | hb
    · exact (Array.getElem?_eq_some_iff.1 h1).1
    · exact (Res.sl v bs.length (bs.map vb)).lt w h3 b hb

/-- Two resources as one. -/
def Res.both (r s : Res) : Res where
  fp := r.fp ++ s.fp
  φ w := r.φ w ∧ s.φ w ∧ ∀ b ∈ r.fp, b ∉ s.fp
  st w w' h hb := ⟨r.st w w' h.1 fun b hb' => hb b (by simp [hb']), s.st w w' h.2.1 fun b hb' => hb b (by simp [hb']), h.2.2⟩
  lt w h b hb := by
    rcases List.mem_append.1 hb with hb | hb
    · exact r.lt w h.1 b hb
    · exact s.lt w h.2.1 b hb
theorem Own.cell1Vec {i sz n : Nat} {e : TypeId} {v : Value} {cs : List Value} (hL : L[i]? = some (Res.vec e sz v n cs)) (h : Own w0 S L w) : cell1 v = true := by
  rcases (h.holds i _ hL).2 with ⟨rfl, _⟩ | ⟨g, cap, cur, rfl, _⟩ <;> rfl
end
theorem flat_get {α : Type} {g : α → List Value} {sz : Nat} (h : ∀ x, (g x).length = sz) : ∀ (l : List α) (j i : Nat) (x : α), l[j]? = some x → i < sz → (l.flatMap g)[j * sz + i]? = (g x)[i]?
  | [], j, i, x, hj, hi => by simp at hj
  | y :: l, 0, i, x, hj, hi => by
    simp at hj; subst hj
    rw [List.flatMap_cons, Nat.zero_mul, Nat.zero_add, List.getElem?_append_left (by rw [h]; exact hi)]
  | y :: l, j + 1, i, x, hj, hi => by
    simp at hj
    rw [List.flatMap_cons, List.getElem?_append_right (by rw [h, Nat.add_mul]; omega), h]
    rw [show (j + 1) * sz + i - sz = j * sz + i by rw [Nat.add_mul]; omega]
    exact flat_get h l j i x hj hi
theorem flat_len {α : Type} {g : α → List Value} {sz : Nat} (h : ∀ x, (g x).length = sz) : ∀ (l : List α), (l.flatMap g).length = l.length * sz
  | [] => by simp
  | y :: l => by rw [List.flatMap_cons, List.length_append, h, flat_len h l, List.length_cons, Nat.add_mul]; omega

theorem Sl.shape {w : World} {v : Value} {n : Nat} {cs : List Value} (h : Sl w v n cs) : ∃ a cap, v = .slice a n cap ∧ n ≤ cap ∧ cap ≤ 9223372036854775807 ∧ (0 < n → ∃ b off, a = some ⟨b, off, none⟩) := by
  rcases h with ⟨a, rfl, rfl, _⟩ | ⟨b, off, cap, rfl, h1, h2, _⟩
  · exact ⟨a, 0, rfl, Nat.le_refl _, by omega, fun h => by omega⟩
  · exact ⟨_, cap, rfl, h1.1, h2, fun _ => ⟨b, off, rfl⟩⟩
end Go.Sc
