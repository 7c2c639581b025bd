import Derived.Test.YtkkeknmkipkbmaaGreatFw9
set_option linter.unusedSectionVars false
set_option linter.unusedSimpArgs false
set_option linter.unusedVariables false
namespace Go.Sc
theorem ko {L L' : List Res} : ∀ {m : List Nat}, m.mapM (fun i => L[i]?) = some L' → ∀ (i : Nat) (r : Res), L'[i]? = some r → ∃ k, m[i]? = some k ∧ L[k]? = some r := by
  intro m
  induction m generalizing L' with
  | nil => intro h i r hr; simp at h; subst h; simp at hr
  | cons k m ih =>
    intro h i r hr
    simp only [List.mapM_cons, bind, Option.bind_eq_some_iff, pure] at h
    obtain ⟨a, ha, l, hl, h⟩ := h
    simp at h; subst h
    cases i with
    | zero => simp at hr; subst hr; exact ⟨k, rfl, ha⟩
    | succ i => simp at hr; exact ih hl i r hr
theorem zDA {L L' : List Res} : ∀ {m : List Nat}, m.mapM (fun i => L[i]?) = some L' → L'.length = m.length := by
  intro m
  induction m generalizing L' with
  | nil => intro h; simp at h; subst h; rfl
  | cons k m ih =>
    intro h
    simp only [List.mapM_cons, bind, Option.bind_eq_some_iff, pure] at h
    obtain ⟨a, ha, l, hl, h⟩ := h
    simp at h; subst h
    simp [ih hl]
section
variable {w0 w : World} {S : List Nat} {L : List Res}
theorem Own.sel {L' : List Res} (m : List Nat) (hm : m.mapM (fun i => L[i]?) = some L') (hn : m.Nodup) (h : Own w0 S L w) : Own w0 S L' w := by
  refine h.pick (fun i => m[i]?.getD 0) ?_ ?_
  · intro i r hr
    obtain ⟨k, h1, h2⟩ := ko hm i r hr
    simp only [h1, Option.getD_some]
    exact h2
  · intro i j hi hj hij
    rw [zDA hm] at hi hj
    simp only [List.getElem?_eq_getElem hi, List.getElem?_eq_getElem hj, Option.getD_some] at hij
    exact (List.getElem_inj hn).1 hij
def Res.buf (o : Nat) (T : TypeId) (v : Value) (bs : List UInt8) : Res where
  fp := o :: xr v
  φ w := Row w o T [v] ∧ Sl w v bs.length (bs.map vb) ∧ o ∉ xr v
  st w w' h hb := by
    obtain ⟨⟨lo, hi, h1, h2⟩, h3, h4⟩ := h
    exact ⟨⟨lo, hi, by rw [hb o (by simp)]; exact h1, h2⟩, h3.st fun b hb' => hb b (by simp [hb']), h4⟩
  lt w h b hb := by
    obtain ⟨⟨lo, hi, h1, h2⟩, h3, h4⟩ := h
    simp only [List.mem_cons] at hb
    rcases hb with rfl | hb
    · exact (Array.getElem?_eq_some_iff.1 h1).1
    · exact (Res.sl v bs.length (bs.map vb)).lt w h3 b hb
theorem Own.split {i : Nat} {r r1 r2 : Res} (hL : L[i]? = some r) (h1 : r.φ w → r1.φ w) (h2 : r.φ w → r2.φ w) (hf1 : ∀ b ∈ r1.fp, b ∈ r.fp) (hf2 : ∀ b ∈ r2.fp, b ∈ r.fp) (hd : r.φ w → ∀ b ∈ r1.fp, b ∉ r2.fp) (h : Own w0 S L w) : Own w0 S (L.set i r1 ++ [r2]) w := by
  have hr := h.holds i r hL
  refine h.frame1 hL (E := [r2]) ⟨Keep.refl _ _, ?_, ?_, ?_⟩
  · intro a b s t hab hs ht
    match a, b with
    | 0, 0 => omega
    | 1, 1 => omega
    | 0, 1 => simp at hs ht; subst hs; subst ht; exact hd hr
    | 1, 0 => simp at hs ht; subst hs; subst ht; exact fun b hb hb' => hd hr b hb' hb
    | a + 2, _ => simp at hs
    | _, b + 2 => simp at ht
  · intro a s hs
    match a with
    | 0 => simp at hs; subst hs; exact h1 hr
    | 1 => simp at hs; subst hs; exact h2 hr
    | a + 2 => simp at hs
  · intro a s hs b hb
    match a with
    | 0 => simp at hs; subst hs; exact .inl (hf1 b hb)
    | 1 => simp at hs; subst hs; exact .inl (hf2 b hb)
    | a + 2 => simp at hs
theorem Own.join {i j : Nat} {r r1 r2 : Res} (hij : i ≠ j) (h1 : L[i]? = some r1) (h2 : L[j]? = some r2) (hφ : r1.φ w → r2.φ w → (∀ b ∈ r1.fp, b ∉ r2.fp) → r.φ w) (hf : ∀ b ∈ r.fp, b ∈ r1.fp ∨ b ∈ r2.fp) (h : Own w0 S L w) : Own w0 S ((L.set i r).eraseIdx j) w := by
  have hr : r.φ w := hφ (h.holds i r1 h1) (h.holds j r2 h2) (h.apart i j r1 r2 hij h1 h2)
  have hi : i < L.length := (List.getElem?_eq_some_iff.1 h1).1
  -- where an entry of the new list stood
  have hat : ∀ (a : Nat) (s : Res), ((L.set i r).eraseIdx j)[a]? = some s → ∃ k, k ≠ j ∧ (k = if a < j then a else a + 1) ∧ (L.set i r)[k]? = some s := by
    intro a s hs
    rw [List.getElem?_eraseIdx] at hs
    split at hs
    · rename_i hlt; exact ⟨a, by omega, by rw [if_pos hlt], hs⟩
    · rename_i hlt; exact ⟨a + 1, by omega, by rw [if_neg hlt], hs⟩
  have hset : ∀ (k : Nat) (s : Res), (L.set i r)[k]? = some s → (k = i ∧ s = r) ∨ (k ≠ i ∧ L[k]? = some s) := by
    intro k s hs
    by_cases hk : k = i
    · subst hk; rw [List.getElem?_set_self hi] at hs; exact .inl ⟨rfl, (Option.some.inj hs).symm⟩
    · rw [List.getElem?_set_ne (Ne.symm hk)] at hs; exact .inr ⟨hk, hs⟩
  have far : ∀ (k : Nat) (s : Res), k ≠ i → k ≠ j → L[k]? = some s → ∀ b ∈ s.fp, b ∉ r.fp := by
    intro k s hki hkj hs b hb hb'
    rcases hf b hb' with h' | h'
    · exact h.apart k i s r1 hki hs h1 b hb h'
    · exact h.apart k j s r2 hkj hs h2 b hb h'
  refine ⟨h.keep, ?_, ?_, ?_⟩
  · intro a b s t hab hs ht
    obtain ⟨k, hk1, hk2, hk3⟩ := hat a s hs
    obtain ⟨l, hl1, hl2, hl3⟩ := hat b t ht
    have hkl : k ≠ l := by
      rw [hk2, hl2]; split <;> split <;> omega
    rcases hset k s hk3 with ⟨e1, e2⟩ | ⟨e1, e2⟩ <;> rcases hset l t hl3 with ⟨d1, d2⟩ | ⟨d1, d2⟩
    · omega
    · rw [e2]; exact fun b hb hb' => far l t d1 hl1 d2 b hb' hb
    · rw [d2]; exact far k s e1 hk1 e2
    · exact h.apart k l s t hkl e2 d2
  · intro a s hs
    obtain ⟨k, hk1, hk2, hk3⟩ := hat a s hs
    rcases hset k s hk3 with ⟨e1, e2⟩ | ⟨e1, e2⟩
    · rw [e2]; exact hr
    · exact h.holds k s e2
  · intro a s hs b hb
    obtain ⟨k, hk1, hk2, hk3⟩ := hat a s hs
    rcases hset k s hk3 with ⟨e1, e2⟩ | ⟨e1, e2⟩
    · rw [e2] at hb
      rcases hf b hb with h' | h'
      · exact h.fresh i r1 h1 b h'
      · exact h.fresh j r2 h2 b h'
    · exact h.fresh k s e2 b hb
def Res.both (r s : Res) : Res where
  fp := r.fp ++ s.fp
  φ w := r.φ w ∧ s.φ w ∧ ∀ b ∈ r.fp, b ∉ s.fp
  st w w' h hb := ⟨r.st w w' h.1 fun b hb' => hb b (by simp [hb']), s.st w w' h.2.1 fun b hb' => hb b (by simp [hb']), h.2.2⟩
  lt w h b hb := by
    rcases List.mem_append.1 hb with hb | hb
    · exact r.lt w h.1 b hb
    · exact s.lt w h.2.1 b hb
theorem Own.splitBoth {i : Nat} {r s : Res} (hL : L[i]? = some (r.both s)) (h : Own w0 S L w) : Own w0 S (L.set i r ++ [s]) w :=
  h.split hL (fun h => h.1) (fun h => h.2.1) (fun b hb => List.mem_append.2 (.inl hb)) (fun b hb => List.mem_append.2 (.inr hb)) (fun h => h.2.2)
theorem Own.joinBoth {i j : Nat} {r s : Res} (hij : i ≠ j) (h1 : L[i]? = some r) (h2 : L[j]? = some s) (h : Own w0 S L w) : Own w0 S ((L.set i (r.both s)).eraseIdx j) w :=
  h.join (r := r.both s) hij h1 h2 (fun a b c => ⟨a, b, c⟩) (fun b hb => List.mem_append.1 hb)
theorem Own.cell1Vec {i sz n : Nat} {e : TypeId} {v : Value} {cs : List Value} (hL : L[i]? = some (Res.vec e sz v n cs)) (h : Own w0 S L w) : cell1 v = true := by
  rcases (h.holds i _ hL).2 with ⟨rfl, _⟩ | ⟨g, cap, cur, rfl, _⟩ <;> rfl
theorem Sl.cell1 {v : Value} {n : Nat} {cs : List Value} (h : Sl w v n cs) : cell1 v = true := by
  rcases h with ⟨a, rfl, _⟩ | ⟨b, off, cap, rfl, _⟩ <;> rfl
end
theorem kq {α : Type} {g : α → List Value} {sz : Nat} (h : ∀ x, (g x).length = sz) : ∀ (l : List α) (j i : Nat) (x : α), l[j]? = some x → i < sz → (l.flatMap g)[j * sz + i]? = (g x)[i]?
  | [], j, i, x, hj, hi => by simp at hj
  | y :: l, 0, i, x, hj, hi => by
    simp at hj; subst hj
    rw [List.flatMap_cons, Nat.zero_mul, Nat.zero_add, List.getElem?_append_left (by rw [h]; exact hi)]
  | y :: l, j + 1, i, x, hj, hi => by
    simp at hj
    rw [List.flatMap_cons, List.getElem?_append_right (by rw [h, Nat.add_mul]; omega), h]
    rw [show (j + 1) * sz + i - sz = j * sz + i by rw [Nat.add_mul]; omega]
    exact kq h l j i x hj hi
theorem x8 {α : Type} {g : α → List Value} {sz : Nat} (h : ∀ x, (g x).length = sz) : ∀ (l : List α), (l.flatMap g).length = l.length * sz
  | [] => by simp
  | y :: l => by rw [List.flatMap_cons, List.length_append, h, x8 h l, List.length_cons, Nat.add_mul]; omega
theorem Sl.shape {w : World} {v : Value} {n : Nat} {cs : List Value} (h : Sl w v n cs) : ∃ a cap, v = .slice a n cap ∧ n ≤ cap ∧ cap ≤ 9223372036854775807 ∧ (0 < n → ∃ b off, a = some ⟨b, off, none⟩) := by
  rcases h with ⟨a, rfl, rfl, _⟩ | ⟨b, off, cap, rfl, h1, h2, _⟩
  · exact ⟨a, 0, rfl, Nat.le_refl _, by omega, fun h => by omega⟩
  · exact ⟨_, cap, rfl, h1.1, h2, fun _ => ⟨b, off, rfl⟩⟩
end Go.Sc
