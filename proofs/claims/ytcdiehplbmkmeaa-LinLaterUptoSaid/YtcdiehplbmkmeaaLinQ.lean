import Derived.Test.YtcdiehplbmkmeaaLinP
set_option linter.unusedSectionVars false
set_option linter.unusedSimpArgs false
set_option linter.unusedVariables false
set_option maxRecDepth 10000
namespace Go.Proofs.Ytcdiehplbmkmeaa
open Go Go.Sc Go.Proofs
structure Eas (c d : CallD) : Prop where
  look : d.look = c.look
  cmd : d.cmd = c.cmd
  key : d.key = c.key
  reply : d.reply = c.reply
  cap : d.cap = c.cap
  lent : d.lent = c.lent
  beg : d.beg ≤ c.beg
  fin : d.fin = c.fin ∨ d.fin < 0
theorem Eas.refl (c : CallD) : Eas c c := ⟨rfl, rfl, rfl, rfl, rfl, rfl, Int.le_refl _, .inl rfl⟩
theorem Eas.fin0 {c d : CallD} (h : Eas c d) (h0 : 0 ≤ d.fin) : d.fin = c.fin := by rcases h.fin with q | q; exact q; omega
theorem Eas.tell {c d : CallD} (h : Eas c d) {t : RL} (ht : (yy t c).1 = true) : yy t d = (true, (yy t c).2) := by
  unfold yy at ht ⊢
  rw [h.look]
  split
  · rename_i hl
    rw [if_pos hl] at ht
    dsimp only at ht ⊢
    congr 1
    have := of_decide_eq_true ht
    rw [h.key, h.cap, h.lent]
    refine decide_eq_true ?_
    rcases h.fin with q | q
    · rw [q]; exact this
    · exact .inl q
  · rename_i hl
    rw [if_neg hl] at ht
    dsimp only at ht ⊢
    rw [h.cmd, h.reply]
    congr 1
    have := of_decide_eq_true ht
    refine decide_eq_true ?_
    rcases h.fin with q | q
    · rw [q]; exact this
    · exact .inl q
theorem zGl {l : List CallD} {s : LinS} {m : MovD} (h : (zq l s m).1 = 0) : ¬ ((((l.length : Nat) : Int) ≤ m.call ∨ m.delta < 0) ∨ 1099511627776 < m.delta) ∧ ¬ yQ s.t.now m.delta ≠ 0 ∧ (m.call < 0 ∨ (0 ≤ m.call ∧ (zG s.done m.call.toNat = false ∧ ¬ kP l s.done (zG l m.call.toNat)) ∧ (yy (x3 s.t m.delta) (zG l m.call.toNat)).1 = true)) := by
  unfold zq at h
  split at h
  · exact absurd h (by show ¬ (1 : Int) = 0; decide)
  · rename_i h1
    split at h
    · exact absurd h (by show ¬ (9 : Int) = 0; decide)
    · rename_i h2
      split at h
      · exact absurd h (by show ¬ (20 : Int) = 0; decide)
      · rename_i h3
        split at h
        · rename_i h4; exact absurd h h4
        · rename_i h4
          refine ⟨h1, h4, ?_⟩
          split at h
          · rename_i h5; exact .inl h5
          · rename_i h5
            have h0 : 0 ≤ m.call := by omega
            refine .inr ⟨h0, ⟨?_, fun q => h3 ⟨h0, q⟩⟩, ?_⟩
            · cases hd : zG s.done m.call.toNat with
              | false => rfl
              | true => exact absurd ⟨h0, hd⟩ h2
            · dsimp only at h
              split at h
              · rename_i h6; exact h6
              · exact absurd h (by show ¬ (18 : Int) = 0; decide)
theorem zFk {l : List CallD} {s : LinS} {m : MovD} {ms : List MovD} {i : Nat} (h : (kE l s (m :: ms) i).2 = 0) : (zq l s m).1 = 0 ∧ (kE l (zq l s m).2 ms (i + 1)).2 = 0 := by
  unfold kE at h
  split at h
  · rename_i h1; exact absurd h h1
  · rename_i h1; exact ⟨Decidable.not_not.1 h1, h⟩
theorem zHT {l : List CallD} {s : LinS} {i : Nat} (h : (kE l s [] i).2 = 0) : Whole l s.done := by
  unfold kE at h
  dsimp only at h
  split at h
  · rename_i h1; exact h1
  · exact absurd h (by decide)
theorem zGR {l : List CallD} {s : LinS} {i : Nat} (h : Whole l s.done) : (kE l s [] i).2 = 0 := by
  unfold kE; exact if_pos h
theorem zEr {l : List CallD} {s : LinS} {m : MovD} {ms : List MovD} {i : Nat} (h : (zq l s m).1 = 0) (h2 : (kE l (zq l s m).2 ms (i + 1)).2 = 0) : (kE l s (m :: ms) i).2 = 0 := by
  unfold kE; rw [if_neg (fun q => q h)]; exact h2
section
variable {l l' : List CallD}
theorem zE5 (hl : l'.length = l.length) (he : ∀ i, i < l.length → Eas (zG l i) (zG l' i)) {s : LinS} {m : MovD} (h : (zq l s m).1 = 0) : zq l' s m = zq l s m := by
  obtain ⟨h1, h2, h3⟩ := zGl h
  have h1' : ¬ ((((l'.length : Nat) : Int) ≤ m.call ∨ m.delta < 0) ∨ 1099511627776 < m.delta) := by rw [hl]; exact h1
  rcases h3 with h3 | ⟨h0, ⟨h4, h5⟩, h6⟩
  · rw [mvN h1 (by omega) h2, mvN h1' (by omega) h2]
  · have hi : m.call.toNat < l.length := by omega
    have ee := he _ hi
    have h5' : ¬ kP l' s.done (zG l' m.call.toNat) := by
      rintro ⟨i, q1, q2, q3, q4⟩
      have ei := he i (by omega)
      have := ei.fin0 q3
      have := ee.beg
      exact h5 ⟨i, by omega, q2, by omega, by omega⟩
    rw [mvC h1 h0 ⟨h4, h5⟩ h2, mvC h1' h0 ⟨h4, h5'⟩ h2, ee.tell h6, h6]
theorem zD8 (hl : l'.length = l.length) (he : ∀ i, i < l.length → Eas (zG l i) (zG l' i)) : ∀ (ms : List MovD) (s : LinS) (i : Nat), (kE l s ms i).2 = 0 → (kE l' s ms i).2 = 0
  | [], s, i, h => zGR fun j hj hf => by
    have ej := he j (by omega)
    exact zHT h j (by omega) (by rw [← ej.fin0 hf]; exact hf)
  | m :: ms, s, i, h => by
    obtain ⟨h1, h2⟩ := zFk h
    have e := zE5 hl he h1
    refine zEr (by rw [e]; exact h1) ?_
    rw [e]; exact zD8 hl he ms _ _ h2
end
theorem zCo {l : List CallD} {e : Int} (h : ∀ p ∈ l, p.edge ≠ e) : xh l e = none := by
  unfold xh
  rw [List.find?_eq_none]
  intro p hp
  simpa using h p (List.mem_reverse.1 hp)
theorem zAf {α : Type} [Inhabited α] {l : List α} {k i : Nat} {x : α} (hk : k < l.length) : zG (l.set k x) i = if i = k then x else zG l i := by
  unfold zG
  rw [List.getElem?_set]
  by_cases h : k = i
  · subst h; rw [if_pos rfl, if_pos rfl, if_pos hk]; rfl
  · rw [if_neg h, if_neg fun q => h q.symm]
theorem zGj {α : Type} {P : List α → Prop} (h0 : P []) (h1 : ∀ l c, P l → P (l ++ [c])) (l : List α) : P l := by
  have h : ∀ m : List α, P m.reverse := fun m => by
    induction m with
    | nil => exact h0
    | cons c m ih => rw [List.reverse_cons]; exact h1 _ _ ih
  have h2 := h l.reverse
  rwa [List.reverse_reverse] at h2
theorem take_set {α : Type} {l : List α} {k i : Nat} {x : α} : (l.set k x).take i = (l.take i).set k x := List.take_set
theorem zEm {l : List CallD} {k : Nat} {d : CallD} (hk : k < l.length) (hS : xB l) (hu : ∀ i, i < l.length → i ≠ k → (zG l i).edge ≠ (zG l k).edge) (hd : d.single) (hde : d.edge = (zG l k).edge) : xB (l.set k d) := by
  intro i hi
  rw [List.length_set] at hi
  have hSi := hS i hi
  have key : ∀ (m : List CallD) (e : Int), e ≠ (zG l k).edge → ∀ j, (j < m.length → (zG m j).edge = (zG l k).edge) → xh (m.set j d) e = xh m e := by
    intro m e he
    induction m using zGj with
    | h0 => intro j _; rfl
    | h1 m c ih =>
      intro j hj
      rcases Nat.lt_trichotomy j m.length with q | q | q
      · rw [List.set_append_left _ _ q, xY, xY]
        split
        · rfl
        · exact ih j fun _ => by
            have := hj (by simp; omega)
            unfold zG at this ⊢
            rwa [List.getElem?_append_left q] at this
      · subst q
        have hc : c.edge = (zG l k).edge := by
          have := hj (by simp)
          rw [show zG (m ++ [c]) m.length = c by unfold zG; simp] at this
          exact this
        rw [List.set_append_right _ _ (Nat.le_refl _), Nat.sub_self, List.set_cons_zero, xY, xY, if_neg (by rw [hde]; exact fun q => he q.symm), if_neg (by rw [hc]; exact fun q => he q.symm)]
      · rw [List.set_eq_of_length_le (by simp; omega)]
  by_cases h : i = k
  · subst h
    rw [zAf hk, if_pos rfl]
    refine ⟨hd, ?_⟩
    rw [take_set, List.set_eq_of_length_le (by rw [List.length_take]; omega)]
    have hn : xh (l.take i) d.edge = none := by
      refine zCo fun p hp => ?_
      obtain ⟨j, hj, e⟩ := List.mem_iff_getElem.1 hp
      rw [List.length_take] at hj
      have e2 : zG l j = p := by rw [List.getElem_take] at e; exact zAC (by rw [List.getElem?_eq_getElem (by omega), e])
      rw [← e2, hde]; exact hu j (by omega) (by omega)
    rw [hn]; trivial
  · rw [zAf hk, if_neg h]
    refine ⟨hSi.1, ?_⟩
    rw [take_set, key _ _ (hu i hi h)]
    · exact hSi.2
    · intro hj
      rw [List.length_take] at hj
      rw [kN (by omega)]
theorem zC4 {l : List CallD} {ms : List MovD} (h : (z5 l ms).2 = 0) : xB l ∧ (kE l (ka l) ms 0).2 = 0 := by
  unfold z5 at h
  split at h
  · rename_i hS; exact ⟨hS, h⟩
  · exact absurd h (by show ¬ (2 : Int) = 0; decide)
theorem zET {l : List CallD} {ms : List MovD} (hS : xB l) (h : (kE l (ka l) ms 0).2 = 0) : (z5 l ms).2 = 0 := by
  unfold z5; rw [if_pos hS]; exact h
theorem zBl {l : List CallD} {k : Nat} {d : CallD} {ms : List MovD} (hk : k < l.length) (h : (z5 l ms).2 = 0) (hu : ∀ i, i < l.length → i ≠ k → (zG l i).edge ≠ (zG l k).edge) (hd : d.single) (hde : d.edge = (zG l k).edge) (he : Eas (zG l k) d) : (z5 (l.set k d) ms).2 = 0 := by
  obtain ⟨h1, h2⟩ := zC4 h
  refine zET (zEm hk h1 hu hd hde) ?_
  have e : ka (l.set k d) = ka l := by unfold ka; rw [List.length_set]
  rw [e]
  refine zD8 (by rw [List.length_set]) (fun i hi => ?_) ms _ _ h2
  rw [zAf hk]
  split
  · rename_i q; subst q; exact he
  · exact Eas.refl _
def zB3 (c : CallD) : CallD := { c with beg := 0 }
def zJN (c : CallD) : CallD := { c with beg := 0, fin := -1 }
theorem zHz {l : List CallD} {k : Nat} {ms : List MovD} (hk : k < l.length) (h : (z5 l ms).2 = 0) (hu : ∀ i, i < l.length → i ≠ k → (zG l i).edge ≠ (zG l k).edge) (hf : 0 ≤ (zG l k).fin) :
    (z5 (l.set k (zB3 (zG l k))) ms).2 = 0 ∧ (z5 (l.set k (zJN (zG l k))) ms).2 = 0 := by
  have hs := ((zC4 h).1 k hk).1
  have hb : 0 ≤ (zG l k).beg := by have := hs.1; omega
  refine ⟨zBl hk h hu ⟨by show ¬ ((0 : Int) < 0 ∨ (0 : Int) ≤ (zG l k).fin ∧ (zG l k).fin < 0); omega, hs.2⟩ rfl ⟨rfl, rfl, rfl, rfl, rfl, rfl, hb, .inl rfl⟩, zBl hk h hu ⟨by show ¬ ((0 : Int) < 0 ∨ (0 : Int) ≤ -1 ∧ _); omega, hs.2⟩ rfl ⟨rfl, rfl, rfl, rfl, rfl, rfl, hb, .inr (by show (-1 : Int) < 0; decide)⟩⟩
def zJT (t : Int) (c : CallD) : CallD := if t < c.fin then { c with fin := -1 } else c
def zBa (t : Int) (c : CallD) : Bool := decide (c.beg ≤ t)
def piC (t : Int) (l : List CallD) (i : Nat) : Nat := ((l.take i).filter (zBa t)).length
def zKQ (t : Int) (l : List CallD) : List CallD := (l.filter (zBa t)).map (zJT t)
def cutM (t : Int) (l : List CallD) (m : MovD) : MovD := if m.call < 0 then m else { m with call := (piC t l m.call.toNat : Int) }
def KeptM (t : Int) (l : List CallD) (m : MovD) : Prop := m.call < 0 ∨ zBa t (zG l m.call.toNat) = true
section
variable {t : Int} {l : List CallD}
structure CutR (t : Int) (l : List CallD) (s s' : LinS) : Prop where
  led : s'.t = s.t
  len : s.done.length = l.length
  len' : s'.done.length = (zKQ t l).length
  kept : ∀ i, i < l.length → zBa t (zG l i) = true → zG s'.done (piC t l i) = zG s.done i
end
end Go.Proofs.Ytcdiehplbmkmeaa
