import Derived.Test.YtcdiehplbmkmeaaLinP
set_option linter.unusedSectionVars false
set_option linter.unusedSimpArgs false
set_option linter.unusedVariables false
set_option maxRecDepth 10000
namespace Go.Proofs.Ytcdiehplbmkmeaa
open Go Go.Sc Go.Proofs
structure Eas (c d : CallD) : Prop where
  look : d.look = c.look
  cmd : d.cmd = c.cmd
  key : d.key = c.key
  reply : d.reply = c.reply
  cap : d.cap = c.cap
  lent : d.lent = c.lent
  beg : d.beg ≤ c.beg
  fin : d.fin = c.fin ∨ d.fin < 0
theorem Eas.refl (c : CallD) : Eas c c := ⟨rfl, rfl, rfl, rfl, rfl, rfl, Int.le_refl _, .inl rfl⟩
theorem Eas.fin0 {c d : CallD} (h : Eas c d) (h0 : 0 ≤ d.fin) : d.fin = c.fin := by rcases h.fin with q | q; exact q; omega
theorem Eas.tell {c d : CallD} (h : Eas c d) {t : RL} (ht : (yy t c).1 = true) : yy t d = (true, (yy t c).2) := by
  unfold yy at ht ⊢
  rw [h.look]
  split
  · rename_i hl
    rw [if_pos hl] at ht
    dsimp only at ht ⊢
    congr 1
    have := of_decide_eq_true ht
    rw [h.key, h.cap, h.lent]
    refine decide_eq_true ?_
    rcases h.fin with q | q
    · rw [q]; exact this
    · exact .inl q
  · rename_i hl
    rw [if_neg hl] at ht
    dsimp only at ht ⊢
    rw [h.cmd, h.reply]
    congr 1
    have := of_decide_eq_true ht
    refine decide_eq_true ?_
    rcases h.fin with q | q
    · rw [q]; exact this
    · exact .inl q
theorem zAw {l : List CallD} {s : LinS} {m : MovD} (h : (zo l s m).1 = 0) : ¬ ((((l.length : Nat) : Int) ≤ m.call ∨ m.delta < 0) ∨ 1099511627776 < m.delta) ∧ ¬ yV s.t.now m.delta ≠ 0 ∧ (m.call < 0 ∨ (0 ≤ m.call ∧ (zG s.done m.call.toNat = false ∧ ¬ kM l s.done (zG l m.call.toNat)) ∧ (yy (xZ s.t m.delta) (zG l m.call.toNat)).1 = true)) := by
  unfold zo at h
  split at h
  · exact absurd h (by show ¬ (1 : Int) = 0; decide)
  · rename_i h1
    split at h
    · exact absurd h (by show ¬ (9 : Int) = 0; decide)
    · rename_i h2
      split at h
      · exact absurd h (by show ¬ (20 : Int) = 0; decide)
      · rename_i h3
        split at h
        · rename_i h4; exact absurd h h4
        · rename_i h4
          refine ⟨h1, h4, ?_⟩
          split at h
          · rename_i h5; exact .inl h5
          · rename_i h5
            have h0 : 0 ≤ m.call := by omega
            refine .inr ⟨h0, ⟨?_, fun q => h3 ⟨h0, q⟩⟩, ?_⟩
            · cases hd : zG s.done m.call.toNat with
              | false => rfl
              | true => exact absurd ⟨h0, hd⟩ h2
            · dsimp only at h
              split at h
              · rename_i h6; exact h6
              · exact absurd h (by show ¬ (18 : Int) = 0; decide)
theorem j9 {l : List CallD} {s : LinS} {m : MovD} {ms : List MovD} {i : Nat} (h : (xy l s (m :: ms) i).2 = 0) : (zo l s m).1 = 0 ∧ (xy l (zo l s m).2 ms (i + 1)).2 = 0 := by
  unfold xy at h
  split at h
  · rename_i h1; exact absurd h h1
  · rename_i h1; exact ⟨Decidable.not_not.1 h1, h⟩
theorem zEO {l : List CallD} {s : LinS} {i : Nat} (h : (xy l s [] i).2 = 0) : Whole l s.done := by
  unfold xy at h
  dsimp only at h
  split at h
  · rename_i h1; exact h1
  · exact absurd h (by decide)
theorem zBC {l : List CallD} {s : LinS} {i : Nat} (h : Whole l s.done) : (xy l s [] i).2 = 0 := by
  unfold xy; exact if_pos h
theorem zBm {l : List CallD} {s : LinS} {m : MovD} {ms : List MovD} {i : Nat} (h : (zo l s m).1 = 0) (h2 : (xy l (zo l s m).2 ms (i + 1)).2 = 0) : (xy l s (m :: ms) i).2 = 0 := by
  unfold xy; rw [if_neg (fun q => q h)]; exact h2
section
variable {l l' : List CallD}
theorem zGT (hl : l'.length = l.length) (he : ∀ i, i < l.length → Eas (zG l i) (zG l' i)) {s : LinS} {m : MovD} (h : (zo l s m).1 = 0) : zo l' s m = zo l s m := by
  obtain ⟨h1, h2, h3⟩ := zAw h
  have h1' : ¬ ((((l'.length : Nat) : Int) ≤ m.call ∨ m.delta < 0) ∨ 1099511627776 < m.delta) := by rw [hl]; exact h1
  rcases h3 with h3 | ⟨h0, ⟨h4, h5⟩, h6⟩
  · rw [mvN h1 (by omega) h2, mvN h1' (by omega) h2]
  · have hi : m.call.toNat < l.length := by omega
    have ee := he _ hi
    have h5' : ¬ kM l' s.done (zG l' m.call.toNat) := by
      rintro ⟨i, q1, q2, q3, q4⟩
      have ei := he i (by omega)
      have := ei.fin0 q3
      have := ee.beg
      exact h5 ⟨i, by omega, q2, by omega, by omega⟩
    rw [mvC h1 h0 ⟨h4, h5⟩ h2, mvC h1' h0 ⟨h4, h5'⟩ h2, ee.tell h6, h6]
theorem zEc (hl : l'.length = l.length) (he : ∀ i, i < l.length → Eas (zG l i) (zG l' i)) : ∀ (ms : List MovD) (s : LinS) (i : Nat), (xy l s ms i).2 = 0 → (xy l' s ms i).2 = 0
  | [], s, i, h => zBC fun j hj hf => by
    have ej := he j (by omega)
    exact zEO h j (by omega) (by rw [← ej.fin0 hf]; exact hf)
  | m :: ms, s, i, h => by
    obtain ⟨h1, h2⟩ := j9 h
    have e := zGT hl he h1
    refine zBm (by rw [e]; exact h1) ?_
    rw [e]; exact zEc hl he ms _ _ h2
end
theorem zD1 {l : List CallD} {e : Int} {p : CallD} (h : yv l e = some p) : p ∈ l ∧ p.edge = e := by
  unfold yv at h
  have h1 := List.mem_of_find?_eq_some h
  have h2 := List.find?_some h
  exact ⟨List.mem_reverse.1 h1, of_decide_eq_true h2⟩
theorem zDP {l : List CallD} {e : Int} (h : ∀ p ∈ l, p.edge ≠ e) : yv l e = none := by
  unfold yv
  rw [List.find?_eq_none]
  intro p hp
  simpa using h p (List.mem_reverse.1 hp)
theorem ki {α : Type} [Inhabited α] {l : List α} {k i : Nat} {x : α} (hk : k < l.length) : zG (l.set k x) i = if i = k then x else zG l i := by
  unfold zG
  rw [List.getElem?_set]
  by_cases h : k = i
  · subst h; rw [if_pos rfl, if_pos rfl, if_pos hk]; rfl
  · rw [if_neg h, if_neg fun q => h q.symm]
theorem zEt {α : Type} {P : List α → Prop} (h0 : P []) (h1 : ∀ l c, P l → P (l ++ [c])) (l : List α) : P l := by
  have h : ∀ m : List α, P m.reverse := fun m => by
    induction m with
    | nil => exact h0
    | cons c m ih => rw [List.reverse_cons]; exact h1 _ _ ih
  have h2 := h l.reverse
  rwa [List.reverse_reverse] at h2
theorem take_set {α : Type} {l : List α} {k i : Nat} {x : α} : (l.set k x).take i = (l.take i).set k x := List.take_set
theorem zFE {l : List CallD} {k : Nat} {d : CallD} (hk : k < l.length) (hS : y8 l) (hu : ∀ i, i < l.length → i ≠ k → (zG l i).edge ≠ (zG l k).edge) (hd : d.single) (hde : d.edge = (zG l k).edge) : y8 (l.set k d) := by
  intro i hi
  rw [List.length_set] at hi
  have hSi := hS i hi
  have key : ∀ (m : List CallD) (e : Int), e ≠ (zG l k).edge → ∀ j, (j < m.length → (zG m j).edge = (zG l k).edge) → yv (m.set j d) e = yv m e := by
    intro m e he
    induction m using zEt with
    | h0 => intro j _; rfl
    | h1 m c ih =>
      intro j hj
      rcases Nat.lt_trichotomy j m.length with q | q | q
      · rw [List.set_append_left _ _ q, yn, yn]
        split
        · rfl
        · exact ih j fun _ => by
            have := hj (by simp; omega)
            unfold zG at this ⊢
            rwa [List.getElem?_append_left q] at this
      · subst q
        have hc : c.edge = (zG l k).edge := by
          have := hj (by simp)
          rw [show zG (m ++ [c]) m.length = c by unfold zG; simp] at this
          exact this
        rw [List.set_append_right _ _ (Nat.le_refl _), Nat.sub_self, List.set_cons_zero, yn, yn, if_neg (by rw [hde]; exact fun q => he q.symm), if_neg (by rw [hc]; exact fun q => he q.symm)]
      · rw [List.set_eq_of_length_le (by simp; omega)]
  by_cases h : i = k
  · subst h
    rw [ki hk, if_pos rfl]
    refine ⟨hd, ?_⟩
    rw [take_set, List.set_eq_of_length_le (by rw [List.length_take]; omega)]
    have hn : yv (l.take i) d.edge = none := by
      refine zDP fun p hp => ?_
      obtain ⟨j, hj, e⟩ := List.mem_iff_getElem.1 hp
      rw [List.length_take] at hj
      have e2 : zG l j = p := by rw [List.getElem_take] at e; exact jk (by rw [List.getElem?_eq_getElem (by omega), e])
      rw [← e2, hde]; exact hu j (by omega) (by omega)
    rw [hn]; trivial
  · rw [ki hk, if_neg h]
    refine ⟨hSi.1, ?_⟩
    rw [take_set, key _ _ (hu i hi h)]
    · exact hSi.2
    · intro hj
      rw [List.length_take] at hj
      rw [kO (by omega)]
theorem zAM {l : List CallD} {ms : List MovD} (h : (zm l ms).2 = 0) : y8 l ∧ (xy l (kC l) ms 0).2 = 0 := by
  unfold zm at h
  split at h
  · rename_i hS; exact ⟨hS, h⟩
  · exact absurd h (by show ¬ (2 : Int) = 0; decide)
theorem zBu {l : List CallD} {ms : List MovD} (hS : y8 l) (h : (xy l (kC l) ms 0).2 = 0) : (zm l ms).2 = 0 := by
  unfold zm; rw [if_pos hS]; exact h
theorem zBn {l : List CallD} {k : Nat} {d : CallD} {ms : List MovD} (hk : k < l.length) (h : (zm l ms).2 = 0) (hu : ∀ i, i < l.length → i ≠ k → (zG l i).edge ≠ (zG l k).edge) (hd : d.single) (hde : d.edge = (zG l k).edge) (he : Eas (zG l k) d) : (zm (l.set k d) ms).2 = 0 := by
  obtain ⟨h1, h2⟩ := zAM h
  refine zBu (zFE hk h1 hu hd hde) ?_
  have e : kC (l.set k d) = kC l := by unfold kC; rw [List.length_set]
  rw [e]
  refine zEc (by rw [List.length_set]) (fun i hi => ?_) ms _ _ h2
  rw [ki hk]
  split
  · rename_i q; subst q; exact he
  · exact Eas.refl _
def zCd (c : CallD) : CallD := { c with beg := 0 }
def zJl (c : CallD) : CallD := { c with beg := 0, fin := -1 }
theorem zIc {l : List CallD} {k : Nat} {ms : List MovD} (hk : k < l.length) (h : (zm l ms).2 = 0) (hu : ∀ i, i < l.length → i ≠ k → (zG l i).edge ≠ (zG l k).edge) (hf : 0 ≤ (zG l k).fin) :
    (zm (l.set k (zCd (zG l k))) ms).2 = 0 ∧ (zm (l.set k (zJl (zG l k))) ms).2 = 0 := by
  have hs := ((zAM h).1 k hk).1
  have hb : 0 ≤ (zG l k).beg := by have := hs.1; omega
  refine ⟨zBn hk h hu ⟨by show ¬ ((0 : Int) < 0 ∨ (0 : Int) ≤ (zG l k).fin ∧ (zG l k).fin < 0); omega, hs.2⟩ rfl ⟨rfl, rfl, rfl, rfl, rfl, rfl, hb, .inl rfl⟩, zBn hk h hu ⟨by show ¬ ((0 : Int) < 0 ∨ (0 : Int) ≤ -1 ∧ _); omega, hs.2⟩ rfl ⟨rfl, rfl, rfl, rfl, rfl, rfl, hb, .inr (by show (-1 : Int) < 0; decide)⟩⟩
theorem zCE {l : List CallD} : ∀ (ms : List MovD) (s : LinS) (i : Nat), (xy l s ms i).2 = 0 → ∀ m ∈ ms, m.call < (l.length : Int)
  | [], s, i, h => by simp
  | m :: ms, s, i, h => by
    obtain ⟨h1, h2⟩ := j9 h
    intro x hx
    rcases List.mem_cons.1 hx with rfl | hx
    · have := (zAw h1).1; omega
    · exact zCE ms _ _ h2 x hx
def xk (t : Int) (c : CallD) : CallD := if t < c.fin then { c with fin := -1 } else c
def yF (t : Int) (c : CallD) : Bool := decide (c.beg ≤ t)
def piC (t : Int) (l : List CallD) (i : Nat) : Nat := ((l.take i).filter (yF t)).length
def kD (t : Int) (l : List CallD) : List CallD := (l.filter (yF t)).map (xk t)
def yT (t : Int) (l : List CallD) (m : MovD) : MovD := if m.call < 0 then m else { m with call := (piC t l m.call.toNat : Int) }
def jH (t : Int) (l : List CallD) (m : MovD) : Prop := m.call < 0 ∨ yF t (zG l m.call.toNat) = true
section
variable {t : Int} {l : List CallD}
theorem jS {i : Nat} (hi : i < l.length) : (l.take (i + 1)).filter (yF t) = (l.take i).filter (yF t) ++ if yF t (zG l i) = true then [zG l i] else [] := by
  rw [xA hi, List.filter_append]
  congr 1
  split
  · rename_i h; rw [List.filter_cons_of_pos h]; rfl
  · rename_i h; rw [List.filter_cons_of_neg h]; rfl
theorem zGt {i : Nat} (hi : i < l.length) (hk : yF t (zG l i) = true) : l.filter (yF t) = (l.take i).filter (yF t) ++ zG l i :: (l.drop (i + 1)).filter (yF t) := by
  conv => lhs; rw [← List.take_append_drop i l, zDX hi]
  rw [List.filter_append, List.filter_cons_of_pos hk]
theorem zDc {i : Nat} (hi : i < l.length) (hk : yF t (zG l i) = true) : piC t l i < (kD t l).length ∧ zG (kD t l) (piC t l i) = xk t (zG l i) ∧ (kD t l).take (piC t l i) = ((l.take i).filter (yF t)).map (xk t) := by
  unfold kD piC
  rw [zGt hi hk]
  refine ⟨by simp, ?_, by simp⟩
  unfold zG
  simp
theorem zDe {n : Nat} (hn : n ≤ l.length) {j : Nat} (hj : j < ((l.take n).filter (yF t)).length) : ∃ i, i < n ∧ yF t (zG l i) = true ∧ piC t l i = j := by
  induction n with
  | zero => simp at hj
  | succ n ih =>
    rw [jS (by omega), List.length_append] at hj
    by_cases q : j < ((l.take n).filter (yF t)).length
    · obtain ⟨i, h1, h2, h3⟩ := ih (by omega) q
      exact ⟨i, by omega, h2, h3⟩
    · split at hj
      · rename_i hk
        exact ⟨n, by omega, hk, by unfold piC; simp at hj; omega⟩
      · simp at hj; omega
theorem zIa {i j : Nat} (hij : i < j) (hj : j ≤ l.length) (hk : yF t (zG l i) = true) : piC t l i < piC t l j := by
  have h1 : piC t l (i + 1) = piC t l i + 1 := by unfold piC; rw [jS (by omega), if_pos hk]; simp
  have h2 : piC t l (i + 1) ≤ piC t l j := by
    have e : l.take (i + 1) = (l.take j).take (i + 1) := by rw [List.take_take, Nat.min_eq_left (show i + 1 ≤ j from hij)]
    unfold piC
    rw [e]; exact ((List.take_sublist _ _).filter _).length_le
  omega
theorem zI5 {i j : Nat} (hi : i < l.length) (hj : j < l.length) (h1 : yF t (zG l i) = true) (h2 : yF t (zG l j) = true) (e : piC t l i = piC t l j) : i = j := by
  rcases Nat.lt_trichotomy i j with q | q | q
  · have := zIa q (by omega) h1; omega
  · exact q
  · have := zIa q (by omega) h2; omega
theorem zEo {c : CallD} (h : 0 ≤ (xk t c).fin) : (xk t c).fin = c.fin ∧ c.fin ≤ t := by
  unfold xk at h ⊢
  split at h
  · exact absurd h (by show ¬ (0 : Int) ≤ -1; decide)
  · rename_i q; rw [if_neg q]; exact ⟨rfl, by omega⟩
theorem zBF (c : CallD) : (xk t c).edge = c.edge := by unfold xk; split <;> rfl
theorem zES (c : CallD) : (xk t c).beg = c.beg := by unfold xk; split <;> rfl
theorem zHX (c : CallD) : Eas c (xk t c) := by
  unfold xk
  split
  · exact ⟨rfl, rfl, rfl, rfl, rfl, rfl, Int.le_refl _, .inr (by show (-1 : Int) < 0; decide)⟩
  · exact Eas.refl _
theorem zD8 {c : CallD} (h : c.single) : (xk t c).single := by
  unfold xk
  split
  · refine ⟨?_, h.2⟩
    show ¬ (c.beg < 0 ∨ (0 : Int) ≤ -1 ∧ _)
    have := h.1; omega
  · exact h
theorem zBE : ∀ (m : List CallD) (e : Int), (∀ p, yv m e = some p → yF t p = true) → yv ((m.filter (yF t)).map (xk t)) e = (yv m e).map (xk t) := by
  intro m e
  induction m using zEt with
  | h0 => intro _; rfl
  | h1 m c ih =>
    intro h
    rw [yn] at h ⊢
    rw [List.filter_append, List.map_append]
    by_cases q : c.edge = e
    · rw [if_pos q] at h ⊢
      have hk := h c rfl
      rw [List.filter_cons_of_pos hk, List.filter_nil, List.map_cons, List.map_nil, yn, zBF, if_pos q]; rfl
    · rw [if_neg q] at h ⊢
      by_cases hk : yF t c = true
      · rw [List.filter_cons_of_pos hk, List.filter_nil, List.map_cons, List.map_nil, yn, zBF, if_neg q]; exact ih h
      · rw [List.filter_cons_of_neg hk, List.filter_nil, List.map_nil, List.append_nil]; exact ih h
theorem zEy (hS : y8 l) : y8 (kD t l) := by
  intro j hj
  have hj' : j < ((l.take l.length).filter (yF t)).length := by rw [List.take_length]; simpa [kD] using hj
  obtain ⟨i, hi, hk, rfl⟩ := zDe (Nat.le_refl _) hj'
  obtain ⟨p1, p2, p3⟩ := zDc hi hk
  obtain ⟨s1, s2⟩ := hS i hi
  rw [p2, p3]
  refine ⟨zD8 s1, ?_⟩
  rw [zBF]
  have hb : (zG l i).beg ≤ t := of_decide_eq_true hk
  cases hlo : yv (l.take i) (zG l i).edge with
  | none => rw [zBE _ _ (by rw [hlo]; intro p q; cases q), hlo]; trivial
  | some p =>
    rw [hlo] at s2
    have s2 : ¬ (p.fin < 0 ∨ (zG l i).beg ≤ p.fin) := s2
    have hpm := (zD1 hlo).1
    obtain ⟨n, hn, e⟩ := List.mem_iff_getElem.1 hpm
    rw [List.length_take] at hn
    have e2 : zG l n = p := by rw [List.getElem_take] at e; exact jk (by rw [List.getElem?_eq_getElem (by omega), e])
    have hp1 := (hS n (by omega)).1.1
    rw [e2] at hp1
    have hpk : yF t p = true := decide_eq_true (by omega)
    rw [zBE _ _ (by rw [hlo]; intro p' q; cases q; exact hpk), hlo]
    show ¬ ((xk t p).fin < 0 ∨ (xk t (zG l i)).beg ≤ (xk t p).fin)
    have e3 : xk t p = p := by unfold xk; rw [if_neg (by omega)]
    rw [e3, zES]; exact s2
structure CutR (t : Int) (l : List CallD) (s s' : LinS) : Prop where
  led : s'.t = s.t
  len : s.done.length = l.length
  len' : s'.done.length = (kD t l).length
  kept : ∀ i, i < l.length → yF t (zG l i) = true → zG s'.done (piC t l i) = zG s.done i
theorem zF4 {s s' : LinS} {m : MovD} (hR : CutR t l s s') (h : (zo l s m).1 = 0) (hm : jH t l m) : (zo (kD t l) s' (yT t l m)).1 = 0 ∧ CutR t l (zo l s m).2 (zo (kD t l) s' (yT t l m)).2 := by
  obtain ⟨h1, h2, h3⟩ := zAw h
  by_cases h0 : m.call < 0
  · have e : yT t l m = m := if_pos h0
    rw [e, mvN (s := s) h1 (by omega) h2, mvN (s := s') (by omega) (by omega) (by rw [hR.led]; exact h2)]
    exact ⟨rfl, ⟨by show xZ s'.t m.delta = xZ s.t m.delta; rw [hR.led], hR.len, hR.len', hR.kept⟩⟩
  · have hmk : yF t (zG l m.call.toNat) = true := by rcases hm with q | q; exact absurd q h0; exact q
    obtain ⟨h0', ⟨h4, h5⟩, h6⟩ := h3.resolve_left h0
    have hi : m.call.toNat < l.length := by omega
    obtain ⟨p1, p2, p3⟩ := zDc hi hmk
    have ec : (yT t l m).call = (piC t l m.call.toNat : Int) := by unfold yT; rw [if_neg h0]
    have ed : (yT t l m).delta = m.delta := by unfold yT; rw [if_neg h0]
    have et : (yT t l m).call.toNat = piC t l m.call.toNat := by rw [ec]; rfl
    have h5' : ¬ kM (kD t l) s'.done (zG (kD t l) (yT t l m).call.toNat) := by
      rw [et, p2]
      rintro ⟨j, q1, q2, q3, q4⟩
      have q1' : j < ((l.take l.length).filter (yF t)).length := by rw [List.take_length]; simpa [kD] using q1
      obtain ⟨i, hi2, hk2, rfl⟩ := zDe (Nat.le_refl _) q1'
      rw [(zDc hi2 hk2).2.1] at q3 q4
      rw [zES] at q4
      have := zEo q3
      exact h5 ⟨i, hi2, by rw [← hR.kept i hi2 hk2]; exact q2, by omega, by omega⟩
    have h4' : zG s'.done (yT t l m).call.toNat = false := by rw [et, hR.kept _ hi hmk]; exact h4
    have c' : ¬ (((((kD t l).length : Nat) : Int) ≤ (yT t l m).call ∨ (yT t l m).delta < 0) ∨ 1099511627776 < (yT t l m).delta) := by rw [ec, ed]; omega
    have hte : (yy (xZ s'.t (yT t l m).delta) (zG (kD t l) (yT t l m).call.toNat)) = (true, (yy (xZ s.t m.delta) (zG l m.call.toNat)).2) := by
      rw [et, p2, ed, hR.led]; exact (zHX _).tell h6
    rw [mvC (s := s) h1 h0' ⟨h4, h5⟩ h2, mvC (s := s') c' (by rw [ec]; omega) ⟨h4', h5'⟩ (by rw [hR.led, ed]; exact h2), hte, h6]
    refine ⟨rfl, ⟨rfl, by show (s.done.set _ _).length = _; rw [List.length_set]; exact hR.len, by show (s'.done.set _ _).length = _; rw [List.length_set]; exact hR.len', fun i hi2 hk2 => ?_⟩⟩
    show zG (s'.done.set (yT t l m).call.toNat true) _ = zG (s.done.set m.call.toNat true) i
    rw [et, ki (by rw [hR.len']; exact p1), ki (by rw [hR.len]; exact hi)]
    by_cases q : i = m.call.toNat
    · rw [if_pos q, if_pos (by rw [q])]
    · rw [if_neg q, if_neg (fun k => q (zI5 hi2 hi hk2 hmk k))]; exact hR.kept i hi2 hk2
theorem zCA {s s' : LinS} (hR : CutR t l s s') (h : ∀ i, i < l.length → 0 ≤ (zG l i).fin → (zG l i).fin ≤ t → zG s.done i = true) : Whole (kD t l) s'.done := fun j hj hf => by
  have hj' : j < ((l.take l.length).filter (yF t)).length := by rw [List.take_length]; simpa [kD] using hj
  obtain ⟨i, hi, hk, rfl⟩ := zDe (Nat.le_refl _) hj'
  rw [(zDc hi hk).2.1] at hf
  have := zEo hf
  rw [hR.kept i hi hk]; exact h i hi (by omega) this.2
theorem zEd : ∀ (ms : List MovD) (s s' : LinS) (n i j : Nat), CutR t l s s' → (xy l s ms i).2 = 0 → n ≤ ms.length → (∀ k, k < n → jH t l (zG ms k)) → (n = ms.length ∨ ¬ jH t l (zG ms n)) → (xy (kD t l) s' ((ms.take n).map (yT t l)) j).2 = 0
  | [], s, s', n, i, j, hR, h, hn, _, _ => by
    have e : ([] : List MovD).take n = [] := by simp
    rw [e]
    exact zBC (zCA hR fun i hi hf _ => zEO h i hi hf)
  | m :: ms, s, s', 0, i, j, hR, h, hn, hk, he => by
    have hb : ¬ jH t l m := by rcases he with q | q; simp at q; exact q
    obtain ⟨h1, h2⟩ := j9 h
    obtain ⟨_, _, h3⟩ := zAw h1
    have h0 : ¬ m.call < 0 := fun q => hb (.inl q)
    obtain ⟨h0', ⟨h4, h5⟩, _⟩ := h3.resolve_left h0
    have hbg : t < (zG l m.call.toNat).beg := Int.not_le.1 fun q => hb (.inr (decide_eq_true q))
    refine zBC (zCA hR fun i hi hf hft => ?_)
    cases hd : zG s.done i with
    | true => rfl
    | false => exact absurd ⟨i, hi, hd, hf, by omega⟩ h5
  | m :: ms, s, s', n + 1, i, j, hR, h, hn, hk, he => by
    obtain ⟨h1, h2⟩ := j9 h
    obtain ⟨c1, c2⟩ := zF4 hR h1 (hk 0 (by omega))
    rw [List.take_succ_cons, List.map_cons]
    refine zBm c1 (zEd ms _ _ n _ _ c2 h2 (by simpa using hn) (fun k q => hk (k + 1) (by omega)) ?_)
    rcases he with q | q
    · left; simpa using q
    · right; exact q
theorem zJr {ms : List MovD} {n : Nat} (h : (zm l ms).2 = 0) (hn : n ≤ ms.length) (hk : ∀ k, k < n → jH t l (zG ms k)) (he : n = ms.length ∨ ¬ jH t l (zG ms n)) : (zm (kD t l) ((ms.take n).map (yT t l))).2 = 0 := by
  obtain ⟨h1, h2⟩ := zAM h
  refine zBu (zEy h1) (zEd ms (kC l) _ n 0 0 ⟨rfl, by simp [kC], by simp [kC], fun i hi hk => ?_⟩ h2 hn hk he)
  have p1 := (zDc hi hk).1
  unfold kC zG
  rw [List.getElem?_replicate, List.getElem?_replicate, if_pos p1, if_pos hi]
end
end Go.Proofs.Ytcdiehplbmkmeaa
