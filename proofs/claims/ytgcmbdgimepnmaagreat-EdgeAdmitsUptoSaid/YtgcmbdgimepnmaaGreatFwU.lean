/-
  MANY RESOURCES AS ONE: parts of them, and two such joined; differences of numbers.
-/
import Derived.Test.YtgcmbdgimepnmaaGreatFwT
set_option linter.unusedVariables false
set_option linter.unusedSectionVars false
namespace Go.Sc

theorem ws {a b : Nat} (h : b ≤ a) (h2 : a < 18446744073709551616) : IntKind.u64.wrap ((a : Int) - (b : Int)) = ((a - b : Nat) : Int) := by
  rw [show (a : Int) - (b : Int) = ((a - b : Nat) : Int) by omega]; exact wu64 (by omega)
section
variable {w0 w w' : World} {S : List Nat} {L Lin Lout : List Res}
end

/-! writing into a slice of one's own -/
theorem vec_set {w : World} {e : TypeId} {sz n o : Nat} {v u : Value} {cs : List Value} (h : w.ownsRow 0 e sz v n cs) (ho : o < cs.length) :
    (∃ u0, w.cell? ⟨blkV v, offV v + o, none⟩ = some u0) ∧ w.frozen? ⟨blkV v, offV v + o, none⟩ = false ∧ (w.setCell ⟨blkV v, offV v + o, none⟩ u).ownsRow 0 e sz v n (cs.set o u) ∧ blkOf v = [blkV v] ∧ Keep [blkV v] w (w.setCell ⟨blkV v, offV v + o, none⟩ u) := by
  obtain ⟨hl, h | ⟨g, cap, cur, rfl, h0, h1, h2, h3, h4, h5⟩⟩ := h
  · obtain ⟨rfl, rfl⟩ := h; simp at hl; subst hl; simp at ho
  · have e1 : blkV (.slice (some ⟨g, 0, none⟩) n cap) = g := rfl
    have e2 : offV (.slice (some ⟨g, 0, none⟩) n cap) = 0 := rfl
    rw [e1, e2, Nat.zero_add]
    have hr : Row w g e cur.toList := ⟨0, 0, by simpa using h1, .inl (Nat.le_refl _)⟩
    have hle : n * sz ≤ cur.size := by rw [h4]; exact Nat.mul_le_mul_right _ h2
    have hoc : o < cur.toList.length := by simp; omega
    have hs := hr.set (off := o) u
    refine ⟨⟨_, hr.cell (List.getElem?_eq_getElem hoc)⟩, hr.free hoc, ⟨by simpa using hl, .inr ⟨g, cap, cur.setIfInBounds o u, rfl, h0, ?_, h2, h3, by simpa using h4, ?_⟩⟩, rfl, hs.2⟩
    · simp [World.setCell, Array.getElem?_modify, h1]
    · rw [← h5, Array.toList_setIfInBounds, List.take_set]
theorem vec_setN {P : Program} {w : World} {e : TypeId} {sz n o : Nat} {v : Value} {cs vs : List Value} (h : w.ownsRow 0 e sz v n cs) (hv : ∀ u ∈ vs, cell1 u = true) (ho : o + vs.length ≤ cs.length) (hp : 0 < vs.length) :
    ∃ w', (storeCells ⟨blkV v, offV v + o, none⟩ vs 0).run P w = .ok () w' ∧ w'.ownsRow 0 e sz v n (splice cs o vs) ∧ blkOf v = [blkV v] ∧ Keep [blkV v] w w' := by
  obtain ⟨hl, h | ⟨g, cap, cur, rfl, h0, h1, h2, h3, h4, h5⟩⟩ := h
  · obtain ⟨_, rfl⟩ := h; rw [Nat.zero_mul] at hl; omega
  · have e1 : blkV (.slice (some ⟨g, 0, none⟩) n cap) = g := rfl
    have e2 : offV (.slice (some ⟨g, 0, none⟩) n cap) = 0 := rfl
    rw [e1, e2, Nat.zero_add]
    -- one cell after the other
    have key : ∀ (us : List Value) (k : Nat) (w : World) (cs : List Value), (∀ u ∈ us, cell1 u = true) → w.ownsRow 0 e sz (.slice (some ⟨g, 0, none⟩) n cap) n cs → o + k + us.length ≤ cs.length →
        ∃ w', (storeCells ⟨g, o, none⟩ us k).run P w = .ok () w' ∧ w'.ownsRow 0 e sz (.slice (some ⟨g, 0, none⟩) n cap) n (splice cs (o + k) us) ∧ Keep [g] w w' := by
      intro us
      induction us with
      | nil => intro k w cs _ hO _; exact ⟨w, by simp [storeCells], by simpa [splice] using hO, Keep.refl _ _⟩
      | cons u us ih =>
        intro k w cs hu hO hle
        simp only [List.length_cons] at hle
        obtain ⟨⟨u0, hc⟩, hf, hO', hb, hk⟩ := vec_set (u := u) (o := o + k) hO (by omega)
        rw [e1, e2, Nat.zero_add] at hc hf hO' hk
        have hs := run_store1 (P := P) (w := w) (a := ⟨g, o + k, none⟩) (hu u (by simp)) hc hf
        obtain ⟨w', hw, hr', hk'⟩ := ih (k + 1) _ _ (fun z hz => hu z (by simp [hz])) hO' (by simp; omega)
        refine ⟨w', by simp [storeCells, add_at, hs, hw], ?_, hk.trans hk'⟩
        have : splice (cs.set (o + k) u) (o + (k + 1)) us = splice cs (o + k) (u :: us) := by
          unfold splice
          have hlt : o + k < cs.length := by omega
          have e1 : (cs.set (o + k) u).take (o + (k + 1)) = cs.take (o + k) ++ [u] := by
            rw [show o + (k + 1) = (o + k) + 1 by omega, List.take_set, List.take_succ_eq_append_getElem hlt, List.set_append_right _ _ (by simp; omega)]
            simp [Nat.min_eq_left (Nat.le_of_lt hlt)]
          have e2 : (cs.set (o + k) u).drop (o + (k + 1) + us.length) = cs.drop (o + k + (us.length + 1)) := by
            rw [List.drop_set_of_lt (by omega)]
            congr 1
            omega
          rw [e1, e2]; simp
        rwa [this] at hr'
    obtain ⟨w', q1, q2, q3⟩ := key vs 0 w cs hv ⟨hl, .inr ⟨g, cap, cur, rfl, h0, h1, h2, h3, h4, h5⟩⟩ (by omega)
    exact ⟨w', q1, q2, rfl, q3⟩
theorem flat_set1 {α : Type} {g : α → List Value} (hg : ∀ x, (g x).length = 1) {l : List α} {k : Nat} {a : α} : (l.set k a).flatMap g = (l.flatMap g).set k ((g a).headD default) := by
  induction l generalizing k with
  | nil => simp
  | cons b l ih =>
    have hb := hg b
    have ha := hg a
    match hgb : g b, hga : g a, hb, ha with
    | [x], [y], _, _ =>
      cases k with
      | zero => simp [hgb, hga]
      | succ k => simp only [List.set_cons_succ, List.flatMap_cons, hgb, List.cons_append, List.nil_append, ih, hga]
theorem flat_setN {α : Type} {g : α → List Value} {sz : Nat} (hg : ∀ x, (g x).length = sz) : ∀ {l : List α} {k : Nat} {a : α}, k < l.length → (l.set k a).flatMap g = splice (l.flatMap g) (k * sz) (g a)
  | [], k, a, h => by simp at h
  | b :: l, 0, a, _ => by
    simp only [List.set_cons_zero, List.flatMap_cons, splice, Nat.zero_mul, List.take_zero, List.nil_append, Nat.zero_add]
    rw [List.drop_append_of_le_length (by rw [hg, hg]; exact Nat.le_refl _), List.drop_of_length_le (by rw [hg, hg]; exact Nat.le_refl _), List.nil_append]
  | b :: l, k + 1, a, h => by
    have ih := flat_setN hg (l := l) (k := k) (a := a) (by simpa using h)
    simp only [List.set_cons_succ, List.flatMap_cons, ih, splice]
    rw [Nat.add_mul, Nat.one_mul, Nat.add_comm (k * sz) sz]
    have hb := hg b
    have e1 : (g b ++ l.flatMap g).take (sz + k * sz) = g b ++ (l.flatMap g).take (k * sz) := by
      rw [List.take_append, List.take_of_length_le (l := g b) (by omega), hb, show sz + k * sz - sz = k * sz by omega]
    have e2 : (g b ++ l.flatMap g).drop (sz + k * sz + (g a).length) = (l.flatMap g).drop (k * sz + (g a).length) := by
      rw [List.drop_append, List.drop_of_length_le (l := g b) (by omega), hb, List.nil_append]; congr 1; omega
    rw [e1, e2]; simp
section
variable {P : Program} {n : Nat} {ops : Array Oper} {N R : K} {X : List (Nat × K)} {f : Nat → Value} {rest : List Oper} {w0 : World} {S : List Nat} {L : List Res}
variable {d : Nat} {ty : TypeId} {p : String} {af : Array Edge} {x y : Operand} {t e : TypeId}
theorem l_stV (i o : Nat) {off sz m : Nat} {v u : Value} {cs : List Value} (hx : ev f x = .pointer (some ⟨blkV v, off, none⟩)) (ho : off = offV v + o) (hy : ev f y = u) (hL : L[i]? = some (Res.vec e sz v m cs)) (ht : sizeT P t = some 1) (hv : cell1 u = true) (hlt : o < cs.length)
    (k : CL P n ops rest N f (Own w0 S (L.set i (Res.vec e sz v m (cs.set o u))))) : CL P n ops (⟨none, .store t x y, ty, p, af, none⟩ :: rest) N f (Own w0 S L) := by
  intro w hw
  simp only [sizeT, Option.map_eq_some_iff] at ht
  obtain ⟨i0, hi0, hs0⟩ := ht
  obtain ⟨⟨u0, hc⟩, hf, hO, hb, hk⟩ := vec_set (u := u) (hw.holds i _ hL) hlt
  subst ho
  have hst := run_storeVar1 (P := P) hi0 hs0 (w := w) hv hc hf
  have h1 := hw.frame1 (r' := Res.vec e sz v m (cs.set o u)) (E := []) hL (Own.mk1 (by show Keep (blkOf v) _ _; rw [hb]; exact hk) hO (fun b' hb' => .inl hb'))
  refine WL_skip (w' := w.setCell ⟨blkV v, offV v + o, none⟩ u) ?_ (k _ (by simpa using h1))
  simp [execOp, hx, hy, Instr.storeAt, Instr.sureAddr, hst]
theorem l_stVN (i o : Nat) {off sz m : Nat} {v : Value} {cs vs : List Value} (hx : ev f x = .pointer (some ⟨blkV v, off, none⟩)) (ho : off = offV v + o) (hy : ev f y = .agg vs.toArray) (hL : L[i]? = some (Res.vec e sz v m cs)) (ht : sizeT P t = some vs.length) (hv : ∀ u ∈ vs, cell1 u = true) (hlt : o + vs.length ≤ cs.length) 
    (k : CL P n ops rest N f (Own w0 S (L.set i (Res.vec e sz v m (splice cs o vs))))) (hp : 0 < vs.length := by decide) : CL P n ops (⟨none, .store t x y, ty, p, af, none⟩ :: rest) N f (Own w0 S L) := by
  intro w hw
  simp only [sizeT, Option.map_eq_some_iff] at ht
  obtain ⟨i0, hi0, hs0⟩ := ht
  obtain ⟨w', hst, hO, hb, hk⟩ := vec_setN (P := P) (hw.holds i _ hL) hv hlt hp
  subst ho
  have h1 := hw.frame1 (r' := Res.vec e sz v m (splice cs o vs)) (E := []) hL (Own.mk1 (by show Keep (blkOf v) _ _; rw [hb]; exact hk) hO (fun b' hb' => .inl hb'))
  refine WL_skip (w' := w') ?_ (k _ (by simpa using h1))
  simp [execOp, hx, hy, Instr.storeAt, Instr.sureAddr, storeVar, sizeOf, typeInfo, hi0, hs0, Value.cells, hst]
/-- An element of one cell, of a list of one's own. -/
theorem l_stE {α : Type} {g : α → List Value} {xs : List α} (k j : Nat) (a : α) {off : Nat} {v u : Value} (hL : L[k]? = some (Res.vec e 1 v xs.length (xs.flatMap g))) (hg : ∀ x, (g x).length = 1) (hx : ev f x = .pointer (some ⟨blkV v, off, none⟩)) (ho : off = offV v + j) (hy : ev f y = u) (hu : g a = [u]) (hc : cell1 u = true) (hj : j < xs.length) (ht : sizeT P t = some 1)
    (kk : CL P n ops rest N f (Own w0 S (L.set k (Res.vec e 1 v (xs.set j a).length ((xs.set j a).flatMap g))))) : CL P n ops (⟨none, .store t x y, ty, p, af, none⟩ :: rest) N f (Own w0 S L) := by
  refine l_stV k j hx ho hy hL ht hc (by rw [flat_len hg]; omega) ?_
  rw [flat_set1 hg, hu, List.length_set] at kk
  exact kk
/-- An element whole. -/
theorem l_stEN {α : Type} {g : α → List Value} {xs : List α} (k sz j : Nat) (a : α) {off : Nat} {v : Value} (hL : L[k]? = some (Res.vec e sz v xs.length (xs.flatMap g))) (hg : ∀ x, (g x).length = sz) (hx : ev f x = .pointer (some ⟨blkV v, off, none⟩)) (ho : off = offV v + j * sz) (hy : ev f y = .agg (g a).toArray) (hc : ∀ u ∈ g a, cell1 u = true) (hj : j < xs.length) (ht : sizeT P t = some sz) (hp : 0 < sz)
    (kk : CL P n ops rest N f (Own w0 S (L.set k (Res.vec e sz v (xs.set j a).length ((xs.set j a).flatMap g))))) : CL P n ops (⟨none, .store t x y, ty, p, af, none⟩ :: rest) N f (Own w0 S L) := by
  refine l_stVN k (j * sz) hx ho hy hL (by rw [hg]; exact ht) hc (by rw [flat_len hg, hg]; exact Nat.le_trans (Nat.le_of_eq (by rw [Nat.add_mul, Nat.one_mul])) (Nat.mul_le_mul_right sz (show j + 1 ≤ xs.length by omega))) ?_ (by rw [hg]; exact hp)
  rw [flat_setN hg hj, List.length_set] at kk
  exact kk
end
/-! arrays -/
def arrSz (P : Program) (t : TypeId) : Option (Nat × Nat) := match P.underlying t with | some (.array n e) => (P.info? e).map fun i => (n, i.size) | _ => none
section
variable {P : Program} {n : Nat} {ops : Array Oper} {N R : K} {X : List (Nat × K)} {f : Nat → Value} {A : World → Prop} {rest : List Oper}
variable {d : Nat} {ty : TypeId} {p : String} {af : Array Edge} {x y : Operand} {t e : TypeId}
end
/-! more variables -/
theorem c_loop6 {P : Program} {n : Nat} {cc : Code} {M R : K} {X : List (Nat × K)} {f : Nat → Value} {w0 : World} {S : List Nat} {L0 : List Res} {α0 α1 α2 α3 α4 α5 : Type} (sl : α0 → α1 → α2 → α3 → α4 → α5 → List (Nat × Value)) (Φ : α0 → α1 → α2 → α3 → α4 → α5 → Prop) (L : α0 → α1 → α2 → α3 → α4 → α5 → List Res) (μ : α0 → α1 → α2 → α3 → α4 → α5 → Nat)
    (h0 : ∀ w, Own w0 S L0 w → ∃ (a0 : α0) (a1 : α1) (a2 : α2) (a3 : α3) (a4 : α4) (a5 : α5), Agr f (sl a0 a1 a2 a3 a4 a5) ∧ Φ a0 a1 a2 a3 a4 a5 ∧ Own w0 S (L a0 a1 a2 a3 a4 a5) w)
    (round : ∀ (a0 : α0) (a1 : α1) (a2 : α2) (a3 : α3) (a4 : α4) (a5 : α5) (g : Nat → Value), Φ a0 a1 a2 a3 a4 a5 → C P n cc (fun f' w' => ∃ (a0' : α0) (a1' : α1) (a2' : α2) (a3' : α3) (a4' : α4) (a5' : α5), Agr f' (sl a0' a1' a2' a3' a4' a5') ∧ Φ a0' a1' a2' a3' a4' a5' ∧ Own w0 S (L a0' a1' a2' a3' a4' a5') w' ∧ μ a0' a1' a2' a3' a4' a5' < μ a0 a1 a2 a3 a4 a5) R X (upds g (sl a0 a1 a2 a3 a4 a5)) (Own w0 S (L a0 a1 a2 a3 a4 a5))) : C P n (.loop cc) M R X f (Own w0 S L0) :=
  c_loopO (α0 × α1 × α2 × α3 × α4 × α5) (fun s => sl s.1 s.2.1 s.2.2.1 s.2.2.2.1 s.2.2.2.2.1 s.2.2.2.2.2) (fun s => Φ s.1 s.2.1 s.2.2.1 s.2.2.2.1 s.2.2.2.2.1 s.2.2.2.2.2) (fun s => L s.1 s.2.1 s.2.2.1 s.2.2.2.1 s.2.2.2.2.1 s.2.2.2.2.2) (fun s => μ s.1 s.2.1 s.2.2.1 s.2.2.2.1 s.2.2.2.2.1 s.2.2.2.2.2) (fun w hw => let ⟨a0, a1, a2, a3, a4, a5, h1, h2, h3⟩ := h0 w hw; ⟨(a0, a1, a2, a3, a4, a5), h1, h2, h3⟩)
    (fun s g h w hw => W_mono (round s.1 s.2.1 s.2.2.1 s.2.2.2.1 s.2.2.2.2.1 s.2.2.2.2.2 g h w hw) fun f' w' ⟨a0', a1', a2', a3', a4', a5', h1, h2, h3, h4⟩ => ⟨(a0', a1', a2', a3', a4', a5'), h1, h2, h3, h4⟩)
theorem c_loop20 {P : Program} {n : Nat} {cc : Code} {M R : K} {X : List (Nat × K)} {f : Nat → Value} {w0 : World} {S : List Nat} {L0 : List Res} {α0 α1 α2 α3 α4 α5 α6 α7 α8 α9 α10 α11 α12 α13 α14 α15 α16 α17 α18 α19 : Type} (sl : α0 → α1 → α2 → α3 → α4 → α5 → α6 → α7 → α8 → α9 → α10 → α11 → α12 → α13 → α14 → α15 → α16 → α17 → α18 → α19 → List (Nat × Value)) (Φ : α0 → α1 → α2 → α3 → α4 → α5 → α6 → α7 → α8 → α9 → α10 → α11 → α12 → α13 → α14 → α15 → α16 → α17 → α18 → α19 → Prop) (L : α0 → α1 → α2 → α3 → α4 → α5 → α6 → α7 → α8 → α9 → α10 → α11 → α12 → α13 → α14 → α15 → α16 → α17 → α18 → α19 → List Res) (μ : α0 → α1 → α2 → α3 → α4 → α5 → α6 → α7 → α8 → α9 → α10 → α11 → α12 → α13 → α14 → α15 → α16 → α17 → α18 → α19 → Nat)
    (h0 : ∀ w, Own w0 S L0 w → ∃ (a0 : α0) (a1 : α1) (a2 : α2) (a3 : α3) (a4 : α4) (a5 : α5) (a6 : α6) (a7 : α7) (a8 : α8) (a9 : α9) (a10 : α10) (a11 : α11) (a12 : α12) (a13 : α13) (a14 : α14) (a15 : α15) (a16 : α16) (a17 : α17) (a18 : α18) (a19 : α19), Agr f (sl a0 a1 a2 a3 a4 a5 a6 a7 a8 a9 a10 a11 a12 a13 a14 a15 a16 a17 a18 a19) ∧ Φ a0 a1 a2 a3 a4 a5 a6 a7 a8 a9 a10 a11 a12 a13 a14 a15 a16 a17 a18 a19 ∧ Own w0 S (L a0 a1 a2 a3 a4 a5 a6 a7 a8 a9 a10 a11 a12 a13 a14 a15 a16 a17 a18 a19) w)
    (round : ∀ (a0 : α0) (a1 : α1) (a2 : α2) (a3 : α3) (a4 : α4) (a5 : α5) (a6 : α6) (a7 : α7) (a8 : α8) (a9 : α9) (a10 : α10) (a11 : α11) (a12 : α12) (a13 : α13) (a14 : α14) (a15 : α15) (a16 : α16) (a17 : α17) (a18 : α18) (a19 : α19) (g : Nat → Value), Φ a0 a1 a2 a3 a4 a5 a6 a7 a8 a9 a10 a11 a12 a13 a14 a15 a16 a17 a18 a19 → C P n cc (fun f' w' => ∃ (a0' : α0) (a1' : α1) (a2' : α2) (a3' : α3) (a4' : α4) (a5' : α5) (a6' : α6) (a7' : α7) (a8' : α8) (a9' : α9) (a10' : α10) (a11' : α11) (a12' : α12) (a13' : α13) (a14' : α14) (a15' : α15) (a16' : α16) (a17' : α17) (a18' : α18) (a19' : α19), Agr f' (sl a0' a1' a2' a3' a4' a5' a6' a7' a8' a9' a10' a11' a12' a13' a14' a15' a16' a17' a18' a19') ∧ Φ a0' a1' a2' a3' a4' a5' a6' a7' a8' a9' a10' a11' a12' a13' a14' a15' a16' a17' a18' a19' ∧ Own w0 S (L a0' a1' a2' a3' a4' a5' a6' a7' a8' a9' a10' a11' a12' a13' a14' a15' a16' a17' a18' a19') w' ∧ μ a0' a1' a2' a3' a4' a5' a6' a7' a8' a9' a10' a11' a12' a13' a14' a15' a16' a17' a18' a19' < μ a0 a1 a2 a3 a4 a5 a6 a7 a8 a9 a10 a11 a12 a13 a14 a15 a16 a17 a18 a19) R X (upds g (sl a0 a1 a2 a3 a4 a5 a6 a7 a8 a9 a10 a11 a12 a13 a14 a15 a16 a17 a18 a19)) (Own w0 S (L a0 a1 a2 a3 a4 a5 a6 a7 a8 a9 a10 a11 a12 a13 a14 a15 a16 a17 a18 a19))) : C P n (.loop cc) M R X f (Own w0 S L0) :=
  c_loopO (α0 × α1 × α2 × α3 × α4 × α5 × α6 × α7 × α8 × α9 × α10 × α11 × α12 × α13 × α14 × α15 × α16 × α17 × α18 × α19) (fun s => sl s.1 s.2.1 s.2.2.1 s.2.2.2.1 s.2.2.2.2.1 s.2.2.2.2.2.1 s.2.2.2.2.2.2.1 s.2.2.2.2.2.2.2.1 s.2.2.2.2.2.2.2.2.1 s.2.2.2.2.2.2.2.2.2.1 s.2.2.2.2.2.2.2.2.2.2.1 s.2.2.2.2.2.2.2.2.2.2.2.1 s.2.2.2.2.2.2.2.2.2.2.2.2.1 s.2.2.2.2.2.2.2.2.2.2.2.2.2.1 s.2.2.2.2.2.2.2.2.2.2.2.2.2.2.1 s.2.2.2.2.2.2.2.2.2.2.2.2.2.2.2.1 s.2.2.2.2.2.2.2.2.2.2.2.2.2.2.2.2.1 s.2.2.2.2.2.2.2.2.2.2.2.2.2.2.2.2.2.1 s.2.2.2.2.2.2.2.2.2.2.2.2.2.2.2.2.2.2.1 s.2.2.2.2.2.2.2.2.2.2.2.2.2.2.2.2.2.2.2) (fun s => Φ s.1 s.2.1 s.2.2.1 s.2.2.2.1 s.2.2.2.2.1 s.2.2.2.2.2.1 s.2.2.2.2.2.2.1 s.2.2.2.2.2.2.2.1 s.2.2.2.2.2.2.2.2.1 s.2.2.2.2.2.2.2.2.2.1 s.2.2.2.2.2.2.2.2.2.2.1 s.2.2.2.2.2.2.2.2.2.2.2.1 s.2.2.2.2.2.2.2.2.2.2.2.2.1 s.2.2.2.2.2.2.2.2.2.2.2.2.2.1 s.2.2.2.2.2.2.2.2.2.2.2.2.2.2.1 s.2.2.2.2.2.2.2.2.2.2.2.2.2.2.2.1 s.2.2.2.2.2.2.2.2.2.2.2.2.2.2.2.2.1 s.2.2.2.2.2.2.2.2.2.2.2.2.2.2.2.2.2.1 s.2.2.2.2.2.2.2.2.2.2.2.2.2.2.2.2.2.2.1 s.2.2.2.2.2.2.2.2.2.2.2.2.2.2.2.2.2.2.2) (fun s => L s.1 s.2.1 s.2.2.1 s.2.2.2.1 s.2.2.2.2.1 s.2.2.2.2.2.1 s.2.2.2.2.2.2.1 s.2.2.2.2.2.2.2.1 s.2.2.2.2.2.2.2.2.1 s.2.2.2.2.2.2.2.2.2.1 s.2.2.2.2.2.2.2.2.2.2.1 s.2.2.2.2.2.2.2.2.2.2.2.1 s.2.2.2.2.2.2.2.2.2.2.2.2.1 s.2.2.2.2.2.2.2.2.2.2.2.2.2.1 s.2.2.2.2.2.2.2.2.2.2.2.2.2.2.1 s.2.2.2.2.2.2.2.2.2.2.2.2.2.2.2.1 s.2.2.2.2.2.2.2.2.2.2.2.2.2.2.2.2.1 s.2.2.2.2.2.2.2.2.2.2.2.2.2.2.2.2.2.1 s.2.2.2.2.2.2.2.2.2.2.2.2.2.2.2.2.2.2.1 s.2.2.2.2.2.2.2.2.2.2.2.2.2.2.2.2.2.2.2) (fun s => μ s.1 s.2.1 s.2.2.1 s.2.2.2.1 s.2.2.2.2.1 s.2.2.2.2.2.1 s.2.2.2.2.2.2.1 s.2.2.2.2.2.2.2.1 s.2.2.2.2.2.2.2.2.1 s.2.2.2.2.2.2.2.2.2.1 s.2.2.2.2.2.2.2.2.2.2.1 s.2.2.2.2.2.2.2.2.2.2.2.1 s.2.2.2.2.2.2.2.2.2.2.2.2.1 s.2.2.2.2.2.2.2.2.2.2.2.2.2.1 s.2.2.2.2.2.2.2.2.2.2.2.2.2.2.1 s.2.2.2.2.2.2.2.2.2.2.2.2.2.2.2.1 s.2.2.2.2.2.2.2.2.2.2.2.2.2.2.2.2.1 s.2.2.2.2.2.2.2.2.2.2.2.2.2.2.2.2.2.1 s.2.2.2.2.2.2.2.2.2.2.2.2.2.2.2.2.2.2.1 s.2.2.2.2.2.2.2.2.2.2.2.2.2.2.2.2.2.2.2) (fun w hw => let ⟨a0, a1, a2, a3, a4, a5, a6, a7, a8, a9, a10, a11, a12, a13, a14, a15, a16, a17, a18, a19, h1, h2, h3⟩ := h0 w hw; ⟨(a0, a1, a2, a3, a4, a5, a6, a7, a8, a9, a10, a11, a12, a13, a14, a15, a16, a17, a18, a19), h1, h2, h3⟩)
    (fun s g h w hw => W_mono (round s.1 s.2.1 s.2.2.1 s.2.2.2.1 s.2.2.2.2.1 s.2.2.2.2.2.1 s.2.2.2.2.2.2.1 s.2.2.2.2.2.2.2.1 s.2.2.2.2.2.2.2.2.1 s.2.2.2.2.2.2.2.2.2.1 s.2.2.2.2.2.2.2.2.2.2.1 s.2.2.2.2.2.2.2.2.2.2.2.1 s.2.2.2.2.2.2.2.2.2.2.2.2.1 s.2.2.2.2.2.2.2.2.2.2.2.2.2.1 s.2.2.2.2.2.2.2.2.2.2.2.2.2.2.1 s.2.2.2.2.2.2.2.2.2.2.2.2.2.2.2.1 s.2.2.2.2.2.2.2.2.2.2.2.2.2.2.2.2.1 s.2.2.2.2.2.2.2.2.2.2.2.2.2.2.2.2.2.1 s.2.2.2.2.2.2.2.2.2.2.2.2.2.2.2.2.2.2.1 s.2.2.2.2.2.2.2.2.2.2.2.2.2.2.2.2.2.2.2 g h w hw) fun f' w' ⟨a0', a1', a2', a3', a4', a5', a6', a7', a8', a9', a10', a11', a12', a13', a14', a15', a16', a17', a18', a19', h1, h2, h3, h4⟩ => ⟨(a0', a1', a2', a3', a4', a5', a6', a7', a8', a9', a10', a11', a12', a13', a14', a15', a16', a17', a18', a19'), h1, h2, h3, h4⟩)
end Go.Sc
