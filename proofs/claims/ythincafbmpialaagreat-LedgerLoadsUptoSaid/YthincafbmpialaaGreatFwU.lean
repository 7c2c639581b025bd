import Derived.Test.YthincafbmpialaaGreatFwT
set_option linter.unusedSimpArgs false
set_option linter.unusedVariables false
set_option linter.unusedSectionVars false
namespace Go.Sc
theorem ws {a b : Nat} (h : b ≤ a) (h2 : a < 18446744073709551616) : IntKind.u64.wrap ((a : Int) - (b : Int)) = ((a - b : Nat) : Int) := by
  rw [show (a : Int) - (b : Int) = ((a - b : Nat) : Int) by omega]; exact kS (by omega)
theorem zEz {α : Type} {p : α → Prop} {l : List α} {k : Nat} (h : ∀ x ∈ l, p x) : ∀ x ∈ l.drop k, p x := fun x hx => h x (List.mem_of_mem_drop hx)
theorem zFM {α : Type} {p : α → Prop} {l : List α} {k : Nat} (h : ∀ x ∈ l, p x) : ∀ x ∈ l.take k, p x := fun x hx => h x (List.mem_of_mem_take hx)
section
variable {w0 w w' : World} {S : List Nat} {L Lin Lout : List Res}
theorem Own.starApp {α : Type} {g : α → Res} {l m : List α} (i j : Nat) (hij : i ≠ j) (h1 : L[i]? = some (Res.star (l.map g))) (h2 : L[j]? = some (Res.star (m.map g))) (h : Own w0 S L w) : Own w0 S ((L.set i (Res.star ((l ++ m).map g))).eraseIdx j) w := by
  rw [List.map_append]
  generalize l.map g = rs at h1 ⊢
  generalize m.map g = ss at h2 ⊢
  have at_ : ∀ (k : Nat) (s : Res), (rs ++ ss)[k]? = some s → (k < rs.length ∧ rs[k]? = some s) ∨ (rs.length ≤ k ∧ ss[k - rs.length]? = some s) := by
    intro k s hs
    rw [List.getElem?_append] at hs
    split at hs
    · exact .inl ⟨by assumption, hs⟩
    · exact .inr ⟨by omega, hs⟩
  refine h.join hij h1 h2 ?_ ?_
  · rintro ⟨h3, h4⟩ ⟨h5, h5'⟩ h6
    refine ⟨fun s hs => ?_, ?_⟩
    · rcases List.mem_append.1 hs with hs | hs
      · exact h3 s hs
      · exact h5 s hs
    · intro a b s t hab hs ht x hx hx'
      rcases at_ a s hs with ⟨q, h7⟩ | ⟨q, h7⟩ <;> rcases at_ b t ht with ⟨q', h8⟩ | ⟨q', h8⟩
      · exact h4 a b s t hab h7 h8 x hx hx'
      · exact h6 x (mem_fps.2 ⟨a, s, h7, hx⟩) (mem_fps.2 ⟨_, t, h8, hx'⟩)
      · exact h6 x (mem_fps.2 ⟨b, t, h8, hx'⟩) (mem_fps.2 ⟨_, s, h7, hx⟩)
      · exact h5' (a - rs.length) (b - rs.length) s t (by omega) h7 h8 x hx hx'
  · intro b hb
    obtain ⟨k, s, hs, hb⟩ := mem_fps.1 hb
    rcases at_ k s hs with ⟨_, h7⟩ | ⟨_, h7⟩
    · exact .inl (mem_fps.2 ⟨k, s, h7, hb⟩)
    · exact .inr (mem_fps.2 ⟨_, s, h7, hb⟩)
end
theorem zJk {w : World} {e : TypeId} {sz n o : Nat} {v u : Value} {cs : List Value} (h : w.ownsRow 0 e sz v n cs) (ho : o < cs.length) :
    (∃ u0, w.cell? ⟨kQ v, yn v + o, none⟩ = some u0) ∧ w.frozen? ⟨kQ v, yn v + o, none⟩ = false ∧ (w.setCell ⟨kQ v, yn v + o, none⟩ u).ownsRow 0 e sz v n (cs.set o u) ∧ xm v = [kQ v] ∧ Keep [kQ v] w (w.setCell ⟨kQ v, yn v + o, none⟩ u) := by
  obtain ⟨hl, h | ⟨g, cap, cur, rfl, h0, h1, h2, h3, h4, h5⟩⟩ := h
  · obtain ⟨rfl, rfl⟩ := h; simp at hl; subst hl; simp at ho
  · have e1 : kQ (.slice (some ⟨g, 0, none⟩) n cap) = g := rfl
    have e2 : yn (.slice (some ⟨g, 0, none⟩) n cap) = 0 := rfl
    rw [e1, e2, Nat.zero_add]
    have hr : Row w g e cur.toList := ⟨0, 0, by simpa using h1, .inl (Nat.le_refl _)⟩
    have hle : n * sz ≤ cur.size := by rw [h4]; exact Nat.mul_le_mul_right _ h2
    have hoc : o < cur.toList.length := by simp; omega
    have hs := hr.set (off := o) u
    refine ⟨⟨_, hr.cell (List.getElem?_eq_getElem hoc)⟩, hr.free hoc, ⟨by simpa using hl, .inr ⟨g, cap, cur.setIfInBounds o u, rfl, h0, ?_, h2, h3, by simpa using h4, ?_⟩⟩, rfl, hs.2⟩
    · simp [World.setCell, Array.getElem?_modify, h1]
    · rw [← h5, Array.toList_setIfInBounds, List.take_set]
theorem zGx {α : Type} {g : α → List Value} (hg : ∀ x, (g x).length = 1) {l : List α} {k : Nat} {a : α} : (l.set k a).flatMap g = (l.flatMap g).set k ((g a).headD default) := by
  induction l generalizing k with
  | nil => simp
  | cons b l ih =>
    have hb := hg b
    have ha := hg a
    match hgb : g b, hga : g a, hb, ha with
    | [x], [y], _, _ =>
      cases k with
      | zero => simp [hgb, hga]
      | succ k => simp only [List.set_cons_succ, List.flatMap_cons, hgb, List.cons_append, List.nil_append, ih, hga]
section
variable {P : Program} {n : Nat} {ops : Array Oper} {N R : K} {X : List (Nat × K)} {f : Nat → Value} {rest : List Oper} {w0 : World} {S : List Nat} {L : List Res}
variable {d : Nat} {ty : TypeId} {p : String} {af : Array Edge} {x y : Operand} {t e : TypeId}
theorem zLD (i o : Nat) {off sz m : Nat} {v u : Value} {cs : List Value} (hx : ev f x = .pointer (some ⟨kQ v, off, none⟩)) (ho : off = yn v + o) (hy : ev f y = u) (hL : L[i]? = some (Res.vec e sz v m cs)) (ht : zAT P t = some 1) (hv : cell1 u = true) (hlt : o < cs.length)
    (k : CL P n ops rest N f (Own w0 S (L.set i (Res.vec e sz v m (cs.set o u))))) : CL P n ops (⟨none, .store t x y, ty, p, af, none⟩ :: rest) N f (Own w0 S L) := by
  intro w hw
  simp only [zAT, Option.map_eq_some_iff] at ht
  obtain ⟨i0, hi0, hs0⟩ := ht
  obtain ⟨⟨u0, hc⟩, hf, hO, hb, hk⟩ := zJk (u := u) (hw.holds i _ hL) hlt
  subst ho
  have hst := zAm (P := P) hi0 hs0 (w := w) hv hc hf
  have h1 := hw.frame1 (r' := Res.vec e sz v m (cs.set o u)) (E := []) hL (Own.mk1 (by show Keep (xm v) _ _; rw [hb]; exact hk) hO (fun b' hb' => .inl hb'))
  refine zB7 (w' := w.setCell ⟨kQ v, yn v + o, none⟩ u) ?_ (k _ (by simpa using h1))
  simp [execOp, hx, hy, Instr.storeAt, Instr.sureAddr, hst]
theorem zM6 {α : Type} {g : α → List Value} {xs : List α} (k j : Nat) (a : α) {off : Nat} {v u : Value} (hL : L[k]? = some (Res.vec e 1 v xs.length (xs.flatMap g))) (hg : ∀ x, (g x).length = 1) (hx : ev f x = .pointer (some ⟨kQ v, off, none⟩)) (ho : off = yn v + j) (hy : ev f y = u) (hu : g a = [u]) (hc : cell1 u = true) (hj : j < xs.length) (ht : zAT P t = some 1)
    (kk : CL P n ops rest N f (Own w0 S (L.set k (Res.vec e 1 v (xs.set j a).length ((xs.set j a).flatMap g))))) : CL P n ops (⟨none, .store t x y, ty, p, af, none⟩ :: rest) N f (Own w0 S L) := by
  refine zLD k j hx ho hy hL ht hc (by rw [ky hg]; omega) ?_
  rw [zGx hg, hu, List.length_set] at kk
  exact kk
theorem za {α : Type} {g : α → List Value} {xs : List α} (k j : Nat) (a : α) {off : Nat} {v u : Value} (hL : L[k]? = some (Res.vec e 1 v xs.length (xs.flatMap g))) (hg : ∀ x, (g x).length = 1) (hx : ev f x = .pointer (some ⟨kQ v, off, none⟩)) (ho : off = yn v + j) (hy : ev f y = u) (hu : g a = [u]) (hc : cell1 u = true) (hj : j < xs.length)
    (kk : CL P n ops rest N f (Own w0 S (L.set k (Res.vec e 1 v (xs.set j a).length ((xs.set j a).flatMap g))))) (ht : zAT P t = some 1 := by kernel_rfl) : CL P n ops (⟨none, .store t x y, ty, p, af, none⟩ :: rest) N f (Own w0 S L) := zM6 k j a hL hg hx ho hy hu hc hj ht kk
end
def arrSz (P : Program) (t : TypeId) : Option (Nat × Nat) := match P.underlying t with | some (.array n e) => (P.info? e).map fun i => (n, i.size) | _ => none
section
variable {P : Program} {n : Nat} {ops : Array Oper} {N R : K} {X : List (Nat × K)} {f : Nat → Value} {A : World → Prop} {rest : List Oper}
variable {d : Nat} {ty : TypeId} {p : String} {af : Array Edge} {x y : Operand} {t e : TypeId}
end
theorem zKi {P : Program} {n : Nat} {cc : Code} {M R : K} {X : List (Nat × K)} {f : Nat → Value} {w0 : World} {S : List Nat} {L0 : List Res} {α0 α1 α2 α3 α4 α5 : Type} (sl : α0 → α1 → α2 → α3 → α4 → α5 → List (Nat × Value)) (Φ : α0 → α1 → α2 → α3 → α4 → α5 → Prop) (L : α0 → α1 → α2 → α3 → α4 → α5 → List Res) (μ : α0 → α1 → α2 → α3 → α4 → α5 → Nat)
    (h0 : ∀ w, Own w0 S L0 w → ∃ (a0 : α0) (a1 : α1) (a2 : α2) (a3 : α3) (a4 : α4) (a5 : α5), Agr f (sl a0 a1 a2 a3 a4 a5) ∧ Φ a0 a1 a2 a3 a4 a5 ∧ Own w0 S (L a0 a1 a2 a3 a4 a5) w)
    (round : ∀ (a0 : α0) (a1 : α1) (a2 : α2) (a3 : α3) (a4 : α4) (a5 : α5) (g : Nat → Value), Φ a0 a1 a2 a3 a4 a5 → C P n cc (fun f' w' => ∃ (a0' : α0) (a1' : α1) (a2' : α2) (a3' : α3) (a4' : α4) (a5' : α5), Agr f' (sl a0' a1' a2' a3' a4' a5') ∧ Φ a0' a1' a2' a3' a4' a5' ∧ Own w0 S (L a0' a1' a2' a3' a4' a5') w' ∧ μ a0' a1' a2' a3' a4' a5' < μ a0 a1 a2 a3 a4 a5) R X (zAL g (sl a0 a1 a2 a3 a4 a5)) (Own w0 S (L a0 a1 a2 a3 a4 a5))) : C P n (.loop cc) M R X f (Own w0 S L0) :=
  jo (α0 × α1 × α2 × α3 × α4 × α5) (fun s => sl s.1 s.2.1 s.2.2.1 s.2.2.2.1 s.2.2.2.2.1 s.2.2.2.2.2) (fun s => Φ s.1 s.2.1 s.2.2.1 s.2.2.2.1 s.2.2.2.2.1 s.2.2.2.2.2) (fun s => L s.1 s.2.1 s.2.2.1 s.2.2.2.1 s.2.2.2.2.1 s.2.2.2.2.2) (fun s => μ s.1 s.2.1 s.2.2.1 s.2.2.2.1 s.2.2.2.2.1 s.2.2.2.2.2) (fun w hw => let ⟨a0, a1, a2, a3, a4, a5, h1, h2, h3⟩ := h0 w hw; ⟨(a0, a1, a2, a3, a4, a5), h1, h2, h3⟩)
    (fun s g h w hw => kT (round s.1 s.2.1 s.2.2.1 s.2.2.2.1 s.2.2.2.2.1 s.2.2.2.2.2 g h w hw) fun f' w' ⟨a0', a1', a2', a3', a4', a5', h1, h2, h3, h4⟩ => ⟨(a0', a1', a2', a3', a4', a5'), h1, h2, h3, h4⟩)
theorem zLr {P : Program} {n : Nat} {x y : Code} {M R : K} {X : List (Nat × K)} {f : Nat → Value} {w0 : World} {S : List Nat} {L0 : List Res} {α0 α1 α2 α3 α4 α5 α6 α7 : Type} (sl : α0 → α1 → α2 → α3 → α4 → α5 → α6 → α7 → List (Nat × Value)) (Φ : α0 → α1 → α2 → α3 → α4 → α5 → α6 → α7 → Prop) (L : α0 → α1 → α2 → α3 → α4 → α5 → α6 → α7 → List Res)
    (hx : C P n x (fun f w => ∃ (a0 : α0) (a1 : α1) (a2 : α2) (a3 : α3) (a4 : α4) (a5 : α5) (a6 : α6) (a7 : α7), Agr f (sl a0 a1 a2 a3 a4 a5 a6 a7) ∧ Φ a0 a1 a2 a3 a4 a5 a6 a7 ∧ Own w0 S (L a0 a1 a2 a3 a4 a5 a6 a7) w) R X f (Own w0 S L0))
    (hy : ∀ (a0 : α0) (a1 : α1) (a2 : α2) (a3 : α3) (a4 : α4) (a5 : α5) (a6 : α6) (a7 : α7) (g : Nat → Value), Φ a0 a1 a2 a3 a4 a5 a6 a7 → C P n y M R X (zAL g (sl a0 a1 a2 a3 a4 a5 a6 a7)) (Own w0 S (L a0 a1 a2 a3 a4 a5 a6 a7))) : C P n (.seq x y) M R X f (Own w0 S L0) :=
  zAr (α0 × α1 × α2 × α3 × α4 × α5 × α6 × α7) (fun s => sl s.1 s.2.1 s.2.2.1 s.2.2.2.1 s.2.2.2.2.1 s.2.2.2.2.2.1 s.2.2.2.2.2.2.1 s.2.2.2.2.2.2.2) (fun s => Φ s.1 s.2.1 s.2.2.1 s.2.2.2.1 s.2.2.2.2.1 s.2.2.2.2.2.1 s.2.2.2.2.2.2.1 s.2.2.2.2.2.2.2) (fun s => L s.1 s.2.1 s.2.2.1 s.2.2.2.1 s.2.2.2.2.1 s.2.2.2.2.2.1 s.2.2.2.2.2.2.1 s.2.2.2.2.2.2.2) (fun w hw => kT (hx w hw) fun f w ⟨a0, a1, a2, a3, a4, a5, a6, a7, h1, h2, h3⟩ => ⟨(a0, a1, a2, a3, a4, a5, a6, a7), h1, h2, h3⟩) (fun s g h => hy s.1 s.2.1 s.2.2.1 s.2.2.2.1 s.2.2.2.2.1 s.2.2.2.2.2.1 s.2.2.2.2.2.2.1 s.2.2.2.2.2.2.2 g h)
theorem zIW {P : Program} {n : Nat} {cc : Code} {M R : K} {X : List (Nat × K)} {f : Nat → Value} {w0 : World} {S : List Nat} {L0 : List Res} {α0 α1 α2 α3 α4 α5 α6 α7 α8 α9 α10 α11 α12 α13 α14 α15 : Type} (sl : α0 → α1 → α2 → α3 → α4 → α5 → α6 → α7 → α8 → α9 → α10 → α11 → α12 → α13 → α14 → α15 → List (Nat × Value)) (Φ : α0 → α1 → α2 → α3 → α4 → α5 → α6 → α7 → α8 → α9 → α10 → α11 → α12 → α13 → α14 → α15 → Prop) (L : α0 → α1 → α2 → α3 → α4 → α5 → α6 → α7 → α8 → α9 → α10 → α11 → α12 → α13 → α14 → α15 → List Res) (μ : α0 → α1 → α2 → α3 → α4 → α5 → α6 → α7 → α8 → α9 → α10 → α11 → α12 → α13 → α14 → α15 → Nat)
    (h0 : ∀ w, Own w0 S L0 w → ∃ (a0 : α0) (a1 : α1) (a2 : α2) (a3 : α3) (a4 : α4) (a5 : α5) (a6 : α6) (a7 : α7) (a8 : α8) (a9 : α9) (a10 : α10) (a11 : α11) (a12 : α12) (a13 : α13) (a14 : α14) (a15 : α15), Agr f (sl a0 a1 a2 a3 a4 a5 a6 a7 a8 a9 a10 a11 a12 a13 a14 a15) ∧ Φ a0 a1 a2 a3 a4 a5 a6 a7 a8 a9 a10 a11 a12 a13 a14 a15 ∧ Own w0 S (L a0 a1 a2 a3 a4 a5 a6 a7 a8 a9 a10 a11 a12 a13 a14 a15) w)
    (round : ∀ (a0 : α0) (a1 : α1) (a2 : α2) (a3 : α3) (a4 : α4) (a5 : α5) (a6 : α6) (a7 : α7) (a8 : α8) (a9 : α9) (a10 : α10) (a11 : α11) (a12 : α12) (a13 : α13) (a14 : α14) (a15 : α15) (g : Nat → Value), Φ a0 a1 a2 a3 a4 a5 a6 a7 a8 a9 a10 a11 a12 a13 a14 a15 → C P n cc (fun f' w' => ∃ (a0' : α0) (a1' : α1) (a2' : α2) (a3' : α3) (a4' : α4) (a5' : α5) (a6' : α6) (a7' : α7) (a8' : α8) (a9' : α9) (a10' : α10) (a11' : α11) (a12' : α12) (a13' : α13) (a14' : α14) (a15' : α15), Agr f' (sl a0' a1' a2' a3' a4' a5' a6' a7' a8' a9' a10' a11' a12' a13' a14' a15') ∧ Φ a0' a1' a2' a3' a4' a5' a6' a7' a8' a9' a10' a11' a12' a13' a14' a15' ∧ Own w0 S (L a0' a1' a2' a3' a4' a5' a6' a7' a8' a9' a10' a11' a12' a13' a14' a15') w' ∧ μ a0' a1' a2' a3' a4' a5' a6' a7' a8' a9' a10' a11' a12' a13' a14' a15' < μ a0 a1 a2 a3 a4 a5 a6 a7 a8 a9 a10 a11 a12 a13 a14 a15) R X (zAL g (sl a0 a1 a2 a3 a4 a5 a6 a7 a8 a9 a10 a11 a12 a13 a14 a15)) (Own w0 S (L a0 a1 a2 a3 a4 a5 a6 a7 a8 a9 a10 a11 a12 a13 a14 a15))) : C P n (.loop cc) M R X f (Own w0 S L0) :=
  jo (α0 × α1 × α2 × α3 × α4 × α5 × α6 × α7 × α8 × α9 × α10 × α11 × α12 × α13 × α14 × α15) (fun s => sl s.1 s.2.1 s.2.2.1 s.2.2.2.1 s.2.2.2.2.1 s.2.2.2.2.2.1 s.2.2.2.2.2.2.1 s.2.2.2.2.2.2.2.1 s.2.2.2.2.2.2.2.2.1 s.2.2.2.2.2.2.2.2.2.1 s.2.2.2.2.2.2.2.2.2.2.1 s.2.2.2.2.2.2.2.2.2.2.2.1 s.2.2.2.2.2.2.2.2.2.2.2.2.1 s.2.2.2.2.2.2.2.2.2.2.2.2.2.1 s.2.2.2.2.2.2.2.2.2.2.2.2.2.2.1 s.2.2.2.2.2.2.2.2.2.2.2.2.2.2.2) (fun s => Φ s.1 s.2.1 s.2.2.1 s.2.2.2.1 s.2.2.2.2.1 s.2.2.2.2.2.1 s.2.2.2.2.2.2.1 s.2.2.2.2.2.2.2.1 s.2.2.2.2.2.2.2.2.1 s.2.2.2.2.2.2.2.2.2.1 s.2.2.2.2.2.2.2.2.2.2.1 s.2.2.2.2.2.2.2.2.2.2.2.1 s.2.2.2.2.2.2.2.2.2.2.2.2.1 s.2.2.2.2.2.2.2.2.2.2.2.2.2.1 s.2.2.2.2.2.2.2.2.2.2.2.2.2.2.1 s.2.2.2.2.2.2.2.2.2.2.2.2.2.2.2) (fun s => L s.1 s.2.1 s.2.2.1 s.2.2.2.1 s.2.2.2.2.1 s.2.2.2.2.2.1 s.2.2.2.2.2.2.1 s.2.2.2.2.2.2.2.1 s.2.2.2.2.2.2.2.2.1 s.2.2.2.2.2.2.2.2.2.1 s.2.2.2.2.2.2.2.2.2.2.1 s.2.2.2.2.2.2.2.2.2.2.2.1 s.2.2.2.2.2.2.2.2.2.2.2.2.1 s.2.2.2.2.2.2.2.2.2.2.2.2.2.1 s.2.2.2.2.2.2.2.2.2.2.2.2.2.2.1 s.2.2.2.2.2.2.2.2.2.2.2.2.2.2.2) (fun s => μ s.1 s.2.1 s.2.2.1 s.2.2.2.1 s.2.2.2.2.1 s.2.2.2.2.2.1 s.2.2.2.2.2.2.1 s.2.2.2.2.2.2.2.1 s.2.2.2.2.2.2.2.2.1 s.2.2.2.2.2.2.2.2.2.1 s.2.2.2.2.2.2.2.2.2.2.1 s.2.2.2.2.2.2.2.2.2.2.2.1 s.2.2.2.2.2.2.2.2.2.2.2.2.1 s.2.2.2.2.2.2.2.2.2.2.2.2.2.1 s.2.2.2.2.2.2.2.2.2.2.2.2.2.2.1 s.2.2.2.2.2.2.2.2.2.2.2.2.2.2.2) (fun w hw => let ⟨a0, a1, a2, a3, a4, a5, a6, a7, a8, a9, a10, a11, a12, a13, a14, a15, h1, h2, h3⟩ := h0 w hw; ⟨(a0, a1, a2, a3, a4, a5, a6, a7, a8, a9, a10, a11, a12, a13, a14, a15), h1, h2, h3⟩)
    (fun s g h w hw => kT (round s.1 s.2.1 s.2.2.1 s.2.2.2.1 s.2.2.2.2.1 s.2.2.2.2.2.1 s.2.2.2.2.2.2.1 s.2.2.2.2.2.2.2.1 s.2.2.2.2.2.2.2.2.1 s.2.2.2.2.2.2.2.2.2.1 s.2.2.2.2.2.2.2.2.2.2.1 s.2.2.2.2.2.2.2.2.2.2.2.1 s.2.2.2.2.2.2.2.2.2.2.2.2.1 s.2.2.2.2.2.2.2.2.2.2.2.2.2.1 s.2.2.2.2.2.2.2.2.2.2.2.2.2.2.1 s.2.2.2.2.2.2.2.2.2.2.2.2.2.2.2 g h w hw) fun f' w' ⟨a0', a1', a2', a3', a4', a5', a6', a7', a8', a9', a10', a11', a12', a13', a14', a15', h1, h2, h3, h4⟩ => ⟨(a0', a1', a2', a3', a4', a5', a6', a7', a8', a9', a10', a11', a12', a13', a14', a15'), h1, h2, h3, h4⟩)
end Go.Sc
