import Derived.Test.YtcdiehplbmkmeaaGreatFwT
set_option linter.unusedSimpArgs false
set_option linter.unusedVariables false
set_option linter.unusedSectionVars false
namespace Go.Sc
theorem ws {a b : Nat} (h : b ≤ a) (h2 : a < 18446744073709551616) : IntKind.u64.wrap ((a : Int) - (b : Int)) = ((a - b : Nat) : Int) := by
  rw [show (a : Int) - (b : Int) = ((a - b : Nat) : Int) by omega]; exact zAt (by omega)
section
variable {w0 w w' : World} {S : List Nat} {L Lin Lout : List Res}
end
theorem zFI {w : World} {e : TypeId} {sz n o : Nat} {v u : Value} {cs : List Value} (h : w.ownsRow 0 e sz v n cs) (ho : o < cs.length) :
    (∃ u0, w.cell? ⟨xK v, yK v + o, none⟩ = some u0) ∧ w.frozen? ⟨xK v, yK v + o, none⟩ = false ∧ (w.setCell ⟨xK v, yK v + o, none⟩ u).ownsRow 0 e sz v n (cs.set o u) ∧ yi v = [xK v] ∧ Keep [xK v] w (w.setCell ⟨xK v, yK v + o, none⟩ u) := by
  obtain ⟨hl, h | ⟨g, cap, cur, rfl, h0, h1, h2, h3, h4, h5⟩⟩ := h
  · obtain ⟨rfl, rfl⟩ := h; simp at hl; subst hl; simp at ho
  · have e1 : xK (.slice (some ⟨g, 0, none⟩) n cap) = g := rfl
    have e2 : yK (.slice (some ⟨g, 0, none⟩) n cap) = 0 := rfl
    rw [e1, e2, Nat.zero_add]
    have hr : Row w g e cur.toList := ⟨0, 0, by simpa using h1, .inl (Nat.le_refl _)⟩
    have hle : n * sz ≤ cur.size := by rw [h4]; exact Nat.mul_le_mul_right _ h2
    have hoc : o < cur.toList.length := by simp; omega
    have hs := hr.set (off := o) u
    refine ⟨⟨_, hr.cell (List.getElem?_eq_getElem hoc)⟩, hr.free hoc, ⟨by simpa using hl, .inr ⟨g, cap, cur.setIfInBounds o u, rfl, h0, ?_, h2, h3, by simpa using h4, ?_⟩⟩, rfl, hs.2⟩
    · simp [World.setCell, Array.getElem?_modify, h1]
    · rw [← h5, Array.toList_setIfInBounds, List.take_set]
theorem zGS {P : Program} {w : World} {e : TypeId} {sz n o : Nat} {v : Value} {cs vs : List Value} (h : w.ownsRow 0 e sz v n cs) (hv : ∀ u ∈ vs, cell1 u = true) (ho : o + vs.length ≤ cs.length) (hp : 0 < vs.length) :
    ∃ w', (storeCells ⟨xK v, yK v + o, none⟩ vs 0).run P w = .ok () w' ∧ w'.ownsRow 0 e sz v n (yI cs o vs) ∧ yi v = [xK v] ∧ Keep [xK v] w w' := by
  obtain ⟨hl, h | ⟨g, cap, cur, rfl, h0, h1, h2, h3, h4, h5⟩⟩ := h
  · obtain ⟨_, rfl⟩ := h; rw [Nat.zero_mul] at hl; omega
  · have e1 : xK (.slice (some ⟨g, 0, none⟩) n cap) = g := rfl
    have e2 : yK (.slice (some ⟨g, 0, none⟩) n cap) = 0 := rfl
    rw [e1, e2, Nat.zero_add]
    -- one cell after the other
    have key : ∀ (us : List Value) (k : Nat) (w : World) (cs : List Value), (∀ u ∈ us, cell1 u = true) → w.ownsRow 0 e sz (.slice (some ⟨g, 0, none⟩) n cap) n cs → o + k + us.length ≤ cs.length →
        ∃ w', (storeCells ⟨g, o, none⟩ us k).run P w = .ok () w' ∧ w'.ownsRow 0 e sz (.slice (some ⟨g, 0, none⟩) n cap) n (yI cs (o + k) us) ∧ Keep [g] w w' := by
      intro us
      induction us with
      | nil => intro k w cs _ hO _; exact ⟨w, by simp [storeCells], by simpa [yI] using hO, Keep.refl _ _⟩
      | cons u us ih =>
        intro k w cs hu hO hle
        simp only [List.length_cons] at hle
        obtain ⟨⟨u0, hc⟩, hf, hO', hb, hk⟩ := zFI (u := u) (o := o + k) hO (by omega)
        rw [e1, e2, Nat.zero_add] at hc hf hO' hk
        have hs := zAD (P := P) (w := w) (a := ⟨g, o + k, none⟩) (hu u (by simp)) hc hf
        obtain ⟨w', hw, hr', hk'⟩ := ih (k + 1) _ _ (fun z hz => hu z (by simp [hz])) hO' (by simp; omega)
        refine ⟨w', by simp [storeCells, kH, hs, hw], ?_, hk.trans hk'⟩
        have : yI (cs.set (o + k) u) (o + (k + 1)) us = yI cs (o + k) (u :: us) := by
          unfold yI
          have hlt : o + k < cs.length := by omega
          have e1 : (cs.set (o + k) u).take (o + (k + 1)) = cs.take (o + k) ++ [u] := by
            rw [show o + (k + 1) = (o + k) + 1 by omega, List.take_set, List.take_succ_eq_append_getElem hlt, List.set_append_right _ _ (by simp; omega)]
            simp [Nat.min_eq_left (Nat.le_of_lt hlt)]
          have e2 : (cs.set (o + k) u).drop (o + (k + 1) + us.length) = cs.drop (o + k + (us.length + 1)) := by
            rw [List.drop_set_of_lt (by omega)]
            congr 1
            omega
          rw [e1, e2]; simp
        rwa [this] at hr'
    obtain ⟨w', q1, q2, q3⟩ := key vs 0 w cs hv ⟨hl, .inr ⟨g, cap, cur, rfl, h0, h1, h2, h3, h4, h5⟩⟩ (by omega)
    exact ⟨w', q1, q2, rfl, q3⟩
theorem zFg {α : Type} {g : α → List Value} (hg : ∀ x, (g x).length = 1) {l : List α} {k : Nat} {a : α} : (l.set k a).flatMap g = (l.flatMap g).set k ((g a).headD default) := by
  induction l generalizing k with
  | nil => simp
  | cons b l ih =>
    have hb := hg b
    have ha := hg a
    match hgb : g b, hga : g a, hb, ha with
    | [x], [y], _, _ =>
      cases k with
      | zero => simp [hgb, hga]
      | succ k => simp only [List.set_cons_succ, List.flatMap_cons, hgb, List.cons_append, List.nil_append, ih, hga]
section
variable {P : Program} {n : Nat} {ops : Array Oper} {N R : K} {X : List (Nat × K)} {f : Nat → Value} {rest : List Oper} {w0 : World} {S : List Nat} {L : List Res}
variable {d : Nat} {ty : TypeId} {p : String} {af : Array Edge} {x y : Operand} {t e : TypeId}
theorem zJK (i o : Nat) {off sz m : Nat} {v u : Value} {cs : List Value} (hx : ev f x = .pointer (some ⟨xK v, off, none⟩)) (ho : off = yK v + o) (hy : ev f y = u) (hL : L[i]? = some (Res.vec e sz v m cs)) (ht : kZ P t = some 1) (hv : cell1 u = true) (hlt : o < cs.length)
    (k : CL P n ops rest N f (Own w0 S (L.set i (Res.vec e sz v m (cs.set o u))))) : CL P n ops (⟨none, .store t x y, ty, p, af, none⟩ :: rest) N f (Own w0 S L) := by
  intro w hw
  simp only [kZ, Option.map_eq_some_iff] at ht
  obtain ⟨i0, hi0, hs0⟩ := ht
  obtain ⟨⟨u0, hc⟩, hf, hO, hb, hk⟩ := zFI (u := u) (hw.holds i _ hL) hlt
  subst ho
  have hst := ju (P := P) hi0 hs0 (w := w) hv hc hf
  have h1 := hw.frame1 (r' := Res.vec e sz v m (cs.set o u)) (E := []) hL (Own.mk1 (by show Keep (yi v) _ _; rw [hb]; exact hk) hO (fun b' hb' => .inl hb'))
  refine zAW (w' := w.setCell ⟨xK v, yK v + o, none⟩ u) ?_ (k _ (by simpa using h1))
  simp [execOp, hx, hy, Instr.storeAt, Instr.sureAddr, hst]
theorem zKF (i o : Nat) {off sz m : Nat} {v : Value} {cs vs : List Value} (hx : ev f x = .pointer (some ⟨xK v, off, none⟩)) (ho : off = yK v + o) (hy : ev f y = .agg vs.toArray) (hL : L[i]? = some (Res.vec e sz v m cs)) (ht : kZ P t = some vs.length) (hv : ∀ u ∈ vs, cell1 u = true) (hlt : o + vs.length ≤ cs.length)
    (k : CL P n ops rest N f (Own w0 S (L.set i (Res.vec e sz v m (yI cs o vs))))) (hp : 0 < vs.length := by decide) : CL P n ops (⟨none, .store t x y, ty, p, af, none⟩ :: rest) N f (Own w0 S L) := by
  intro w hw
  simp only [kZ, Option.map_eq_some_iff] at ht
  obtain ⟨i0, hi0, hs0⟩ := ht
  obtain ⟨w', hst, hO, hb, hk⟩ := zGS (P := P) (hw.holds i _ hL) hv hlt hp
  subst ho
  have h1 := hw.frame1 (r' := Res.vec e sz v m (yI cs o vs)) (E := []) hL (Own.mk1 (by show Keep (yi v) _ _; rw [hb]; exact hk) hO (fun b' hb' => .inl hb'))
  refine zAW (w' := w') ?_ (k _ (by simpa using h1))
  simp [execOp, hx, hy, Instr.storeAt, Instr.sureAddr, storeVar, sizeOf, typeInfo, hi0, hs0, Value.cells, hst]
theorem zKw {α : Type} {g : α → List Value} {xs : List α} (k j : Nat) (a : α) {off : Nat} {v u : Value} (hL : L[k]? = some (Res.vec e 1 v xs.length (xs.flatMap g))) (hg : ∀ x, (g x).length = 1) (hx : ev f x = .pointer (some ⟨xK v, off, none⟩)) (ho : off = yK v + j) (hy : ev f y = u) (hu : g a = [u]) (hc : cell1 u = true) (hj : j < xs.length) (ht : kZ P t = some 1)
    (kk : CL P n ops rest N f (Own w0 S (L.set k (Res.vec e 1 v (xs.set j a).length ((xs.set j a).flatMap g))))) : CL P n ops (⟨none, .store t x y, ty, p, af, none⟩ :: rest) N f (Own w0 S L) := by
  refine zJK k j hx ho hy hL ht hc (by rw [xu hg]; omega) ?_
  rw [zFg hg, hu, List.length_set] at kk
  exact kk
theorem zS {α : Type} {g : α → List Value} {xs : List α} (k j : Nat) (a : α) {off : Nat} {v u : Value} (hL : L[k]? = some (Res.vec e 1 v xs.length (xs.flatMap g))) (hg : ∀ x, (g x).length = 1) (hx : ev f x = .pointer (some ⟨xK v, off, none⟩)) (ho : off = yK v + j) (hy : ev f y = u) (hu : g a = [u]) (hc : cell1 u = true) (hj : j < xs.length)
    (kk : CL P n ops rest N f (Own w0 S (L.set k (Res.vec e 1 v (xs.set j a).length ((xs.set j a).flatMap g))))) (ht : kZ P t = some 1 := by kernel_rfl) : CL P n ops (⟨none, .store t x y, ty, p, af, none⟩ :: rest) N f (Own w0 S L) := zKw k j a hL hg hx ho hy hu hc hj ht kk
end
def zHL (P : Program) (t : TypeId) : Option (Nat × Nat) := match P.underlying t with | some (.array n e) => (P.info? e).map fun i => (n, i.size) | _ => none
section
variable {P : Program} {n : Nat} {ops : Array Oper} {N R : K} {X : List (Nat × K)} {f : Nat → Value} {A : World → Prop} {rest : List Oper}
variable {d : Nat} {ty : TypeId} {p : String} {af : Array Edge} {x y : Operand} {t e : TypeId}
theorem jD {k : IntKind} {i : Int} {j b off len sz : Nat} (hx : ev f x = .pointer (some ⟨b, off, none⟩)) (hy : ev f y = .int k i) (ht : zHL P t = some (len, sz)) (hi : i = j) (hj : j < len) : RV P f ⟨some d, .indexAddr t x y, ty, p, af, none⟩ A ((.pointer (some ⟨b, off + j * sz, none⟩))) :=
  fun w _ => by
    unfold zHL at ht
    split at ht
    · rename_i m e he
      simp only [Option.map_eq_some_iff, Prod.mk.injEq] at ht
      obtain ⟨i0, hi0, rfl, rfl⟩ := ht
      subst hi
      have hj' : (j : Int) < m := by omega
      simp [execOp, hx, hy, Instr.indexAt, asIntOf, Instr.sureAddr, zg he, sizeOf, typeInfo, hi0, hj, kH]
    · cases ht
theorem xL {k : IntKind} {i : Int} {j b off len sz : Nat} (hx : ev f x = .pointer (some ⟨b, off, none⟩)) (hy : ev f y = .int k i) (ht : zHL P t = some (len, sz)) (hi : i = j) (hj : j < len) (hd : Nat.blt d n = true)
    (kk : CL P n ops rest N (upd f d (.pointer (some ⟨b, off + j * sz, none⟩))) A) : CL P n ops (⟨some d, .indexAddr t x y, ty, p, af, none⟩ :: rest) N f A := z5 hd (jD hx hy ht hi hj) kk
end
theorem zC1 {P : Program} {n : Nat} {cc : Code} {M R : K} {X : List (Nat × K)} {f : Nat → Value} {w0 : World} {S : List Nat} {L0 : List Res} {α0 α1 α2 α3 α4 α5 : Type} (sl : α0 → α1 → α2 → α3 → α4 → α5 → List (Nat × Value)) (Φ : α0 → α1 → α2 → α3 → α4 → α5 → Prop) (L : α0 → α1 → α2 → α3 → α4 → α5 → List Res) (μ : α0 → α1 → α2 → α3 → α4 → α5 → Nat)
    (h0 : ∀ w, Own w0 S L0 w → ∃ (a0 : α0) (a1 : α1) (a2 : α2) (a3 : α3) (a4 : α4) (a5 : α5), Agr f (sl a0 a1 a2 a3 a4 a5) ∧ Φ a0 a1 a2 a3 a4 a5 ∧ Own w0 S (L a0 a1 a2 a3 a4 a5) w)
    (round : ∀ (a0 : α0) (a1 : α1) (a2 : α2) (a3 : α3) (a4 : α4) (a5 : α5) (g : Nat → Value), Φ a0 a1 a2 a3 a4 a5 → C P n cc (fun f' w' => ∃ (a0' : α0) (a1' : α1) (a2' : α2) (a3' : α3) (a4' : α4) (a5' : α5), Agr f' (sl a0' a1' a2' a3' a4' a5') ∧ Φ a0' a1' a2' a3' a4' a5' ∧ Own w0 S (L a0' a1' a2' a3' a4' a5') w' ∧ μ a0' a1' a2' a3' a4' a5' < μ a0 a1 a2 a3 a4 a5) R X (zAF g (sl a0 a1 a2 a3 a4 a5)) (Own w0 S (L a0 a1 a2 a3 a4 a5))) : C P n (.loop cc) M R X f (Own w0 S L0) :=
  zAe (α0 × α1 × α2 × α3 × α4 × α5) (fun s => sl s.1 s.2.1 s.2.2.1 s.2.2.2.1 s.2.2.2.2.1 s.2.2.2.2.2) (fun s => Φ s.1 s.2.1 s.2.2.1 s.2.2.2.1 s.2.2.2.2.1 s.2.2.2.2.2) (fun s => L s.1 s.2.1 s.2.2.1 s.2.2.2.1 s.2.2.2.2.1 s.2.2.2.2.2) (fun s => μ s.1 s.2.1 s.2.2.1 s.2.2.2.1 s.2.2.2.2.1 s.2.2.2.2.2) (fun w hw => let ⟨a0, a1, a2, a3, a4, a5, h1, h2, h3⟩ := h0 w hw; ⟨(a0, a1, a2, a3, a4, a5), h1, h2, h3⟩)
    (fun s g h w hw => kJ (round s.1 s.2.1 s.2.2.1 s.2.2.2.1 s.2.2.2.2.1 s.2.2.2.2.2 g h w hw) fun f' w' ⟨a0', a1', a2', a3', a4', a5', h1, h2, h3, h4⟩ => ⟨(a0', a1', a2', a3', a4', a5'), h1, h2, h3, h4⟩)
theorem zJv {P : Program} {n : Nat} {x y : Code} {M R : K} {X : List (Nat × K)} {f : Nat → Value} {w0 : World} {S : List Nat} {L0 : List Res} {α0 α1 α2 α3 α4 α5 α6 α7 : Type} (sl : α0 → α1 → α2 → α3 → α4 → α5 → α6 → α7 → List (Nat × Value)) (Φ : α0 → α1 → α2 → α3 → α4 → α5 → α6 → α7 → Prop) (L : α0 → α1 → α2 → α3 → α4 → α5 → α6 → α7 → List Res)
    (hx : C P n x (fun f w => ∃ (a0 : α0) (a1 : α1) (a2 : α2) (a3 : α3) (a4 : α4) (a5 : α5) (a6 : α6) (a7 : α7), Agr f (sl a0 a1 a2 a3 a4 a5 a6 a7) ∧ Φ a0 a1 a2 a3 a4 a5 a6 a7 ∧ Own w0 S (L a0 a1 a2 a3 a4 a5 a6 a7) w) R X f (Own w0 S L0))
    (hy : ∀ (a0 : α0) (a1 : α1) (a2 : α2) (a3 : α3) (a4 : α4) (a5 : α5) (a6 : α6) (a7 : α7) (g : Nat → Value), Φ a0 a1 a2 a3 a4 a5 a6 a7 → C P n y M R X (zAF g (sl a0 a1 a2 a3 a4 a5 a6 a7)) (Own w0 S (L a0 a1 a2 a3 a4 a5 a6 a7))) : C P n (.seq x y) M R X f (Own w0 S L0) :=
  j9 (α0 × α1 × α2 × α3 × α4 × α5 × α6 × α7) (fun s => sl s.1 s.2.1 s.2.2.1 s.2.2.2.1 s.2.2.2.2.1 s.2.2.2.2.2.1 s.2.2.2.2.2.2.1 s.2.2.2.2.2.2.2) (fun s => Φ s.1 s.2.1 s.2.2.1 s.2.2.2.1 s.2.2.2.2.1 s.2.2.2.2.2.1 s.2.2.2.2.2.2.1 s.2.2.2.2.2.2.2) (fun s => L s.1 s.2.1 s.2.2.1 s.2.2.2.1 s.2.2.2.2.1 s.2.2.2.2.2.1 s.2.2.2.2.2.2.1 s.2.2.2.2.2.2.2) (fun w hw => kJ (hx w hw) fun f w ⟨a0, a1, a2, a3, a4, a5, a6, a7, h1, h2, h3⟩ => ⟨(a0, a1, a2, a3, a4, a5, a6, a7), h1, h2, h3⟩) (fun s g h => hy s.1 s.2.1 s.2.2.1 s.2.2.2.1 s.2.2.2.2.1 s.2.2.2.2.2.1 s.2.2.2.2.2.2.1 s.2.2.2.2.2.2.2 g h)
end Go.Sc
