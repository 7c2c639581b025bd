/-
  REGIONS THAT DRAW, MORE: two that may come up; append; elements told by a map.
-/
import Derived.Test.YtjnnobekbgpaaaaFwB
set_option linter.unusedVariables false
namespace Go.Sc
section
variable {P : Program} {n : Nat} {ops : Array Oper} {N R : K} {X : List (Nat × K)} {f : Nat → Value} {W : World → Prop} {w w0 : World} {S : List Nat} {L : List Res}
variable {d : Nat} {ty t e : TypeId} {p : String} {af : Array Edge} {fuel sz by' : Nat} {listed : Array Bool} {x y : Operand}

/-- Number i comes up. -/
def PK (P : Program) (n : Nat) (ops : Array Oper) (W : World → Prop) (N : K) (fuel : Nat) (listed : Array Bool) (i : Nat) (f : Nat → Value) (w : World) : Prop :=
  ∀ a, Rep n f a → wpOp P ops (postN n N) i (fun a' w' => W w' ∧ wpAnyH P .any ops (postN n N) W fuel (listed.setIfInBounds i true) a' w') a w
theorem h_pick2 {i j : Nat} (hr : Region.ready .any ops listed = [i, j]) (h1 : PK P n ops W N fuel listed i f w) (h2 : PK P n ops W N fuel listed j f w) : HL P n ops W N (fuel + 1) listed f w := by
  intro a ha
  refine wpAnyH_all hr (by simp) fun k hk => ?_
  simp at hk
  rcases hk with rfl | rfl
  · exact h1 a ha
  · exact h2 a ha
theorem pk_step (i : Nat) {op : Op} {v : Value} {w' : World} (hi : ops[i]? = some ⟨some d, op, ty, p, af, none⟩)
    (hv : (execOp (ev f) ⟨some d, op, ty, p, af, none⟩).run P w = .ok (.value v) w') (hd : Nat.blt d n = true) (hS : W w') (k : HL P n ops W N fuel (listed.setIfInBounds i true) (upd f d v) w') : PK P n ops W N fuel listed i f w := by
  intro a ha
  unfold wpOp
  simp only [hi]
  rw [if_pos (by simp [Region.wanted])]
  left
  unfold Oper.wp
  rw [ha.eval, hv]
  exact ⟨hS, k _ (ha.put (by simpa [Nat.blt_eq] using hd) v)⟩
/-- One that only reads. -/
theorem pk_val (i : Nat) {A : World → Prop} {op : Op} {v : Value} (hi : ops[i]? = some ⟨some d, op, ty, p, af, none⟩) (hv : RV P f ⟨some d, op, ty, p, af, none⟩ A v) (hA : A w) (hd : Nat.blt d n = true) (hS : W w)
    (k : HL P n ops W N fuel (listed.setIfInBounds i true) (upd f d v) w) : PK P n ops W N fuel listed i f w := pk_step i hi (hv w hA) hd hS k
theorem pk_call (i : Nat) {g : FuncId} {l : List Operand} {vs : List Value} {ats : Array TypeId} (hi : ops[i]? = some ⟨some d, .call ⟨.value (.func g), l.toArray, ats⟩, ty, p, af, none⟩)
    (hg : callable P g = true) (ha : l.map (ev f) = vs) (hd : Nat.blt d n = true)
    (k : Rets P g vs.toArray w fun v w' => W w' ∧ HL P n ops W N fuel (listed.setIfInBounds i true) (upd f d v) w') : PK P n ops W N fuel listed i f w := by
  intro a hrep
  unfold wpOp
  simp only [hi]
  rw [if_pos (by simp [Region.wanted])]
  left
  unfold Oper.wp
  have hc := callable_spec hg w vs.toArray
  have hx : (execOp (ev f) ⟨some d, .call ⟨.value (.func g), l.toArray, ats⟩, ty, p, af, none⟩).run P w = .ok (.enter g vs.toArray) w := by
    simp [execOp, resolve, ev, Deferred.ofValue, invoke, ha, hc]
  rw [hrep.eval, hx]
  refine Calls.mono k fun e w'' ⟨v, e1, r⟩ => ?_
  subst e1
  exact ⟨r.1, r.2 _ (hrep.put (by simpa [Nat.blt_eq] using hd) v)⟩
/-- The one that may come up is one that only reads. -/
theorem h_val (i : Nat) {A : World → Prop} {op : Op} {v : Value} (hr : Region.ready .any ops listed = [i]) (hi : ops[i]? = some ⟨some d, op, ty, p, af, none⟩) (hv : RV P f ⟨some d, op, ty, p, af, none⟩ A v) (hA : A w) (hd : Nat.blt d n = true) (hS : W w)
    (k : HL P n ops W N fuel (listed.setIfInBounds i true) (upd f d v) w) : HL P n ops W N (fuel + 1) listed f w := h_step i hr hi (hv w hA) hd hS k
/-- append, the one that may come up. -/
theorem h_app (i j : Nat) {v u : Value} {c m : Nat} {cs news : List Value} (hr : Region.ready .any ops listed = [i]) (hi : ops[i]? = some ⟨some d, .call ⟨.builtin .append, #[x, y], #[t, t]⟩, ty, p, af, none⟩)
    (ht : slT P t = some (e, sz, by')) (hx : ev f x = v) (hw : Own w0 S L w) (hL : L[j]? = some (Res.vec e sz v c cs)) (hy : ev f y = u) (hs : Sl w u m news)
    (hl : news.length = m * sz) (h1 : ∀ v ∈ news, cell1 v = true) (hb : (c + m) * by' ≤ 140737488355328) (h63 : c + m ≤ maxLen) (hd : Nat.blt d n = true)
    (k : ∀ v' w', Own w0 S (L.set j (Res.vec e sz v' (c + m) (cs ++ news))) w' → W w' ∧ HL P n ops W N fuel (listed.setIfInBounds i true) (upd f d v') w') : HL P n ops W N (fuel + 1) listed f w := by
  obtain ⟨v', w', hr', hO⟩ := run_append_vec (P := P) (ty := ty) ht (hw.holds j _ hL) hs hl h1 h63 hb
  have hO' := hw.frame1 (E := []) hL hO
  rw [List.append_nil] at hO'
  obtain ⟨k1, k2⟩ := k v' w' hO'
  refine h_step (w' := w') i hr hi ?_ hd k1 k2
  simp [execOp, resolve, invoke, builtin, hx, hy, hr']
end
theorem map_flat {α : Type} (g : α → Value) : ∀ l : List α, l.map g = l.flatMap (fun x => [g x])
  | [] => rfl
  | a :: l => by simp [map_flat g l]
theorem Sl.eltM {α : Type} {g : α → Value} {w : World} {l : List α} {b off n cap : Nat} (h : Sl w (.slice (some ⟨b, off, none⟩) n cap) l.length (l.map g)) {j : Nat} {x : α} (hj : l[j]? = some x) :
    w.cell? ⟨b, off + j * 1, none⟩ = some (g x) := by
  rw [map_flat] at h
  exact h.elt (g := fun x => [g x]) (sz := 1) (fun _ => rfl) hj 0 _ rfl
end Go.Sc
