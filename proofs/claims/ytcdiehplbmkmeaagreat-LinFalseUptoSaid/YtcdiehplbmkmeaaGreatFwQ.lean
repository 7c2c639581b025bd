import Derived.Test.YtcdiehplbmkmeaaGreatFwM
set_option linter.unusedSimpArgs false
set_option linter.unusedVariables false
set_option linter.unusedSectionVars false
namespace Go.Sc
section
variable {P : Program} {n : Nat} {ops : Array Oper} {N R : K} {X : List (Nat × K)} {f : Nat → Value} {A : World → Prop} {rest : List Oper}
variable {d : Nat} {ty : TypeId} {p : String} {af : Array Edge}
def QL (P : Program) (n : Nat) (ops : Array Oper) (l : List Oper) (N : K) (f : Nat → Value) (A : World → Prop) : Prop := ∀ w, A w → SL P n ops w (fun g => N g w) l f
theorem zIo {w0 : World} {S : List Nat} {L : List Res} {id : Nat} {l : List Oper} (hm : P.follows .mixedOrders = true) (hB : Region.lexB .any l.toArray = true) (h : QL P n l.toArray l N f (Own w0 S L)) : C P n (.region id l.toArray true) N R X f (Own w0 S L) :=
  fun w hw => zBe hm hB (h _ hw.drawn)
theorem xN {w0 : World} {S : List Nat} {L : List Res} {id : Nat} {l : List Oper} {y : Code} (hm : P.follows .mixedOrders = true) (hB : Region.lexB .any l.toArray = true) (h : QL P n l.toArray l (fun f w => W P n y N R X f w) f (Own w0 S L)) : C P n (.seq (.region id l.toArray true) y) N R X f (Own w0 S L) :=
  zL (zIo hm hB h)
theorem zLm (h : ∀ w, A w → N f w) : QL P n ops [] N f A := fun w hw => zF9 (h w hw)
theorem js {c : Code} {M : K} (h : C P n c M R X f A) : QL P n ops [] (fun f w => W P n c M R X f w) f A := fun w hw => zF9 (h w hw)
theorem zb {op : Op} {v : Value} (hd : Nat.blt d n = true) (hv : RV P f ⟨some d, op, ty, p, af, none⟩ A v) (k : QL P n ops rest N (upd f d v) A) : QL P n ops (⟨some d, op, ty, p, af, none⟩ :: rest) N f A :=
  fun w hw => zEL (hv w hw) hd (k w hw)
theorem y7 {j e : Nat} {b : Bool} {dst : Option Tmp} {op : Op} (hj : yQ ops j = some e) (hb : f e = .bool b) (k : QL P n ops (⟨dst, op, ty, p, af, none⟩ :: rest) N f A) : QL P n ops (⟨dst, op, ty, p, af, some (j, b)⟩ :: rest) N f A :=
  fun w hw => zGT hj hb (k w hw)
theorem zBP {M : (Nat → Value) → Prop} {j e : Nat} {b b' : Bool} (hj : yQ ops j = some e) (hne : (b' == b) = false) {w : World} : ∀ (l1 : List Oper) (U T : List Nat) (f : Nat → Value),
    kK ops j e b U l1 = some T → f e = .bool b' → (∀ s, jt U s = true → f s = undef) → zA2 n l1 = true →
    (∀ g, Out T f g → SL P n ops w M rest g) → SL P n ops w M (l1 ++ rest) f
  | [], U, T, f, hs, hf, hU, hn, k => k f (Out.refl _ _)
  | o :: l1, U, T, f, hs, hf, hU, hn, k => by
    intro a ha
    unfold kK at hs
    cases hg : o.guard with
    | none => rw [hg] at hs; cases hs
    | some q =>
      obtain ⟨i, w0⟩ := q
      cases hd : o.dst with
      | none => rw [hg, hd] at hs; cases hs
      | some d =>
        rw [hg, hd] at hs
        dsimp only at hs
        obtain ⟨hc, hs⟩ := zAO hs
        simp only [Bool.and_eq_true, Bool.or_eq_true, Bool.not_eq_true'] at hc
        obtain ⟨hc, hde⟩ := hc
        have hne' : e ≠ d := by intro h; subst h; simp at hde
        simp only [zA2, List.all_cons, Bool.and_eq_true, hd] at hn
        have hdn : d < n := by simpa [Nat.blt_eq] using hn.1
        have hw : Region.wanted o (yielded ops a.tmps) = false := by
          unfold Region.wanted
          rw [hg]
          rcases hc with ⟨h1, h2⟩ | h1
          · have : i = j := Nat.eq_of_beq_eq_true h1
            subst this
            have : w0 = b := by simpa using h2
            subst this
            simp only [xW ha hj hf]
            simpa using hne
          · cases hsl : yQ ops i with
            | none => rw [hsl] at h1; cases h1
            | some s =>
              rw [hsl] at h1
              simp only [jr ha hsl (hU s h1)]
              rfl
        show wpStill P ops w _ (o :: (l1 ++ rest)) a
        unfold wpStill
        rw [if_neg (by rw [hw]; simp), hd]
        refine zBP hj hne l1 (d :: U) T (upd f d undef) hs (by rw [jG _ _ hne']; exact hf) ?_ hn.2 ?_ _ (ha.put hdn undef)
        · intro s hs'
          by_cases h : s = d
          · subst h; rw [zAk]
          · rw [jG _ _ h]
            refine hU s ?_
            unfold jt at hs' ⊢
            simp only [List.any_cons, Bool.or_eq_true] at hs'
            rcases hs' with h1 | h1
            · exact absurd (Nat.eq_of_beq_eq_true h1) h
            · exact h1
        · intro g hg'
          refine k g (fun i hi => ?_)
          rw [hg' i hi]
          refine jG _ _ ?_
          intro h; subst h
          have mem : ∀ (l : List Oper) (U T : List Nat), kK ops j e b U l = some T → ∀ x, jt U x = true → jt T x = true := by
            intro l
            induction l with
            | nil => intro U T h x hx; simp [kK] at h; subst h; exact hx
            | cons o l ih =>
              intro U T h x hx
              unfold kK at h
              split at h
              · exact ih _ _ (zAO h).2 x (by unfold jt at hx ⊢; simp [hx])
              · cases h
          have := mem l1 _ _ hs i (by unfold jt; simp)
          rw [this] at hi; cases hi
theorem zB6 {M M' : (Nat → Value) → Prop} {w : World} {l2 : List Oper} : ∀ (l1 : List Oper) {f : Nat → Value}, SL P n ops w M' l1 f → (∀ f, M' f → SL P n ops w M l2 f) → SL P n ops w M (l1 ++ l2) f := by
  intro l1 f h hk a ha
  have := h a ha
  clear h ha
  revert this a
  suffices ∀ (l : List Oper) (a : Act), wpStill P ops w (fun a => ∃ f, Rep n f a ∧ M' f) l a → wpStill P ops w (fun a => ∃ f, Rep n f a ∧ M f) (l ++ l2) a from fun a h => this l1 a h
  intro l
  induction l with
  | nil =>
    intro a h
    obtain ⟨f, hr, hm⟩ := h
    exact hk f hm a hr
  | cons o l ih =>
    intro a h
    show wpStill P ops w _ (o :: (l ++ l2)) a
    unfold wpStill at h ⊢
    split
    · rename_i hw; rw [if_pos hw] at h; exact Oper.still_mono ih h
    · rename_i hw; rw [if_neg hw] at h; exact ih _ h
variable {e t : Nat} {l : List Oper}
theorem zES (m j : Nat) (T : List Nat) {q : Prop} (r : Prop) [Decidable q] [Decidable r] {gd : Option (Nat × Bool)} (hm : l.drop m = ⟨some d, .pick (.tmp e) (.tmp t) (.const (.bool false)), ty, p, af, gd⟩ :: rest)
    (hj : yQ ops j = some e) (hq : f e = .bool (decide q)) (hT : kK ops j e true [] (l.take m) = some T) (hn : zA2 n (l.take m) = true) (he : jt T e = false)
    (hgd : match gd with | none => True | some (i, b) => ∃ s, yQ ops i = some s ∧ jt T s = false ∧ f s = .bool b) (hd : Nat.blt d n = true)
    (hy : q → QL P n ops (l.take m) (zCF T f t (.bool (decide r)) A) f A)
    (k : ∀ g, QL P n ops rest N (upd (msk f g T) d (.bool (decide (q ∧ r)))) A) : QL P n ops l N f A := by
  intro w hw
  rw [← List.take_append_drop m l, hm]
  have fin : ∀ (g : Nat → Value) (v : Value), Out T f g → (bif decide q then g t else .bool false) = v → v = .bool (decide (q ∧ r)) →
      SL P n ops w (fun g => N g w) (⟨some d, .pick (.tmp e) (.tmp t) (.const (.bool false)), ty, p, af, gd⟩ :: rest) g := by
    intro g v ho hv hv'
    have hge : g e = .bool (decide q) := (ho e he).trans hq
    have core : SL P n ops w (fun g => N g w) (⟨some d, .pick (.tmp e) (.tmp t) (.const (.bool false)), ty, p, af, none⟩ :: rest) g := by
      refine zEL (v := v) ?_ hd ?_
      · subst hv
        by_cases hq' : q <;> simp [execOp, ev, hge, hq', asBool]
      · rw [hv']
        have := k g w hw
        rw [zCj ho] at this
        exact this
    cases gd with
    | none => exact core
    | some ib =>
      obtain ⟨i, b⟩ := ib
      obtain ⟨s, h1, h2, h3⟩ := hgd
      exact zGT h1 ((ho s h2).trans h3) core
  by_cases hc : q
  · refine zB6 _ (hy hc w hw) ?_
    rintro g ⟨ho, ht, -⟩
    refine fin g _ ho rfl ?_
    simp [hc, ht]
  · refine zBP (b' := false) hj rfl _ [] T f hT (by rw [hq]; simp [hc]) (by simp [jt]) hn ?_
    intro g ho
    refine fin g _ ho rfl ?_
    simp [hc]
theorem zHN (m j : Nat) (T : List Nat) {q : Prop} (r : Prop) [Decidable q] [Decidable r] {gd : Option (Nat × Bool)} (hm : l.drop m = ⟨some d, .pick (.tmp e) (.const (.bool true)) (.tmp t), ty, p, af, gd⟩ :: rest)
    (hj : yQ ops j = some e) (hq : f e = .bool (decide q)) (hT : kK ops j e false [] (l.take m) = some T) (hn : zA2 n (l.take m) = true) (he : jt T e = false)
    (hgd : match gd with | none => True | some (i, b) => ∃ s, yQ ops i = some s ∧ jt T s = false ∧ f s = .bool b) (hd : Nat.blt d n = true)
    (hy : ¬ q → QL P n ops (l.take m) (zCF T f t (.bool (decide r)) A) f A)
    (k : ∀ g, QL P n ops rest N (upd (msk f g T) d (.bool (decide (q ∨ r)))) A) : QL P n ops l N f A := by
  intro w hw
  rw [← List.take_append_drop m l, hm]
  have fin : ∀ (g : Nat → Value) (v : Value), Out T f g → (bif decide q then .bool true else g t) = v → v = .bool (decide (q ∨ r)) →
      SL P n ops w (fun g => N g w) (⟨some d, .pick (.tmp e) (.const (.bool true)) (.tmp t), ty, p, af, gd⟩ :: rest) g := by
    intro g v ho hv hv'
    have hge : g e = .bool (decide q) := (ho e he).trans hq
    have core : SL P n ops w (fun g => N g w) (⟨some d, .pick (.tmp e) (.const (.bool true)) (.tmp t), ty, p, af, none⟩ :: rest) g := by
      refine zEL (v := v) ?_ hd ?_
      · subst hv
        by_cases hq' : q <;> simp [execOp, ev, hge, hq', asBool]
      · rw [hv']
        have := k g w hw
        rw [zCj ho] at this
        exact this
    cases gd with
    | none => exact core
    | some ib =>
      obtain ⟨i, b⟩ := ib
      obtain ⟨s, h1, h2, h3⟩ := hgd
      exact zGT h1 ((ho s h2).trans h3) core
  by_cases hc : q
  · refine zBP (b' := true) hj rfl _ [] T f hT (by rw [hq]; simp [hc]) (by simp [jt]) hn ?_
    intro g ho
    refine fin g _ ho rfl ?_
    simp [hc]
  · refine zB6 _ (hy hc w hw) ?_
    rintro g ⟨ho, ht, -⟩
    refine fin g _ ho rfl ?_
    simp [hc, ht]
end
end Go.Sc
