import Derived.Test.YthincafbmpialaaGreatFwM
import Derived.Laws.StructEq
set_option linter.unusedSimpArgs false
set_option linter.unusedVariables false
set_option linter.unusedSectionVars false
namespace Go.Sc
section
variable {P : Program} {n : Nat} {ops : Array Oper} {N R : K} {X : List (Nat × K)} {f : Nat → Value} {A : World → Prop} {rest : List Oper}
variable {d : Nat} {ty : TypeId} {p : String} {af : Array Edge}
def QL (P : Program) (n : Nat) (ops : Array Oper) (l : List Oper) (N : K) (f : Nat → Value) (A : World → Prop) : Prop := ∀ w, A w → SL P n ops w (fun g => N g w) l f
theorem zJ4 {w0 : World} {S : List Nat} {L : List Res} {id : Nat} {l : List Oper} (hm : P.follows .mixedOrders = true) (hB : Region.lexB .any l.toArray = true) (h : QL P n l.toArray l N f (Own w0 S L)) : C P n (.region id l.toArray true) N R X f (Own w0 S L) :=
  fun w hw => zCZ hm hB (h _ hw.drawn)
theorem xb {w0 : World} {S : List Nat} {L : List Res} {id : Nat} {l : List Oper} {y : Code} (hm : P.follows .mixedOrders = true) (hB : Region.lexB .any l.toArray = true) (h : QL P n l.toArray l (fun f w => W P n y N R X f w) f (Own w0 S L)) : C P n (.seq (.region id l.toArray true) y) N R X f (Own w0 S L) :=
  zL (zJ4 hm hB h)
theorem zNH (h : ∀ w, A w → N f w) : QL P n ops [] N f A := fun w hw => zHe (h w hw)
theorem j9 {c : Code} {M : K} (h : C P n c M R X f A) : QL P n ops [] (fun f w => W P n c M R X f w) f A := fun w hw => zHe (h w hw)
theorem zf {op : Op} {v : Value} (hd : Nat.blt d n = true) (hv : RV P f ⟨some d, op, ty, p, af, none⟩ A v) (k : QL P n ops rest N (upd f d v) A) : QL P n ops (⟨some d, op, ty, p, af, none⟩ :: rest) N f A :=
  fun w hw => zF5 (hv w hw) hd (k w hw)
theorem y4 {j e : Nat} {b : Bool} {dst : Option Tmp} {op : Op} (hj : yl ops j = some e) (hb : f e = .bool b) (k : QL P n ops (⟨dst, op, ty, p, af, none⟩ :: rest) N f A) : QL P n ops (⟨dst, op, ty, p, af, some (j, b)⟩ :: rest) N f A :=
  fun w hw => zIg hj hb (k w hw)
theorem zCQ {M : (Nat → Value) → Prop} {j e : Nat} {b b' : Bool} (hj : yl ops j = some e) (hne : (b' == b) = false) {w : World} : ∀ (l1 : List Oper) (U T : List Nat) (f : Nat → Value),
    k5 ops j e b U l1 = some T → f e = .bool b' → (∀ s, inT U s = true → f s = undef) → zBd n l1 = true →
    (∀ g, Out T f g → SL P n ops w M rest g) → SL P n ops w M (l1 ++ rest) f
  | [], U, T, f, hs, hf, hU, hn, k => k f (Out.refl _ _)
  | o :: l1, U, T, f, hs, hf, hU, hn, k => by
    intro a ha
    unfold k5 at hs
    cases hg : o.guard with
    | none => rw [hg] at hs; cases hs
    | some q =>
      obtain ⟨i, w0⟩ := q
      cases hd : o.dst with
      | none => rw [hg, hd] at hs; cases hs
      | some d =>
        rw [hg, hd] at hs
        dsimp only at hs
        obtain ⟨hc, hs⟩ := zBD hs
        simp only [Bool.and_eq_true, Bool.or_eq_true, Bool.not_eq_true'] at hc
        obtain ⟨hc, hde⟩ := hc
        have hne' : e ≠ d := by intro h; subst h; simp at hde
        simp only [zBd, List.all_cons, Bool.and_eq_true, hd] at hn
        have hdn : d < n := by simpa [Nat.blt_eq] using hn.1
        have hw : Region.wanted o (yielded ops a.tmps) = false := by
          unfold Region.wanted
          rw [hg]
          rcases hc with ⟨h1, h2⟩ | h1
          · have : i = j := Nat.eq_of_beq_eq_true h1
            subst this
            have : w0 = b := by simpa using h2
            subst this
            simp only [kC ha hj hf]
            simpa using hne
          · cases hsl : yl ops i with
            | none => rw [hsl] at h1; cases h1
            | some s =>
              rw [hsl] at h1
              simp only [jL ha hsl (hU s h1)]
              rfl
        show wpStill P ops w _ (o :: (l1 ++ rest)) a
        unfold wpStill
        rw [if_neg (by rw [hw]; simp), hd]
        refine zCQ hj hne l1 (d :: U) T (upd f d undef) hs (by rw [jt _ _ hne']; exact hf) ?_ hn.2 ?_ _ (ha.put hdn undef)
        · intro s hs'
          by_cases h : s = d
          · subst h; rw [zBJ]
          · rw [jt _ _ h]
            refine hU s ?_
            unfold inT at hs' ⊢
            simp only [List.any_cons, Bool.or_eq_true] at hs'
            rcases hs' with h1 | h1
            · exact absurd (Nat.eq_of_beq_eq_true h1) h
            · exact h1
        · intro g hg'
          refine k g (fun i hi => ?_)
          rw [hg' i hi]
          refine jt _ _ ?_
          intro h; subst h
          have mem : ∀ (l : List Oper) (U T : List Nat), k5 ops j e b U l = some T → ∀ x, inT U x = true → inT T x = true := by
            intro l
            induction l with
            | nil => intro U T h x hx; simp [k5] at h; subst h; exact hx
            | cons o l ih =>
              intro U T h x hx
              unfold k5 at h
              split at h
              · exact ih _ _ (zBD h).2 x (by unfold inT at hx ⊢; simp [hx])
              · cases h
          have := mem l1 _ _ hs i (by unfold inT; simp)
          rw [this] at hi; cases hi
theorem zDT {M M' : (Nat → Value) → Prop} {w : World} {l2 : List Oper} : ∀ (l1 : List Oper) {f : Nat → Value}, SL P n ops w M' l1 f → (∀ f, M' f → SL P n ops w M l2 f) → SL P n ops w M (l1 ++ l2) f := by
  intro l1 f h hk a ha
  have := h a ha
  clear h ha
  revert this a
  suffices ∀ (l : List Oper) (a : Act), wpStill P ops w (fun a => ∃ f, Rep n f a ∧ M' f) l a → wpStill P ops w (fun a => ∃ f, Rep n f a ∧ M f) (l ++ l2) a from fun a h => this l1 a h
  intro l
  induction l with
  | nil =>
    intro a h
    obtain ⟨f, hr, hm⟩ := h
    exact hk f hm a hr
  | cons o l ih =>
    intro a h
    show wpStill P ops w _ (o :: (l ++ l2)) a
    unfold wpStill at h ⊢
    split
    · rename_i hw; rw [if_pos hw] at h; exact Oper.still_mono ih h
    · rename_i hw; rw [if_neg hw] at h; exact ih _ h
variable {e t : Nat} {l : List Oper}
theorem zD2 (m j : Nat) (T : List Nat) {q : Prop} (r : Prop) [Decidable q] [Decidable r] {gd : Option (Nat × Bool)} (hm : l.drop m = ⟨some d, .pick (.tmp e) (.tmp t) (.const (.bool false)), ty, p, af, gd⟩ :: rest)
    (hj : yl ops j = some e) (hq : f e = .bool (decide q)) (hT : k5 ops j e true [] (l.take m) = some T) (hn : zBd n (l.take m) = true) (he : inT T e = false)
    (hgd : match gd with | none => True | some (i, b) => ∃ s, yl ops i = some s ∧ inT T s = false ∧ f s = .bool b) (hd : Nat.blt d n = true)
    (hy : q → QL P n ops (l.take m) (zDX T f t (.bool (decide r)) A) f A)
    (k : ∀ g, QL P n ops rest N (upd (msk f g T) d (.bool (decide (q ∧ r)))) A) : QL P n ops l N f A := by
  intro w hw
  rw [← List.take_append_drop m l, hm]
  have fin : ∀ (g : Nat → Value) (v : Value), Out T f g → (bif decide q then g t else .bool false) = v → v = .bool (decide (q ∧ r)) →
      SL P n ops w (fun g => N g w) (⟨some d, .pick (.tmp e) (.tmp t) (.const (.bool false)), ty, p, af, gd⟩ :: rest) g := by
    intro g v ho hv hv'
    have hge : g e = .bool (decide q) := (ho e he).trans hq
    have core : SL P n ops w (fun g => N g w) (⟨some d, .pick (.tmp e) (.tmp t) (.const (.bool false)), ty, p, af, none⟩ :: rest) g := by
      refine zF5 (v := v) ?_ hd ?_
      · subst hv
        by_cases hq' : q <;> simp [execOp, ev, hge, hq', asBool]
      · rw [hv']
        have := k g w hw
        rw [zD1 ho] at this
        exact this
    cases gd with
    | none => exact core
    | some ib =>
      obtain ⟨i, b⟩ := ib
      obtain ⟨s, h1, h2, h3⟩ := hgd
      exact zIg h1 ((ho s h2).trans h3) core
  by_cases hc : q
  · refine zDT _ (hy hc w hw) ?_
    rintro g ⟨ho, ht, -⟩
    refine fin g _ ho rfl ?_
    simp [hc, ht]
  · refine zCQ (b' := false) hj rfl _ [] T f hT (by rw [hq]; simp [hc]) (by simp [inT]) hn ?_
    intro g ho
    refine fin g _ ho rfl ?_
    simp [hc]
theorem zFR (m j : Nat) (T : List Nat) {q : Prop} (r : Prop) [Decidable q] [Decidable r] {gd : Option (Nat × Bool)} (hm : l.drop m = ⟨some d, .pick (.tmp e) (.const (.bool true)) (.tmp t), ty, p, af, gd⟩ :: rest)
    (hj : yl ops j = some e) (hq : f e = .bool (decide q)) (hT : k5 ops j e false [] (l.take m) = some T) (hn : zBd n (l.take m) = true) (he : inT T e = false)
    (hgd : match gd with | none => True | some (i, b) => ∃ s, yl ops i = some s ∧ inT T s = false ∧ f s = .bool b) (hd : Nat.blt d n = true)
    (hy : ¬ q → QL P n ops (l.take m) (zDX T f t (.bool (decide r)) A) f A)
    (k : ∀ g, QL P n ops rest N (upd (msk f g T) d (.bool (decide (q ∨ r)))) A) : QL P n ops l N f A := by
  intro w hw
  rw [← List.take_append_drop m l, hm]
  have fin : ∀ (g : Nat → Value) (v : Value), Out T f g → (bif decide q then .bool true else g t) = v → v = .bool (decide (q ∨ r)) →
      SL P n ops w (fun g => N g w) (⟨some d, .pick (.tmp e) (.const (.bool true)) (.tmp t), ty, p, af, gd⟩ :: rest) g := by
    intro g v ho hv hv'
    have hge : g e = .bool (decide q) := (ho e he).trans hq
    have core : SL P n ops w (fun g => N g w) (⟨some d, .pick (.tmp e) (.const (.bool true)) (.tmp t), ty, p, af, none⟩ :: rest) g := by
      refine zF5 (v := v) ?_ hd ?_
      · subst hv
        by_cases hq' : q <;> simp [execOp, ev, hge, hq', asBool]
      · rw [hv']
        have := k g w hw
        rw [zD1 ho] at this
        exact this
    cases gd with
    | none => exact core
    | some ib =>
      obtain ⟨i, b⟩ := ib
      obtain ⟨s, h1, h2, h3⟩ := hgd
      exact zIg h1 ((ho s h2).trans h3) core
  by_cases hc : q
  · refine zCQ (b' := true) hj rfl _ [] T f hT (by rw [hq]; simp [hc]) (by simp [inT]) hn ?_
    intro g ho
    refine fin g _ ho rfl ?_
    simp [hc]
  · refine zDT _ (hy hc w hw) ?_
    rintro g ⟨ho, ht, -⟩
    refine fin g _ ho rfl ?_
    simp [hc, ht]
end
def zEn (P : Program) (t : TypeId) : Option (List (Nat × Option (Option IntKind))) :=
  match P.underlying t with
  | some (.struct fs) => if P.stoodInHeld t then none else fs.toList.mapM fun (f : Field) => if f.name = "_" then none else
    match P.underlying f.type with
    | some (.int k) => some (f.offset, some (some k))
    | some .string => some (f.offset, some none)
    | some .bool => some (f.offset, none)
    | _ => none
  | _ => none
def eqC : Value → Value → Bool
  | .int _ a, .int _ b => decide (a = b)
  | .bool a, .bool b => decide (a = b)
  | .string a, .string b => decide (a = b)
  | _, _ => false
def zEE : Option (Option IntKind) → Value → Bool
  | some (some k), .int k' _ => k = k'
  | some none, .string _ => true
  | none, .bool _ => true
  | _, _ => false
def zBS (ks : List (Nat × Option (Option IntKind))) (xs : List Value) : Bool := ks.all fun q => match xs[q.1]? with | some v => zEE q.2 v | none => false
def eqL (ks : List (Nat × Option (Option IntKind))) (xs ys : List Value) : Bool := ks.all fun q => match xs[q.1]?, ys[q.1]? with | some a, some b => eqC a b | _, _ => false
section
variable {P : Program}
theorem zKT {t : TypeId} {k : Option (Option IntKind)} {d : Nat} {a b : Value} {w : World}
    (ht : match k with | some (some q) => P.underlying t = some (.int q) | some none => P.underlying t = some .string | none => P.underlying t = some .bool) (ha : zEE k a = true) (hb : zEE k b = true) :
    (Op.equalIn (d + 1) t a b).run P w = .ok (eqC a b) w ∧ (isAgg t).run P w = .ok false w := by
  match k, a, b with
  | some (some q), .int k1 x, .int k2 y =>
    simp only [zEE, decide_eq_true_eq] at ha hb
    subst ha; subst hb
    simp only at ht
    refine ⟨?_, by simp [isAgg, zx ht]⟩
    simp only [Op.equalIn, Sem.run_bind, zx ht, Result.andThen_ok, if_true, Sem.run_pure, eqC]
    rfl
  | some none, .string x, .string y =>
    simp only at ht
    refine ⟨?_, by simp [isAgg, zx ht]⟩
    simp only [Op.equalIn, Sem.run_bind, zx ht, Result.andThen_ok, Sem.run_pure, eqC]
    rw [beq_toListBytes, xw]
  | none, .bool x, .bool y =>
    simp only at ht
    refine ⟨?_, by simp [isAgg, zx ht]⟩
    simp only [Op.equalIn, Sem.run_bind, zx ht, Result.andThen_ok, Sem.run_pure, eqC]
    cases x <;> cases y <;> rfl
  | some (some _), .bool _, _ | some (some _), .float _ _, _ | some (some _), .complex _ _ _, _ | some (some _), .string _, _ | some (some _), .pointer _, _ | some (some _), .slice _ _ _, _ | some (some _), .map _, _ | some (some _), .chan _, _ | some (some _), .func _ _ _, _ | some (some _), .nilFunc, _ | some (some _), .iface _ _, _ | some (some _), .nilIface, _ | some (some _), .agg _, _ | some (some _), .tuple _, _ => cases ha
  | some (some _), .int _ _, .bool _ | some (some _), .int _ _, .float _ _ | some (some _), .int _ _, .complex _ _ _ | some (some _), .int _ _, .string _ | some (some _), .int _ _, .pointer _ | some (some _), .int _ _, .slice _ _ _ | some (some _), .int _ _, .map _ | some (some _), .int _ _, .chan _ | some (some _), .int _ _, .func _ _ _ | some (some _), .int _ _, .nilFunc | some (some _), .int _ _, .iface _ _ | some (some _), .int _ _, .nilIface | some (some _), .int _ _, .agg _ | some (some _), .int _ _, .tuple _ => cases hb
  | some none, .bool _, _ | some none, .float _ _, _ | some none, .complex _ _ _, _ | some none, .int _ _, _ | some none, .pointer _, _ | some none, .slice _ _ _, _ | some none, .map _, _ | some none, .chan _, _ | some none, .func _ _ _, _ | some none, .nilFunc, _ | some none, .iface _ _, _ | some none, .nilIface, _ | some none, .agg _, _ | some none, .tuple _, _ => cases ha
  | some none, .string _, .bool _ | some none, .string _, .float _ _ | some none, .string _, .complex _ _ _ | some none, .string _, .int _ _ | some none, .string _, .pointer _ | some none, .string _, .slice _ _ _ | some none, .string _, .map _ | some none, .string _, .chan _ | some none, .string _, .func _ _ _ | some none, .string _, .nilFunc | some none, .string _, .iface _ _ | some none, .string _, .nilIface | some none, .string _, .agg _ | some none, .string _, .tuple _ => cases hb
  | none, .string _, _ | none, .float _ _, _ | none, .complex _ _ _, _ | none, .int _ _, _ | none, .pointer _, _ | none, .slice _ _ _, _ | none, .map _, _ | none, .chan _, _ | none, .func _ _ _, _ | none, .nilFunc, _ | none, .iface _ _, _ | none, .nilIface, _ | none, .agg _, _ | none, .tuple _, _ => cases ha
  | none, .bool _, .string _ | none, .bool _, .float _ _ | none, .bool _, .complex _ _ _ | none, .bool _, .int _ _ | none, .bool _, .pointer _ | none, .bool _, .slice _ _ _ | none, .bool _, .map _ | none, .bool _, .chan _ | none, .bool _, .func _ _ _ | none, .bool _, .nilFunc | none, .bool _, .iface _ _ | none, .bool _, .nilIface | none, .bool _, .agg _ | none, .bool _, .tuple _ => cases hb
theorem zDQ {t : TypeId} {cs : Array Value} {off : Nat} {v : Value} {w : World} (hag : (isAgg t).run P w = .ok false w) (hc : cs[off]? = some v) : (part t cs off).run P w = .ok v w := by
  simp [part, hag, hc]
theorem zCY (d : Nat) {xs ys : List Value} {w : World} : ∀ (fs : List Field) (ks : List (Nat × Option (Option IntKind))),
    (fs.mapM fun (f : Field) => if f.name = "_" then none else
      match P.underlying f.type with
      | some (.int k) => some (f.offset, some (some k))
      | some .string => some (f.offset, some none)
      | some .bool => some (f.offset, none)
      | _ => none) = some ks → zBS ks xs = true → zBS ks ys = true → (Op.eqFields (d + 1) xs.toArray ys.toArray fs).run P w = .ok (eqL ks xs ys) w
  | [], ks, h, _, _ => by simp at h; subst h; rfl
  | f :: fs, ks, h, hx, hy => by
    simp only [List.mapM_cons, bind, Option.bind_eq_some_iff, pure] at h
    obtain ⟨q, hq, l, hl, h⟩ := h
    simp at h; subst h
    split at hq
    · cases hq
    · rename_i hn
      obtain ⟨hoff, hk⟩ : q.1 = f.offset ∧ (match q.2 with | some (some k) => P.underlying f.type = some (.int k) | some none => P.underlying f.type = some .string | none => P.underlying f.type = some .bool) := by
        split at hq <;> simp at hq <;> subst hq <;> exact ⟨rfl, by assumption⟩
      simp only [zBS, List.all_cons, Bool.and_eq_true] at hx hy
      have ih := zCY d (xs := xs) (ys := ys) (w := w) fs l hl hx.2 hy.2
      obtain ⟨hx1, -⟩ := hx
      obtain ⟨hy1, -⟩ := hy
      cases ha : xs[q.1]? with
      | none => rw [ha] at hx1; cases hx1
      | some a =>
        cases hb : ys[q.1]? with
        | none => rw [hb] at hy1; cases hy1
        | some b =>
          rw [ha] at hx1; rw [hb] at hy1
          obtain ⟨e1, e2⟩ := zKT (P := P) (t := f.type) (d := d) (w := w) hk hx1 hy1
          have p1 := zDQ (P := P) (cs := xs.toArray) e2 (by simpa [hoff] using ha)
          have p2 := zDQ (P := P) (cs := ys.toArray) e2 (by simpa [hoff] using hb)
          rw [hoff] at ha hb
          simp only [Op.eqFields, eqL, List.all_cons, hoff, ha, hb]
          cases hc : eqC a b
          · simp [hn, p1, p2, e1, hc]
          · simp only [eqL] at ih
            simp [hn, p1, p2, e1, hc, ih]
theorem zDm {t : TypeId} {ks : List (Nat × Option (Option IntKind))} {xs ys : List Value} {w : World} (h : zEn P t = some ks) (hx : zBS ks xs = true) (hy : zBS ks ys = true) :
    (Op.equal t (.agg xs.toArray) (.agg ys.toArray)).run P w = .ok (eqL ks xs ys) w := by
  unfold zEn at h
  split at h
  · rename_i fs hfs
    split at h
    · cases h
    · rename_i hst
      have hf : P.fieldsOf t = fs := by simp [Program.fieldsOf, hfs]
      have := run_equalIn_struct (P := P) (w := w) 9999 t xs.toArray ys.toArray (by rw [hf]; exact hfs) (by simpa using hst)
      show (Op.equalIn (9999 + 1) t _ _).run P w = _
      rw [this, hf]
      exact zCY 9998 fs.toList ks h hx hy
  · cases h
variable {n : Nat} {ops : Array Oper} {N : K} {f : Nat → Value} {A : World → Prop} {rest : List Oper} {d : Nat} {ty : TypeId} {p : String} {af : Array Edge} {x y : Operand} {t t' : TypeId}
theorem zM4 {ks : List (Nat × Option (Option IntKind))} {xs ys : List Value} (h : zEn P t = some ks) (hg : P.eqGuardType P.depth t = false) (hx : ev f x = .agg xs.toArray) (hy : ev f y = .agg ys.toArray) (hfx : zBS ks xs = true) (hfy : zBS ks ys = true) :
    RV P f ⟨some d, .binOp .neq t x y t', ty, p, af, none⟩ A (.bool (!eqL ks xs ys)) := fun w _ => by
  have h1 := zDm (w := w) h hfx hfy
  have hp : (Go.program).run P w = .ok P w := rfl
  have e : binOp .neq t (.agg xs.toArray) (.agg ys.toArray) = (do pure (.bool (!(← Op.equal t (.agg xs.toArray) (.agg ys.toArray))))) := rfl
  simp only [execOp, hx, hy, eqGuard, e]
  simp [hp, hg, h1]
theorem zKq {ks : List (Nat × Option (Option IntKind))} {xs ys : List Value} {q : Prop} [Decidable q] (hq : eqL ks xs ys = decide q) (h : zEn P t = some ks) (hg : P.eqGuardType P.depth t = false) (hx : ev f x = .agg xs.toArray) (hy : ev f y = .agg ys.toArray) (hfx : zBS ks xs = true) (hfy : zBS ks ys = true) :
    RV P f ⟨some d, .binOp .neq t x y t', ty, p, af, none⟩ A (.bool (decide ¬ q)) := by
  have e : decide (¬ q) = !eqL ks xs ys := by rw [hq, decide_not]
  rw [e]; exact zM4 h hg hx hy hfx hfy
end
def xY (a : Int) : Prop := -9223372036854775808 ≤ a ∧ a ≤ 9223372036854775807
def isU (n : Nat) : Prop := n < 18446744073709551616
def u64 (a : Int) : Nat := (a % 18446744073709551616).toNat
theorem xM (a : Int) : u64 a < 18446744073709551616 := by unfold u64; omega
theorem xX (a : Int) : IntKind.u64.wrap a = (u64 a : Int) := by
  unfold IntKind.wrap u64
  simp [IntKind.bits, IntKind.signed]
  omega
section
variable {w0 w : World} {S S' : List Nat} {L : List Res}
end
section
variable {P : Program} {n : Nat} {ops : Array Oper} {N R : K} {X : List (Nat × K)} {f : Nat → Value} {W : World → Prop} {w w0 : World} {S : List Nat} {L : List Res}
variable {d : Nat} {ty t : TypeId} {p : String} {af : Array Edge} {fuel : Nat} {listed : Array Bool} {x y : Operand}
end
end Go.Sc
