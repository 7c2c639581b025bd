import Derived.Test.YtcdiehplbmkmeaaGreatFwQ
import Derived.Laws.StructEq
set_option linter.unusedSimpArgs false
set_option linter.unusedVariables false
set_option linter.unusedSectionVars false
namespace Go.Sc
def zBQ (P : Program) (t : TypeId) : Option (List (Nat × Option (Option IntKind))) :=
  match P.underlying t with
  | some (.struct fs) => if P.stoodInHeld t then none else fs.toList.mapM fun (f : Field) => if f.name = "_" then none else
    match P.underlying f.type with
    | some (.int k) => some (f.offset, some (some k))
    | some .string => some (f.offset, some none)
    | some .bool => some (f.offset, none)
    | _ => none
  | _ => none
def eqC : Value → Value → Bool
  | .int _ a, .int _ b => decide (a = b)
  | .bool a, .bool b => decide (a = b)
  | .string a, .string b => decide (a = b)
  | _, _ => false
def zCv : Option (Option IntKind) → Value → Bool
  | some (some k), .int k' _ => k = k'
  | some none, .string _ => true
  | none, .bool _ => true
  | _, _ => false
def k8 (ks : List (Nat × Option (Option IntKind))) (xs : List Value) : Bool := ks.all fun q => match xs[q.1]? with | some v => zCv q.2 v | none => false
def eqL (ks : List (Nat × Option (Option IntKind))) (xs ys : List Value) : Bool := ks.all fun q => match xs[q.1]?, ys[q.1]? with | some a, some b => eqC a b | _, _ => false
section
variable {P : Program}
theorem zH4 {t : TypeId} {k : Option (Option IntKind)} {d : Nat} {a b : Value} {w : World}
    (ht : match k with | some (some q) => P.underlying t = some (.int q) | some none => P.underlying t = some .string | none => P.underlying t = some .bool) (ha : zCv k a = true) (hb : zCv k b = true) :
    (Op.equalIn (d + 1) t a b).run P w = .ok (eqC a b) w ∧ (isAgg t).run P w = .ok false w := by
  match k, a, b with
  | some (some q), .int k1 x, .int k2 y =>
    simp only [zCv, decide_eq_true_eq] at ha hb
    subst ha; subst hb
    simp only at ht
    refine ⟨?_, by simp [isAgg, zg ht]⟩
    simp only [Op.equalIn, Sem.run_bind, zg ht, Result.andThen_ok, if_true, Sem.run_pure, eqC]
    rfl
  | some none, .string x, .string y =>
    simp only at ht
    refine ⟨?_, by simp [isAgg, zg ht]⟩
    simp only [Op.equalIn, Sem.run_bind, zg ht, Result.andThen_ok, Sem.run_pure, eqC]
    rw [beq_toListBytes, kD]
  | none, .bool x, .bool y =>
    simp only at ht
    refine ⟨?_, by simp [isAgg, zg ht]⟩
    simp only [Op.equalIn, Sem.run_bind, zg ht, Result.andThen_ok, Sem.run_pure, eqC]
    cases x <;> cases y <;> rfl
  | some (some _), .bool _, _ | some (some _), .float _ _, _ | some (some _), .complex _ _ _, _ | some (some _), .string _, _ | some (some _), .pointer _, _ | some (some _), .slice _ _ _, _ | some (some _), .map _, _ | some (some _), .chan _, _ | some (some _), .func _ _ _, _ | some (some _), .nilFunc, _ | some (some _), .iface _ _, _ | some (some _), .nilIface, _ | some (some _), .agg _, _ | some (some _), .tuple _, _ => cases ha
  | some (some _), .int _ _, .bool _ | some (some _), .int _ _, .float _ _ | some (some _), .int _ _, .complex _ _ _ | some (some _), .int _ _, .string _ | some (some _), .int _ _, .pointer _ | some (some _), .int _ _, .slice _ _ _ | some (some _), .int _ _, .map _ | some (some _), .int _ _, .chan _ | some (some _), .int _ _, .func _ _ _ | some (some _), .int _ _, .nilFunc | some (some _), .int _ _, .iface _ _ | some (some _), .int _ _, .nilIface | some (some _), .int _ _, .agg _ | some (some _), .int _ _, .tuple _ => cases hb
  | some none, .bool _, _ | some none, .float _ _, _ | some none, .complex _ _ _, _ | some none, .int _ _, _ | some none, .pointer _, _ | some none, .slice _ _ _, _ | some none, .map _, _ | some none, .chan _, _ | some none, .func _ _ _, _ | some none, .nilFunc, _ | some none, .iface _ _, _ | some none, .nilIface, _ | some none, .agg _, _ | some none, .tuple _, _ => cases ha
  | some none, .string _, .bool _ | some none, .string _, .float _ _ | some none, .string _, .complex _ _ _ | some none, .string _, .int _ _ | some none, .string _, .pointer _ | some none, .string _, .slice _ _ _ | some none, .string _, .map _ | some none, .string _, .chan _ | some none, .string _, .func _ _ _ | some none, .string _, .nilFunc | some none, .string _, .iface _ _ | some none, .string _, .nilIface | some none, .string _, .agg _ | some none, .string _, .tuple _ => cases hb
  | none, .string _, _ | none, .float _ _, _ | none, .complex _ _ _, _ | none, .int _ _, _ | none, .pointer _, _ | none, .slice _ _ _, _ | none, .map _, _ | none, .chan _, _ | none, .func _ _ _, _ | none, .nilFunc, _ | none, .iface _ _, _ | none, .nilIface, _ | none, .agg _, _ | none, .tuple _, _ => cases ha
  | none, .bool _, .string _ | none, .bool _, .float _ _ | none, .bool _, .complex _ _ _ | none, .bool _, .int _ _ | none, .bool _, .pointer _ | none, .bool _, .slice _ _ _ | none, .bool _, .map _ | none, .bool _, .chan _ | none, .bool _, .func _ _ _ | none, .bool _, .nilFunc | none, .bool _, .iface _ _ | none, .bool _, .nilIface | none, .bool _, .agg _ | none, .bool _, .tuple _ => cases hb
theorem zCG {t : TypeId} {cs : Array Value} {off : Nat} {v : Value} {w : World} (hag : (isAgg t).run P w = .ok false w) (hc : cs[off]? = some v) : (part t cs off).run P w = .ok v w := by
  simp [part, hag, hc]
theorem zBp (d : Nat) {xs ys : List Value} {w : World} : ∀ (fs : List Field) (ks : List (Nat × Option (Option IntKind))),
    (fs.mapM fun (f : Field) => if f.name = "_" then none else
      match P.underlying f.type with
      | some (.int k) => some (f.offset, some (some k))
      | some .string => some (f.offset, some none)
      | some .bool => some (f.offset, none)
      | _ => none) = some ks → k8 ks xs = true → k8 ks ys = true → (Op.eqFields (d + 1) xs.toArray ys.toArray fs).run P w = .ok (eqL ks xs ys) w
  | [], ks, h, _, _ => by simp at h; subst h; rfl
  | f :: fs, ks, h, hx, hy => by
    simp only [List.mapM_cons, bind, Option.bind_eq_some_iff, pure] at h
    obtain ⟨q, hq, l, hl, h⟩ := h
    simp at h; subst h
    split at hq
    · cases hq
    · rename_i hn
      obtain ⟨hoff, hk⟩ : q.1 = f.offset ∧ (match q.2 with | some (some k) => P.underlying f.type = some (.int k) | some none => P.underlying f.type = some .string | none => P.underlying f.type = some .bool) := by
        split at hq <;> simp at hq <;> subst hq <;> exact ⟨rfl, by assumption⟩
      simp only [k8, List.all_cons, Bool.and_eq_true] at hx hy
      have ih := zBp d (xs := xs) (ys := ys) (w := w) fs l hl hx.2 hy.2
      obtain ⟨hx1, -⟩ := hx
      obtain ⟨hy1, -⟩ := hy
      cases ha : xs[q.1]? with
      | none => rw [ha] at hx1; cases hx1
      | some a =>
        cases hb : ys[q.1]? with
        | none => rw [hb] at hy1; cases hy1
        | some b =>
          rw [ha] at hx1; rw [hb] at hy1
          obtain ⟨e1, e2⟩ := zH4 (P := P) (t := f.type) (d := d) (w := w) hk hx1 hy1
          have p1 := zCG (P := P) (cs := xs.toArray) e2 (by simpa [hoff] using ha)
          have p2 := zCG (P := P) (cs := ys.toArray) e2 (by simpa [hoff] using hb)
          rw [hoff] at ha hb
          simp only [Op.eqFields, eqL, List.all_cons, hoff, ha, hb]
          cases hc : eqC a b
          · simp [hn, p1, p2, e1, hc]
          · simp only [eqL] at ih
            simp [hn, p1, p2, e1, hc, ih]
theorem zAZ {t : TypeId} {ks : List (Nat × Option (Option IntKind))} {xs ys : List Value} {w : World} (h : zBQ P t = some ks) (hx : k8 ks xs = true) (hy : k8 ks ys = true) :
    (Op.equal t (.agg xs.toArray) (.agg ys.toArray)).run P w = .ok (eqL ks xs ys) w := by
  unfold zBQ at h
  split at h
  · rename_i fs hfs
    split at h
    · cases h
    · rename_i hst
      have hf : P.fieldsOf t = fs := by simp [Program.fieldsOf, hfs]
      have := run_equalIn_struct (P := P) (w := w) 9999 t xs.toArray ys.toArray (by rw [hf]; exact hfs) (by simpa using hst)
      show (Op.equalIn (9999 + 1) t _ _).run P w = _
      rw [this, hf]
      exact zBp 9998 fs.toList ks h hx hy
  · cases h
variable {n : Nat} {ops : Array Oper} {N : K} {f : Nat → Value} {A : World → Prop} {rest : List Oper} {d : Nat} {ty : TypeId} {p : String} {af : Array Edge} {x y : Operand} {t t' : TypeId}
theorem zLh {ks : List (Nat × Option (Option IntKind))} {xs ys : List Value} (h : zBQ P t = some ks) (hg : P.eqGuardType P.depth t = false) (hx : ev f x = .agg xs.toArray) (hy : ev f y = .agg ys.toArray) (hfx : k8 ks xs = true) (hfy : k8 ks ys = true) :
    RV P f ⟨some d, .binOp .eql t x y t', ty, p, af, none⟩ A (.bool (eqL ks xs ys)) := fun w _ => by
  have h1 := zAZ (w := w) h hfx hfy
  have hp : (Go.program).run P w = .ok P w := rfl
  have e : binOp .eql t (.agg xs.toArray) (.agg ys.toArray) = (do pure (.bool (← Op.equal t (.agg xs.toArray) (.agg ys.toArray)))) := rfl
  simp only [execOp, hx, hy, eqGuard, e]
  simp [hp, hg, h1]
theorem zLc {ks : List (Nat × Option (Option IntKind))} {xs ys : List Value} (h : zBQ P t = some ks) (hg : P.eqGuardType P.depth t = false) (hx : ev f x = .agg xs.toArray) (hy : ev f y = .agg ys.toArray) (hfx : k8 ks xs = true) (hfy : k8 ks ys = true) :
    RV P f ⟨some d, .binOp .neq t x y t', ty, p, af, none⟩ A (.bool (!eqL ks xs ys)) := fun w _ => by
  have h1 := zAZ (w := w) h hfx hfy
  have hp : (Go.program).run P w = .ok P w := rfl
  have e : binOp .neq t (.agg xs.toArray) (.agg ys.toArray) = (do pure (.bool (!(← Op.equal t (.agg xs.toArray) (.agg ys.toArray))))) := rfl
  simp only [execOp, hx, hy, eqGuard, e]
  simp [hp, hg, h1]
theorem zGl {ks : List (Nat × Option (Option IntKind))} {xs ys : List Value} {q : Prop} [Decidable q] (hq : eqL ks xs ys = decide q) (h : zBQ P t = some ks) (hg : P.eqGuardType P.depth t = false) (hx : ev f x = .agg xs.toArray) (hy : ev f y = .agg ys.toArray) (hfx : k8 ks xs = true) (hfy : k8 ks ys = true) :
    RV P f ⟨some d, .binOp .eql t x y t', ty, p, af, none⟩ A (.bool (decide q)) := by rw [← hq]; exact zLh h hg hx hy hfx hfy
theorem zLB {ks : List (Nat × Option (Option IntKind))} {xs ys : List Value} {q : Prop} [Decidable q] (hq : eqL ks xs ys = decide q) (h : zBQ P t = some ks) (hg : P.eqGuardType P.depth t = false) (hx : ev f x = .agg xs.toArray) (hy : ev f y = .agg ys.toArray) (hfx : k8 ks xs = true) (hfy : k8 ks ys = true) :
    RV P f ⟨some d, .binOp .neq t x y t', ty, p, af, none⟩ A (.bool (decide ¬ q)) := by
  have e : decide (¬ q) = !eqL ks xs ys := by rw [hq, decide_not]
  rw [e]; exact zLc h hg hx hy hfx hfy
end
def yx (a : Int) : Prop := -9223372036854775808 ≤ a ∧ a ≤ 9223372036854775807
def isU (n : Nat) : Prop := n < 18446744073709551616
def u64 (a : Int) : Nat := (a % 18446744073709551616).toNat
theorem zDC (a : Int) : u64 a < 18446744073709551616 := by unfold u64; omega
theorem kg (a : Int) : IntKind.u64.wrap a = (u64 a : Int) := by
  unfold IntKind.wrap u64
  simp [IntKind.bits, IntKind.signed]
  omega
section
variable {w0 w : World} {S S' : List Nat} {L : List Res}
end
section
variable {P : Program} {n : Nat} {ops : Array Oper} {N R : K} {X : List (Nat × K)} {f : Nat → Value} {W : World → Prop} {w w0 : World} {S : List Nat} {L : List Res}
variable {d : Nat} {ty t : TypeId} {p : String} {af : Array Edge} {fuel : Nat} {listed : Array Bool} {x y : Operand}
end
end Go.Sc
