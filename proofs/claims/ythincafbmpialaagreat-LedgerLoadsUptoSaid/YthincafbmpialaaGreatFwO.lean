import Derived.Test.YthincafbmpialaaGreatFwR
import Derived.Test.YthincafbmpialaaGreatSrt
set_option linter.unusedSimpArgs false
set_option linter.unusedVariables false
set_option linter.unusedSectionVars false
namespace Go.Sc
theorem zGQ : ∀ l m : List UInt8, (Op.bytesLess l m = true) ↔ l < m
  | _, [] => by cases ‹List UInt8› <;> simp [Op.bytesLess]
  | [], _ :: _ => by simp [Op.bytesLess]
  | a :: l, b :: m => by
    have ih := zGQ l m
    unfold Op.bytesLess
    rw [List.cons_lt_cons_iff, ← ih]
    simp only [Bool.or_eq_true, Bool.and_eq_true, decide_eq_true_eq, beq_iff_eq]
def S1 (s : ByteArray) : List Value := [.string s]
def sLt (a b : ByteArray) : Prop := a.toList < b.toList
def sLe (a b : ByteArray) : Prop := ¬ sLt b a
instance (a b : ByteArray) : Decidable (sLt a b) := inferInstanceAs (Decidable (_ < _))
instance (a b : ByteArray) : Decidable (sLe a b) := inferInstanceAs (Decidable (¬ _))
theorem x8 (a : ByteArray) : ¬ sLt a a := List.lt_irrefl _
theorem jd {a b c : ByteArray} (h : sLt a b) (k : sLt b c) : sLt a c := List.lt_trans h k
theorem je {a b : ByteArray} (h : sLt a b) : ¬ sLt b a := fun k => x8 _ (jd h k)
theorem zMV {a b : ByteArray} (h : a.toList = b.toList) : a = b := of_decide_eq_true (xw a b ▸ (by rw [h]; simp))
theorem zDw {a b : ByteArray} (h : ¬ sLt a b) (k : ¬ sLt b a) : a = b := zMV (List.le_antisymm (List.not_lt.1 k) (List.not_lt.1 h))
theorem zLq {a b c : ByteArray} (h : ¬ sLt b a) (k : ¬ sLt c b) : ¬ sLt c a := fun q => by
  by_cases e : sLt a b
  · exact k (jd q e)
  · exact k (by rw [← zDw e h]; exact q)
instance : SO ByteArray := ⟨sLt, fun a b => inferInstance, je, zLq⟩
theorem sLe_iff {a b : ByteArray} : sLe a b ↔ sLt a b ∨ a = b :=
  ⟨fun h => (Classical.em (sLt a b)).imp id fun k => zDw k h, fun h => h.elim je fun e => e ▸ x8 _⟩
section
variable {P : Program} {n : Nat} {ops : Array Oper} {N : K} {f : Nat → Value} {rest : List Oper} {d : Nat} {t ty : TypeId} {p : String} {af : Array Edge} {x y : Operand} {A : World → Prop}
variable {s u : ByteArray} {t' : TypeId}
theorem zEX : Op.bytesLess s.toList u.toList = decide (sLt s u) := by rw [Bool.eq_iff_iff, zGQ, decide_eq_true_eq]; exact Iff.rfl
theorem zMm (hx : ev f x = .string s) (hy : ev f y = .string u) : RV P f ⟨some d, .binOp .geq t x y t', ty, p, af, none⟩ A (.bool (decide (sLe u s))) :=
  fun w _ => by simp only [execOp, hx, hy, eqGuard]; simp [binOp, Op.stringOp, zEX, sLe]; by_cases q : sLt s u <;> simp [q]
theorem zMM : (Op.bytesLess s.toList u.toList || s.toList == u.toList) = decide (sLe s u) := by
  rw [zEX, Bool.eq_iff_iff]
  simp only [Bool.or_eq_true, decide_eq_true_eq, xw]
  exact sLe_iff.symm
theorem zMq (hx : ev f x = .string s) (hy : ev f y = .string u) : RV P f ⟨some d, .binOp .leq t x y t', ty, p, af, none⟩ A (.bool (decide (sLe s u))) :=
  fun w _ => by simp only [execOp, hx, hy, eqGuard]; simp [binOp, Op.stringOp, ← zMM]
theorem zM5 (hx : ev f x = .string s) (hy : ev f y = .string u) (hd : Nat.blt d n = true) (k : CL P n ops rest N (upd f d (.bool (decide (sLe u s)))) A) : CL P n ops (⟨some d, .binOp .geq t x y t', ty, p, af, none⟩ :: rest) N f A := yd hd (zMm hx hy) k
end
theorem zDE {α : Type} [Inhabited α] {g : α → List Value} {sz : Nat} (hg : ∀ x, (g x).length = sz) {o : Nat} (ho : o < sz) {u : Value} : ∀ {l : List α} {k : Nat} {a : α}, k < l.length → g a = (g (zI l k)).set o u → (l.set k a).flatMap g = (l.flatMap g).set (k * sz + o) u
  | [], k, a, h, _ => by simp at h
  | b :: l, 0, a, _, hu => by
    have hu : g a = (g b).set o u := hu
    simp only [List.set_cons_zero, List.flatMap_cons, Nat.zero_mul, Nat.zero_add]
    rw [List.set_append_left _ _ (by rw [hg]; exact ho), hu]
  | b :: l, k + 1, a, h, hu => by
    have ih := zDE hg ho (l := l) (k := k) (a := a) (by simpa using h) hu
    simp only [List.set_cons_succ, List.flatMap_cons, ih]
    rw [Nat.add_mul, Nat.one_mul, show k * sz + sz + o = (g b).length + (k * sz + o) by rw [hg]; omega, List.set_append_right _ _ (by omega)]
    congr 2; omega
section
variable {P : Program} {n : Nat} {ops : Array Oper} {N : K} {f : Nat → Value} {rest : List Oper} {d : Nat} {t ty e : TypeId} {p : String} {af : Array Edge} {x y : Operand} {w0 : World} {S : List Nat} {L : List Res}
theorem zLz {α : Type} [Inhabited α] {g : α → List Value} {xs : List α} (k sz j o : Nat) (a : α) {off : Nat} {v u : Value} (hL : L[k]? = some (Res.vec e sz v xs.length (xs.flatMap g))) (hg : ∀ x, (g x).length = sz) (hx : ev f x = .pointer (some ⟨kQ v, off, none⟩)) (ho : off = yn v + (j * sz + o)) (hy : ev f y = u) (hu : g a = (g (zI xs j)).set o u) (hc : cell1 u = true) (hj : j < xs.length) (hp : o < sz) (ht : zAT P t = some 1)
    (kk : CL P n ops rest N f (Own w0 S (L.set k (Res.vec e sz v (xs.set j a).length ((xs.set j a).flatMap g))))) : CL P n ops (⟨none, .store t x y, ty, p, af, none⟩ :: rest) N f (Own w0 S L) := by
  refine zLD k (j * sz + o) hx ho hy hL ht hc (by rw [ky hg]; exact Nat.lt_of_lt_of_le (Nat.add_lt_add_left hp _) (Nat.le_trans (Nat.le_of_eq (by rw [Nat.add_mul, Nat.one_mul])) (Nat.mul_le_mul_right sz (show j + 1 ≤ xs.length by omega)))) ?_
  rw [zDE hg hp hj hu, List.length_set] at kk
  exact kk
end
end Go.Sc
