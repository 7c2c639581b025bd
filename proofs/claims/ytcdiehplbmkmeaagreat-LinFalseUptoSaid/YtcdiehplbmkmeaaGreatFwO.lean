import Derived.Test.YtcdiehplbmkmeaaGreatFwR
import Derived.Test.YtcdiehplbmkmeaaGreatSrt
set_option linter.unusedSimpArgs false
set_option linter.unusedVariables false
set_option linter.unusedSectionVars false
namespace Go.Sc
theorem zEz : ∀ l m : List UInt8, (Op.bytesLess l m = true) ↔ l < m
  | _, [] => by cases ‹List UInt8› <;> simp [Op.bytesLess]
  | [], _ :: _ => by simp [Op.bytesLess]
  | a :: l, b :: m => by
    have ih := zEz l m
    unfold Op.bytesLess
    rw [List.cons_lt_cons_iff, ← ih]
    simp only [Bool.or_eq_true, Bool.and_eq_true, decide_eq_true_eq, beq_iff_eq]
def S1 (s : ByteArray) : List Value := [.string s]
def jx (a b : ByteArray) : Prop := a.toList < b.toList
def sLe (a b : ByteArray) : Prop := ¬ jx b a
instance (a b : ByteArray) : Decidable (jx a b) := inferInstanceAs (Decidable (_ < _))
instance (a b : ByteArray) : Decidable (sLe a b) := inferInstanceAs (Decidable (¬ _))
theorem xo (a : ByteArray) : ¬ jx a a := List.lt_irrefl _
theorem jb {a b c : ByteArray} (h : jx a b) (k : jx b c) : jx a c := List.lt_trans h k
theorem jk {a b : ByteArray} (h : jx a b) : ¬ jx b a := fun k => xo _ (jb h k)
theorem zJ7 {a b : ByteArray} (h : a.toList = b.toList) : a = b := of_decide_eq_true (kD a b ▸ (by rw [h]; simp))
theorem zFH {a b : ByteArray} (h : ¬ jx a b) (k : ¬ jx b a) : a = b := zJ7 (List.le_antisymm (List.not_lt.1 k) (List.not_lt.1 h))
theorem zKg {a b c : ByteArray} (h : ¬ jx b a) (k : ¬ jx c b) : ¬ jx c a := fun q => by
  by_cases e : jx a b
  · exact k (jb q e)
  · exact k (by rw [← zFH e h]; exact q)
instance : SO ByteArray := ⟨jx, fun a b => inferInstance, jk, zKg⟩
theorem sLe_iff {a b : ByteArray} : sLe a b ↔ jx a b ∨ a = b :=
  ⟨fun h => (Classical.em (jx a b)).imp id fun k => zFH k h, fun h => h.elim jk fun e => e ▸ xo _⟩
section
variable {P : Program} {n : Nat} {ops : Array Oper} {N : K} {f : Nat → Value} {rest : List Oper} {d : Nat} {t ty : TypeId} {p : String} {af : Array Edge} {x y : Operand} {A : World → Prop}
variable {s u : ByteArray} {t' : TypeId}
theorem zGs : Op.bytesLess s.toList u.toList = decide (jx s u) := by rw [Bool.eq_iff_iff, zEz, decide_eq_true_eq]; exact Iff.rfl
theorem zLG (hx : ev f x = .string s) (hy : ev f y = .string u) : RV P f ⟨some d, .binOp .geq t x y t', ty, p, af, none⟩ A (.bool (decide (sLe u s))) :=
  fun w _ => by simp only [execOp, hx, hy, eqGuard]; simp [binOp, Op.stringOp, zGs, sLe]; by_cases q : jx s u <;> simp [q]
theorem zLO (hx : ev f x = .string s) (hy : ev f y = .string u) (hd : Nat.blt d n = true) (k : CL P n ops rest N (upd f d (.bool (decide (sLe u s)))) A) : CL P n ops (⟨some d, .binOp .geq t x y t', ty, p, af, none⟩ :: rest) N f A := z5 hd (zLG hx hy) k
end
theorem zCP {α : Type} [Inhabited α] {g : α → List Value} {sz : Nat} (hg : ∀ x, (g x).length = sz) {o : Nat} (ho : o < sz) {u : Value} : ∀ {l : List α} {k : Nat} {a : α}, k < l.length → g a = (g (zG l k)).set o u → (l.set k a).flatMap g = (l.flatMap g).set (k * sz + o) u
  | [], k, a, h, _ => by simp at h
  | b :: l, 0, a, _, hu => by
    have hu : g a = (g b).set o u := hu
    simp only [List.set_cons_zero, List.flatMap_cons, Nat.zero_mul, Nat.zero_add]
    rw [List.set_append_left _ _ (by rw [hg]; exact ho), hu]
  | b :: l, k + 1, a, h, hu => by
    have ih := zCP hg ho (l := l) (k := k) (a := a) (by simpa using h) hu
    simp only [List.set_cons_succ, List.flatMap_cons, ih]
    rw [Nat.add_mul, Nat.one_mul, show k * sz + sz + o = (g b).length + (k * sz + o) by rw [hg]; omega, List.set_append_right _ _ (by omega)]
    congr 2; omega
section
variable {P : Program} {n : Nat} {ops : Array Oper} {N : K} {f : Nat → Value} {rest : List Oper} {d : Nat} {t ty e : TypeId} {p : String} {af : Array Edge} {x y : Operand} {w0 : World} {S : List Nat} {L : List Res}
theorem zHP {α : Type} [Inhabited α] {g : α → List Value} {xs : List α} (k sz j o : Nat) (a : α) {off : Nat} {v u : Value} (hL : L[k]? = some (Res.vec e sz v xs.length (xs.flatMap g))) (hg : ∀ x, (g x).length = sz) (hx : ev f x = .pointer (some ⟨xK v, off, none⟩)) (ho : off = yK v + (j * sz + o)) (hy : ev f y = u) (hu : g a = (g (zG xs j)).set o u) (hc : cell1 u = true) (hj : j < xs.length) (hp : o < sz) (ht : kZ P t = some 1)
    (kk : CL P n ops rest N f (Own w0 S (L.set k (Res.vec e sz v (xs.set j a).length ((xs.set j a).flatMap g))))) : CL P n ops (⟨none, .store t x y, ty, p, af, none⟩ :: rest) N f (Own w0 S L) := by
  refine zJK k (j * sz + o) hx ho hy hL ht hc (by rw [xu hg]; exact Nat.lt_of_lt_of_le (Nat.add_lt_add_left hp _) (Nat.le_trans (Nat.le_of_eq (by rw [Nat.add_mul, Nat.one_mul])) (Nat.mul_le_mul_right sz (show j + 1 ≤ xs.length by omega)))) ?_
  rw [zCP hg hp hj hu, List.length_set] at kk
  exact kk
end
end Go.Sc
