import Derived.Test.YtcdiehplbmkmeaaGreatFwR
import Derived.Test.YtcdiehplbmkmeaaGreatSrt
set_option linter.unusedSimpArgs false
set_option linter.unusedVariables false
set_option linter.unusedSectionVars false
namespace Go.Sc
theorem zE8 : ∀ l m : List UInt8, (Op.bytesLess l m = true) ↔ l < m
  | _, [] => by cases ‹List UInt8› <;> simp [Op.bytesLess]
  | [], _ :: _ => by simp [Op.bytesLess]
  | a :: l, b :: m => by
    have ih := zE8 l m
    unfold Op.bytesLess
    rw [List.cons_lt_cons_iff, ← ih]
    simp only [Bool.or_eq_true, Bool.and_eq_true, decide_eq_true_eq, beq_iff_eq]
def S1 (s : ByteArray) : List Value := [.string s]
def jz (a b : ByteArray) : Prop := a.toList < b.toList
def sLe (a b : ByteArray) : Prop := ¬ jz b a
instance (a b : ByteArray) : Decidable (jz a b) := inferInstanceAs (Decidable (_ < _))
instance (a b : ByteArray) : Decidable (sLe a b) := inferInstanceAs (Decidable (¬ _))
theorem xu (a : ByteArray) : ¬ jz a a := List.lt_irrefl _
theorem jg {a b c : ByteArray} (h : jz a b) (k : jz b c) : jz a c := List.lt_trans h k
theorem jo {a b : ByteArray} (h : jz a b) : ¬ jz b a := fun k => xu _ (jg h k)
theorem zJ5 {a b : ByteArray} (h : a.toList = b.toList) : a = b := of_decide_eq_true (kI a b ▸ (by rw [h]; simp))
theorem zE3 {a b : ByteArray} (h : ¬ jz a b) (k : ¬ jz b a) : a = b := zJ5 (List.le_antisymm (List.not_lt.1 k) (List.not_lt.1 h))
theorem zJp {a b c : ByteArray} (h : ¬ jz b a) (k : ¬ jz c b) : ¬ jz c a := fun q => by
  by_cases e : jz a b
  · exact k (jg q e)
  · exact k (by rw [← zE3 e h]; exact q)
instance : SO ByteArray := ⟨jz, fun a b => inferInstance, jo, zJp⟩
theorem sLe_iff {a b : ByteArray} : sLe a b ↔ jz a b ∨ a = b :=
  ⟨fun h => (Classical.em (jz a b)).imp id fun k => zE3 k h, fun h => h.elim jo fun e => e ▸ xu _⟩
section
variable {P : Program} {n : Nat} {ops : Array Oper} {N : K} {f : Nat → Value} {rest : List Oper} {d : Nat} {t ty : TypeId} {p : String} {af : Array Edge} {x y : Operand} {A : World → Prop}
variable {s u : ByteArray} {t' : TypeId}
theorem zGk : Op.bytesLess s.toList u.toList = decide (jz s u) := by rw [Bool.eq_iff_iff, zE8, decide_eq_true_eq]; exact Iff.rfl
theorem zLc (hx : ev f x = .string s) (hy : ev f y = .string u) : RV P f ⟨some d, .binOp .geq t x y t', ty, p, af, none⟩ A (.bool (decide (sLe u s))) :=
  fun w _ => by simp only [execOp, hx, hy, eqGuard]; simp [binOp, Op.stringOp, zGk, sLe]; by_cases q : jz s u <;> simp [q]
theorem zLn (hx : ev f x = .string s) (hy : ev f y = .string u) (hd : Nat.blt d n = true) (k : CL P n ops rest N (upd f d (.bool (decide (sLe u s)))) A) : CL P n ops (⟨some d, .binOp .geq t x y t', ty, p, af, none⟩ :: rest) N f A := z5 hd (zLc hx hy) k
end
theorem zCI {α : Type} [Inhabited α] {g : α → List Value} {sz : Nat} (hg : ∀ x, (g x).length = sz) {o : Nat} (ho : o < sz) {u : Value} : ∀ {l : List α} {k : Nat} {a : α}, k < l.length → g a = (g (zH l k)).set o u → (l.set k a).flatMap g = (l.flatMap g).set (k * sz + o) u
  | [], k, a, h, _ => by simp at h
  | b :: l, 0, a, _, hu => by
    have hu : g a = (g b).set o u := hu
    simp only [List.set_cons_zero, List.flatMap_cons, Nat.zero_mul, Nat.zero_add]
    rw [List.set_append_left _ _ (by rw [hg]; exact ho), hu]
  | b :: l, k + 1, a, h, hu => by
    have ih := zCI hg ho (l := l) (k := k) (a := a) (by simpa using h) hu
    simp only [List.set_cons_succ, List.flatMap_cons, ih]
    rw [Nat.add_mul, Nat.one_mul, show k * sz + sz + o = (g b).length + (k * sz + o) by rw [hg]; omega, List.set_append_right _ _ (by omega)]
    congr 2; omega
section
variable {P : Program} {n : Nat} {ops : Array Oper} {N : K} {f : Nat → Value} {rest : List Oper} {d : Nat} {t ty e : TypeId} {p : String} {af : Array Edge} {x y : Operand} {w0 : World} {S : List Nat} {L : List Res}
theorem zJx {α : Type} [Inhabited α] {g : α → List Value} {xs : List α} (k sz j o : Nat) (a : α) {off : Nat} {v u : Value} (hL : L[k]? = some (Res.vec e sz v xs.length (xs.flatMap g))) (hg : ∀ x, (g x).length = sz) (hx : ev f x = .pointer (some ⟨xK v, off, none⟩)) (ho : off = yL v + (j * sz + o)) (hy : ev f y = u) (hu : g a = (g (zH xs j)).set o u) (hc : cell1 u = true) (hj : j < xs.length) (hp : o < sz) (ht : kZ P t = some 1)
    (kk : CL P n ops rest N f (Own w0 S (L.set k (Res.vec e sz v (xs.set j a).length ((xs.set j a).flatMap g))))) : CL P n ops (⟨none, .store t x y, ty, p, af, none⟩ :: rest) N f (Own w0 S L) := by
  refine zJf k (j * sz + o) hx ho hy hL ht hc (by rw [x4 hg]; exact Nat.lt_of_lt_of_le (Nat.add_lt_add_left hp _) (Nat.le_trans (Nat.le_of_eq (by rw [Nat.add_mul, Nat.one_mul])) (Nat.mul_le_mul_right sz (show j + 1 ≤ xs.length by omega)))) ?_
  rw [zCI hg hp hj hu, List.length_set] at kk
  exact kk
end
end Go.Sc
