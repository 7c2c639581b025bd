import Derived.Test.YtcdiehplbmkmeaaFwR
import Derived.Test.YtcdiehplbmkmeaaSrt
set_option linter.unusedSimpArgs false
set_option linter.unusedVariables false
set_option linter.unusedSectionVars false
namespace Go.Sc
def S1 (s : ByteArray) : List Value := [.string s]
def ju (a b : ByteArray) : Prop := a.toList < b.toList
def sLe (a b : ByteArray) : Prop := ¬ ju b a
instance (a b : ByteArray) : Decidable (ju a b) := inferInstanceAs (Decidable (_ < _))
instance (a b : ByteArray) : Decidable (sLe a b) := inferInstanceAs (Decidable (¬ _))
theorem xd (a : ByteArray) : ¬ ju a a := List.lt_irrefl _
theorem jJ {a b c : ByteArray} (h : ju a b) (k : ju b c) : ju a c := List.lt_trans h k
theorem jR {a b : ByteArray} (h : ju a b) : ¬ ju b a := fun k => xd _ (jJ h k)
theorem zJV {a b : ByteArray} (h : a.toList = b.toList) : a = b := of_decide_eq_true (xv a b ▸ (by rw [h]; simp))
theorem zEU {a b : ByteArray} (h : ¬ ju a b) (k : ¬ ju b a) : a = b := zJV (List.le_antisymm (List.not_lt.1 k) (List.not_lt.1 h))
theorem zJF {a b c : ByteArray} (h : ¬ ju b a) (k : ¬ ju c b) : ¬ ju c a := fun q => by
  by_cases e : ju a b
  · exact k (jJ q e)
  · exact k (by rw [← zEU e h]; exact q)
instance : SO ByteArray := ⟨ju, fun a b => inferInstance, jR, zJF⟩
theorem sLe_iff {a b : ByteArray} : sLe a b ↔ ju a b ∨ a = b :=
  ⟨fun h => (Classical.em (ju a b)).imp id fun k => zEU k h, fun h => h.elim jR fun e => e ▸ xd _⟩
section
variable {P : Program} {n : Nat} {ops : Array Oper} {N : K} {f : Nat → Value} {rest : List Oper} {d : Nat} {t ty : TypeId} {p : String} {af : Array Edge} {x y : Operand} {A : World → Prop}
variable {s u : ByteArray} {t' : TypeId}
end
theorem zCG {α : Type} [Inhabited α] {g : α → List Value} {sz : Nat} (hg : ∀ x, (g x).length = sz) {o : Nat} (ho : o < sz) {u : Value} : ∀ {l : List α} {k : Nat} {a : α}, k < l.length → g a = (g (zG l k)).set o u → (l.set k a).flatMap g = (l.flatMap g).set (k * sz + o) u
  | [], k, a, h, _ => by simp at h
  | b :: l, 0, a, _, hu => by
    have hu : g a = (g b).set o u := hu
    simp only [List.set_cons_zero, List.flatMap_cons, Nat.zero_mul, Nat.zero_add]
    rw [List.set_append_left _ _ (by rw [hg]; exact ho), hu]
  | b :: l, k + 1, a, h, hu => by
    have ih := zCG hg ho (l := l) (k := k) (a := a) (by simpa using h) hu
    simp only [List.set_cons_succ, List.flatMap_cons, ih]
    rw [Nat.add_mul, Nat.one_mul, show k * sz + sz + o = (g b).length + (k * sz + o) by rw [hg]; omega, List.set_append_right _ _ (by omega)]
    congr 2; omega
section
variable {P : Program} {n : Nat} {ops : Array Oper} {N : K} {f : Nat → Value} {rest : List Oper} {d : Nat} {t ty e : TypeId} {p : String} {af : Array Edge} {x y : Operand} {w0 : World} {S : List Nat} {L : List Res}
theorem zFq {α : Type} [Inhabited α] {g : α → List Value} {xs : List α} (k sz j o : Nat) (a : α) {off : Nat} {v u : Value} (hL : L[k]? = some (Res.vec e sz v xs.length (xs.flatMap g))) (hg : ∀ x, (g x).length = sz) (hx : ev f x = .pointer (some ⟨xp v, off, none⟩)) (ho : off = yw v + (j * sz + o)) (hy : ev f y = u) (hu : g a = (g (zG xs j)).set o u) (hc : cell1 u = true) (hj : j < xs.length) (hp : o < sz) (ht : k9 P t = some 1)
    (kk : CL P n ops rest N f (Own w0 S (L.set k (Res.vec e sz v (xs.set j a).length ((xs.set j a).flatMap g))))) : CL P n ops (⟨none, .store t x y, ty, p, af, none⟩ :: rest) N f (Own w0 S L) := by
  refine zIS k (j * sz + o) hx ho hy hL ht hc (by rw [kV hg]; exact Nat.lt_of_lt_of_le (Nat.add_lt_add_left hp _) (Nat.le_trans (Nat.le_of_eq (by rw [Nat.add_mul, Nat.one_mul])) (Nat.mul_le_mul_right sz (show j + 1 ≤ xs.length by omega)))) ?_
  rw [zCG hg hp hj hu, List.length_set] at kk
  exact kk
end
end Go.Sc
