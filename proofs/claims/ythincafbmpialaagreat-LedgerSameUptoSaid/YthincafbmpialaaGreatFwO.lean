import Derived.Test.YthincafbmpialaaGreatFwR
import Derived.Test.YthincafbmpialaaGreatSrt
set_option linter.unusedSimpArgs false
set_option linter.unusedVariables false
set_option linter.unusedSectionVars false
namespace Go.Sc
theorem zFV : ∀ l m : List UInt8, (Op.bytesLess l m = true) ↔ l < m
  | _, [] => by cases ‹List UInt8› <;> simp [Op.bytesLess]
  | [], _ :: _ => by simp [Op.bytesLess]
  | a :: l, b :: m => by
    have ih := zFV l m
    unfold Op.bytesLess
    rw [List.cons_lt_cons_iff, ← ih]
    simp only [Bool.or_eq_true, Bool.and_eq_true, decide_eq_true_eq, beq_iff_eq]
def S1 (s : ByteArray) : List Value := [.string s]
def jm (a b : ByteArray) : Prop := a.toList < b.toList
def sLe (a b : ByteArray) : Prop := ¬ jm b a
instance (a b : ByteArray) : Decidable (jm a b) := inferInstanceAs (Decidable (_ < _))
instance (a b : ByteArray) : Decidable (sLe a b) := inferInstanceAs (Decidable (¬ _))
theorem xt (a : ByteArray) : ¬ jm a a := List.lt_irrefl _
theorem jE {a b c : ByteArray} (h : jm a b) (k : jm b c) : jm a c := List.lt_trans h k
theorem jH {a b : ByteArray} (h : jm a b) : ¬ jm b a := fun k => xt _ (jE h k)
theorem zKB {a b : ByteArray} (h : a.toList = b.toList) : a = b := of_decide_eq_true (x6 a b ▸ (by rw [h]; simp))
theorem zDd {a b : ByteArray} (h : ¬ jm a b) (k : ¬ jm b a) : a = b := zKB (List.le_antisymm (List.not_lt.1 k) (List.not_lt.1 h))
theorem zKk {a b c : ByteArray} (h : ¬ jm b a) (k : ¬ jm c b) : ¬ jm c a := fun q => by
  by_cases e : jm a b
  · exact k (jE q e)
  · exact k (by rw [← zDd e h]; exact q)
instance : SO ByteArray := ⟨jm, fun a b => inferInstance, jH, zKk⟩
theorem sLe_iff {a b : ByteArray} : sLe a b ↔ jm a b ∨ a = b :=
  ⟨fun h => (Classical.em (jm a b)).imp id fun k => zDd k h, fun h => h.elim jH fun e => e ▸ xt _⟩
section
variable {P : Program} {n : Nat} {ops : Array Oper} {N : K} {f : Nat → Value} {rest : List Oper} {d : Nat} {t ty : TypeId} {p : String} {af : Array Edge} {x y : Operand} {A : World → Prop}
variable {s u : ByteArray} {t' : TypeId}
theorem zIV : Op.bytesLess s.toList u.toList = decide (jm s u) := by rw [Bool.eq_iff_iff, zFV, decide_eq_true_eq]; exact Iff.rfl
theorem zK2 : (Op.bytesLess s.toList u.toList || s.toList == u.toList) = decide (sLe s u) := by
  rw [zIV, Bool.eq_iff_iff]
  simp only [Bool.or_eq_true, decide_eq_true_eq, x6]
  exact sLe_iff.symm
theorem zL4 (hx : ev f x = .string s) (hy : ev f y = .string u) : RV P f ⟨some d, .binOp .leq t x y t', ty, p, af, none⟩ A (.bool (decide (sLe s u))) :=
  fun w _ => by simp only [execOp, hx, hy, eqGuard]; simp [binOp, Op.stringOp, ← zK2]
end
section
variable {P : Program} {n : Nat} {ops : Array Oper} {N : K} {f : Nat → Value} {rest : List Oper} {d : Nat} {t ty e : TypeId} {p : String} {af : Array Edge} {x y : Operand} {w0 : World} {S : List Nat} {L : List Res}
end
end Go.Sc
