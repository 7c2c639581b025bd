/-
  THE ORDER OF STRINGS.
-/
import Derived.Test.YtgcmbdgimepnmaaFwR
import Derived.Test.YtgcmbdgimepnmaaSrt
set_option linter.unusedVariables false
set_option linter.unusedSectionVars false
namespace Go.Sc

def S1 (s : ByteArray) : List Value := [.string s]
def sLt (a b : ByteArray) : Prop := a.toList < b.toList
def sLe (a b : ByteArray) : Prop := ¬ sLt b a
instance (a b : ByteArray) : Decidable (sLt a b) := inferInstanceAs (Decidable (_ < _))
instance (a b : ByteArray) : Decidable (sLe a b) := inferInstanceAs (Decidable (¬ _))
theorem sLt_irrefl (a : ByteArray) : ¬ sLt a a := List.lt_irrefl _
theorem sLt_trans {a b c : ByteArray} (h : sLt a b) (k : sLt b c) : sLt a c := List.lt_trans h k
theorem sLt_asymm {a b : ByteArray} (h : sLt a b) : ¬ sLt b a := fun k => sLt_irrefl _ (sLt_trans h k)
theorem sEq_of {a b : ByteArray} (h : a.toList = b.toList) : a = b := of_decide_eq_true (list_beq_dec a b ▸ (by rw [h]; simp))
theorem sLt_tri {a b : ByteArray} (h : ¬ sLt a b) (k : ¬ sLt b a) : a = b := sEq_of (List.le_antisymm (List.not_lt.1 k) (List.not_lt.1 h))
theorem sLe_tr {a b c : ByteArray} (h : ¬ sLt b a) (k : ¬ sLt c b) : ¬ sLt c a := fun q => by
  by_cases e : sLt a b
  · exact k (sLt_trans q e)
  · exact k (by rw [← sLt_tri e h]; exact q)
instance : SO ByteArray := ⟨sLt, fun a b => inferInstance, sLt_asymm, sLe_tr⟩
theorem sLe_iff {a b : ByteArray} : sLe a b ↔ sLt a b ∨ a = b :=
  ⟨fun h => (Classical.em (sLt a b)).imp id fun k => sLt_tri k h, fun h => h.elim sLt_asymm fun e => e ▸ sLt_irrefl _⟩

section
variable {P : Program} {n : Nat} {ops : Array Oper} {N : K} {f : Nat → Value} {rest : List Oper} {d : Nat} {t ty : TypeId} {p : String} {af : Array Edge} {x y : Operand} {A : World → Prop}
variable {s u : ByteArray} {t' : TypeId}
end
section
variable {P : Program} {n : Nat} {ops : Array Oper} {N : K} {f : Nat → Value} {rest : List Oper} {d : Nat} {t ty e : TypeId} {p : String} {af : Array Edge} {x y : Operand} {w0 : World} {S : List Nat} {L : List Res}
end
end Go.Sc
