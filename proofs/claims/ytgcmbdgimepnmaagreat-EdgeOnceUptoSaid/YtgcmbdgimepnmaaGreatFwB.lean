/-
  MORE ON WHAT IS OWNED: a wider frame; something old that is taken in.
-/
import Derived.Test.YtgcmbdgimepnmaaGreatFwE
import Derived.Test.YtgcmbdgimepnmaaGreatFwQ
set_option linter.unusedVariables false
namespace Go.Sc
def isI (a : Int) : Prop := -9223372036854775808 ≤ a ∧ a ≤ 9223372036854775807
def isU (n : Nat) : Prop := n < 18446744073709551616
/-- A whole number as 64 bits. -/
def u64 (a : Int) : Nat := (a % 18446744073709551616).toNat
theorem u64_lt (a : Int) : u64 a < 18446744073709551616 := by unfold u64; omega
theorem wrap_u64 (a : Int) : IntKind.u64.wrap a = (u64 a : Int) := by
  unfold IntKind.wrap u64
  simp [IntKind.bits, IntKind.signed]
  omega

section
variable {w0 w : World} {S S' : List Nat} {L : List Res}
end
section
variable {P : Program} {n : Nat} {ops : Array Oper} {N R : K} {X : List (Nat × K)} {f : Nat → Value} {W : World → Prop} {w w0 : World} {S : List Nat} {L : List Res}
variable {d : Nat} {ty t : TypeId} {p : String} {af : Array Edge} {fuel : Nat} {listed : Array Bool} {x y : Operand}
end
end Go.Sc
