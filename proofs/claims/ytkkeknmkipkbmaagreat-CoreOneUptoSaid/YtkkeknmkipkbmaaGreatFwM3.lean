import Derived.Test.YtkkeknmkipkbmaaGreatFwX
set_option linter.unusedSectionVars false
set_option linter.unusedSimpArgs false
set_option linter.unusedVariables false
namespace Go.Sc
open Go
section
variable {P : Program} {n : Nat} {ops : Array Oper} {N : K} {f : Nat → Value} {A : World → Prop} {rest : List Oper} {d : Nat} {ty : TypeId} {p : String} {af : Array Edge} {x y z : Operand}
def zCS (a b c : Int) : Int := if c > (if b > a then b else a) then c else (if b > a then b else a)
def zCX (a b c : Int) : Int := if c < (if b < a then b else a) then c else (if b < a then b else a)
theorem zE8 (a b c : Int) : zCS a b c = max (max a b) c := by unfold zCS; split <;> split at * <;> omega
theorem zFP (a b c : Int) : zCX a b c = min (min a b) c := by unfold zCX; split <;> split at * <;> omega
theorem zEi {k k' k2 : IntKind} {a b e c : Int} {ats : Array TypeId} (hx : ev f x = .int k a) (hy : ev f y = .int k' b) (hz : ev f z = .int k2 e) (hc : zCS a b e = c) : RV P f ⟨some d, .call ⟨.builtin .max, #[x, y, z], ats⟩, ty, p, af, none⟩ A (.int k c) := by
  intro w _
  subst hc
  by_cases h : b > a <;> simp [execOp, resolve, invoke, builtin, hx, hy, hz, Builtin.max_, Builtin.max2, zCS, h]
theorem zER {k k' k2 : IntKind} {a b e c : Int} {ats : Array TypeId} (hx : ev f x = .int k a) (hy : ev f y = .int k' b) (hz : ev f z = .int k2 e) (hc : zCX a b e = c) : RV P f ⟨some d, .call ⟨.builtin .min, #[x, y, z], ats⟩, ty, p, af, none⟩ A (.int k c) := by
  intro w _
  subst hc
  by_cases h : b < a <;> simp [execOp, resolve, invoke, builtin, hx, hy, hz, Builtin.min_, Builtin.min2, zCX, h]
theorem zEl {k k' k2 : IntKind} {a b e c : Int} {ats : Array TypeId} (hx : ev f x = .int k a) (hy : ev f y = .int k' b) (hz : ev f z = .int k2 e) (hc : zCS a b e = c) (hd : Nat.blt d n = true) (kk : CL P n ops rest N (upd f d (.int k c)) A) : CL P n ops (⟨some d, .call ⟨.builtin .max, #[x, y, z], ats⟩, ty, p, af, none⟩ :: rest) N f A := zp hd (zEi hx hy hz hc) kk
theorem zEV {k k' k2 : IntKind} {a b e c : Int} {ats : Array TypeId} (hx : ev f x = .int k a) (hy : ev f y = .int k' b) (hz : ev f z = .int k2 e) (hc : zCX a b e = c) (hd : Nat.blt d n = true) (kk : CL P n ops rest N (upd f d (.int k c)) A) : CL P n ops (⟨some d, .call ⟨.builtin .min, #[x, y, z], ats⟩, ty, p, af, none⟩ :: rest) N f A := zp hd (zER hx hy hz hc) kk
end
end Go.Sc
