import Derived.Test.YtcdiehplbmkmeaaFwB
set_option linter.unusedSectionVars false
set_option linter.unusedSimpArgs false
set_option linter.unusedVariables false
namespace Go.Sc
section
variable {P : Program} {n : Nat} {ops : Array Oper} {N R : K} {X : List (Nat × K)} {f : Nat → Value} {W : World → Prop} {w w0 : World} {S : List Nat} {L : List Res}
variable {d : Nat} {ty t e : TypeId} {p : String} {af : Array Edge} {fuel sz by' : Nat} {listed : Array Bool} {x y : Operand}
def PK (P : Program) (n : Nat) (ops : Array Oper) (W : World → Prop) (N : K) (fuel : Nat) (listed : Array Bool) (i : Nat) (f : Nat → Value) (w : World) : Prop :=
  ∀ a, Rep n f a → wpOp P ops (kR n N) i (fun a' w' => W w' ∧ wpAnyH P .any ops (kR n N) W fuel (listed.setIfInBounds i true) a' w') a w
theorem kF {i j : Nat} (hr : Region.ready .any ops listed = [i, j]) (h1 : PK P n ops W N fuel listed i f w) (h2 : PK P n ops W N fuel listed j f w) : HL P n ops W N (fuel + 1) listed f w := by
  intro a ha
  refine wpAnyH_all hr (by simp) fun k hk => ?_
  simp at hk
  rcases hk with rfl | rfl
  · exact h1 a ha
  · exact h2 a ha
end
end Go.Sc
