import Derived.Test.YtkkeknmkipkbmaaGreatCodec
import Derived.Test.YtkkeknmkipkbmaaGreatFwB
set_option linter.unusedSectionVars false
set_option linter.unusedSimpArgs false
set_option linter.unusedVariables false
set_option maxRecDepth 10000
namespace Go.Proofs.YtkkeknmkipkbmaaGreat
open Go Go.Sc Go.Proofs
abbrev yA : Nat := 188
def vu (n : Nat) : Value := .int .u64 n
def zw (ns : List Nat) : List UInt8 := ns.flatMap num
theorem yX {ns : List Nat} (h : ∀ n ∈ ns, n < 18446744073709551616) : (zw ns).length ≤ 9 * ns.length := by
  induction ns with
  | nil => simp [zw]
  | cons n ns ih =>
    have h1 := zCk (h n (by simp))
    have h2 := ih (fun m hm => h m (by simp [hm]))
    simp only [zw, List.flatMap_cons, List.length_append, List.length_cons] at h2 ⊢
    omega
end Go.Proofs.YtkkeknmkipkbmaaGreat
set_option linter.unusedVariables false
namespace Go.Sc
section
variable {P : Program} {n : Nat} {ops : Array Oper} {N R : K} {X : List (Nat × K)} {f : Nat → Value} {W : World → Prop} {w w0 : World} {S : List Nat} {L : List Res}
variable {d : Nat} {ty t e : TypeId} {p : String} {af : Array Edge} {fuel sz by' : Nat} {listed : Array Bool} {x y : Operand}
def PK (P : Program) (n : Nat) (ops : Array Oper) (W : World → Prop) (N : K) (fuel : Nat) (listed : Array Bool) (i : Nat) (f : Nat → Value) (w : World) : Prop :=
  ∀ a, Rep n f a → wpOp P ops (yt n N) i (fun a' w' => W w' ∧ wpAnyH P .any ops (yt n N) W fuel (listed.setIfInBounds i true) a' w') a w
theorem zDE {i j : Nat} (hr : Region.ready .any ops listed = [i, j]) (h1 : PK P n ops W N fuel listed i f w) (h2 : PK P n ops W N fuel listed j f w) : HL P n ops W N (fuel + 1) listed f w := by
  intro a ha
  refine wpAnyH_all hr (by simp) fun k hk => ?_
  simp at hk
  rcases hk with rfl | rfl
  · exact h1 a ha
  · exact h2 a ha
end
theorem k7 {α : Type} (g : α → Value) : ∀ l : List α, l.map g = l.flatMap (fun x => [g x])
  | [] => rfl
  | a :: l => by simp [k7 g l]
end Go.Sc
