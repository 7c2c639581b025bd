/-
  REGIONS THAT DRAW THEIR ORDER AND ONLY READ: one walk, in the order of the text; '&&' and '||' in them.
-/
import Derived.Test.YtgkeoenbcjfeaaaGreatFwM
set_option linter.unusedVariables false
set_option linter.unusedSectionVars false
namespace Go.Sc

section
variable {P : Program} {n : Nat} {ops : Array Oper} {N R : K} {X : List (Nat × K)} {f : Nat → Value} {A : World → Prop} {rest : List Oper}
variable {d : Nat} {ty : TypeId} {p : String} {af : Array Edge}

/-- The operations are gone through in a world that none of them turns. -/
def QL (P : Program) (n : Nat) (ops : Array Oper) (l : List Oper) (N : K) (f : Nat → Value) (A : World → Prop) : Prop := ∀ w, A w → SL P n ops w (fun g => N g w) l f

theorem c_quiet {w0 : World} {S : List Nat} {L : List Res} {id : Nat} {l : List Oper} (hm : P.follows .mixedOrders = true) (hB : Region.lexB .any l.toArray = true) (h : QL P n l.toArray l N f (Own w0 S L)) : C P n (.region id l.toArray true) N R X f (Own w0 S L) :=
  fun w hw => W_region_still hm hB (h _ hw.drawn)
theorem c_quiets {w0 : World} {S : List Nat} {L : List Res} {id : Nat} {l : List Oper} {y : Code} (hm : P.follows .mixedOrders = true) (hB : Region.lexB .any l.toArray = true) (h : QL P n l.toArray l (fun f w => W P n y N R X f w) f (Own w0 S L)) : C P n (.seq (.region id l.toArray true) y) N R X f (Own w0 S L) :=
  c_seq (c_quiet hm hB h)

theorem q_end {c : Code} {M : K} (h : C P n c M R X f A) : QL P n ops [] (fun f w => W P n c M R X f w) f A := fun w hw => SL_nil (h w hw)
theorem q_val {op : Op} {v : Value} (hd : Nat.blt d n = true) (hv : RV P f ⟨some d, op, ty, p, af, none⟩ A v) (k : QL P n ops rest N (upd f d v) A) : QL P n ops (⟨some d, op, ty, p, af, none⟩ :: rest) N f A :=
  fun w hw => SL_val (hv w hw) hd (k w hw)
variable {e t : Nat} {l : List Oper}

end
end Go.Sc
