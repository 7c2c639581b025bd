/-
  LEASES HELD AGAINST EACH OTHER, by their numbers.
-/
import Derived.Test.YthincafbmpialaaGreatQuotaW
set_option linter.unusedVariables false
set_option maxRecDepth 10000
namespace Go.Proofs.YthincafbmpialaaGreat
open Go Go.Sc Go.Proofs

def cmpN (a b : Nat) : Int := if a < b then -1 else if b < a then 1 else 0
def cmpL (x y : LeaD) : Int := cmpN x.id y.id
theorem cmpN_lt {a b : Nat} : cmpN a b < 0 ↔ a < b := by
  unfold cmpN
  by_cases h : a < b
  · rw [if_pos h]; exact ⟨fun _ => h, fun _ => by decide⟩
  · rw [if_neg h]
    refine ⟨fun q => ?_, fun q => absurd q h⟩
    split at q
    · exact absurd q (by decide)
    · exact absurd q (by decide)
instance : SO LeaD := ⟨fun x y => cmpL x y < 0, fun x y => inferInstanceAs (Decidable (cmpL x y < 0)), fun h k => by rw [show cmpL _ _ = cmpN _ _ from rfl, cmpN_lt] at h k; omega, fun h k q => by rw [show cmpL _ _ = cmpN _ _ from rfl, cmpN_lt] at h k q; omega⟩
theorem olt_lea {x y : LeaD} : olt x y ↔ x.id < y.id := cmpN_lt
end Go.Proofs.YthincafbmpialaaGreat
