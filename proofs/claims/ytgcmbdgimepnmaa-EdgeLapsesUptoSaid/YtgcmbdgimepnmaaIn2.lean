/-
  THE WALKS OF the readers of lists: data, ids; and the reference's readers.
-/
import Derived.Test.YtgcmbdgimepnmaaIn
set_option linter.unusedVariables false
set_option maxRecDepth 10000
namespace Go.Proofs.Ytgcmbdgimepnmaa
open Go Go.Sc Go.Proofs

theorem BytesPost.yes {p : Option (List UInt8 × Nat)} {d : List UInt8} {k : Nat} {e : Int} (h : BytesPost p d k e) (he : e = 0) : p = some (d, k) := by
  rcases h with h | h
  · exact h.2
  · exact absurd he h.1
theorem BytesPost.no {p : Option (List UInt8 × Nat)} {d : List UInt8} {k : Nat} {e : Int} (h : BytesPost p d k e) (he : e ≠ 0) : p = none := by
  rcases h with h | h
  · exact absurd h.1 he
  · exact h.2
def pRep {α : Type} (p : List UInt8 → Nat → Option (α × Nat)) : Nat → List UInt8 → Nat → Option (List α × Nat)
  | 0 => pPure []
  | k + 1 => pBind (pRep p k) fun l => pBind p fun x => pPure (l ++ [x])
def pInt (most : Nat) : List UInt8 → Nat → Option (Int × Nat) := pBind (pUpto most) fun n => pPure (n : Int)
def pIds : List UInt8 → Nat → Option (List Int × Nat) := pBind (pUpto 16) fun n => pRep (pInt 16) n

-- no function (*scupper/msg.in).ids

/-! the reference's -/
-- no function scupper/scupperref01.Num

-- no function scupper/scupperref01.Bytes

-- no function (*scupper/scupperref03.In).Num
-- no function (*scupper/scupperref03.In).Int
-- no function (*scupper/scupperref03.In).Data
-- no function (*scupper/scupperref03.In).ids
-- no function (*scupper/scupperref03.In).Whole
end Go.Proofs.Ytgcmbdgimepnmaa
