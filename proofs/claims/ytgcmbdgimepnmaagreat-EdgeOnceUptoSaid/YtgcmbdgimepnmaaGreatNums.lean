/-
  THE WALK OF (*msg.out).nums: numbers behind what was written.
-/
import Derived.Test.YtgcmbdgimepnmaaGreatCodec
set_option linter.unusedVariables false
set_option maxRecDepth 10000
namespace Go.Proofs.YtgcmbdgimepnmaaGreat
open Go Go.Sc Go.Proofs

abbrev TOut : Nat := 147
def vu (n : Nat) : Value := .int .u64 n
def numsB (ns : List Nat) : List UInt8 := ns.flatMap num
theorem numsB_length {ns : List Nat} (h : ∀ n ∈ ns, n < 18446744073709551616) : (numsB ns).length ≤ 9 * ns.length := by
  induction ns with
  | nil => simp [numsB]
  | cons n ns ih =>
    have h1 := num_le (h n (by simp))
    have h2 := ih (fun m hm => h m (by simp [hm]))
    simp only [numsB, List.flatMap_cons, List.length_append, List.length_cons] at h2 ⊢
    omega

end Go.Proofs.YtgcmbdgimepnmaaGreat
