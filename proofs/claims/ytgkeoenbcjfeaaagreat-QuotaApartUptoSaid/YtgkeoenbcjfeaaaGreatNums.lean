/-
  THE WALK OF (*msg.out).nums: numbers behind what was written.
-/
import Derived.Test.YtgkeoenbcjfeaaaGreatCodec
set_option linter.unusedVariables false
set_option maxRecDepth 10000
namespace Go.Proofs.YtgkeoenbcjfeaaaGreat
open Go Go.Sc Go.Proofs

-- left out: msg.out
def vu (n : Nat) : Value := .int .u64 n
def numsB (ns : List Nat) : List UInt8 := ns.flatMap num
-- left out: (*scupper/msg.out).nums
end Go.Proofs.YtgkeoenbcjfeaaaGreat
