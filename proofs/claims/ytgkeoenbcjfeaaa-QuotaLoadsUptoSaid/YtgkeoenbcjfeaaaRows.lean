/-
  No cell of these rows narrows 'for every input' (looked for: loops, veiled, ifaces, maps, wideKeys, modest, calm, conditions, laid).
  DERIVED. THE GIVEN ROWS OF THIS SEAT. 5 by the template 'for every input the law returns true; each argument reads behind the call as it read before'; 0 by the template 'total and deterministic' (their statements: YtgkeoenbcjfeaaaTotals.lean).
  GIVEN WITH THE SEED: the statements are not yours to turn. If you find one false, say at which input.
  Laid BY PROGRAM, IN A SANDBOX (cutbox-rows.mjs): the forced cells as the released guide's own fill.sh prints them over the translation 8d0ebae3703857a9… (all of the seat's roots in one cut). By AI agents, Wed Nov 11 2026. No macro, syntax, notation, axiom, sorry.
-/
import Derived.Test.YtgkeoenbcjfeaaaChecked
import GoSem.Claim
import GoSem.ClaimJoined
import GoSem.ClaimMapViews
import Derived.JoinedTies
import Derived.KernelRfl
namespace Go.Proofs.Ytgkeoenbcjfeaaa
/- THE CELL 'sum', in the pinned program and in every row, IS THE sha256 OF THE DUMP (.gsa) THAT YtgkeoenbcjfeaaaProg.lean LOADS. Nothing in Lean hashes anything: it is a label: what it is worth is what the hold of that sum in a sandbox is worth. -/
noncomputable def Try.pinned : Pinned := { name := "ytgkeoenbcjfeaaa", sum := "8d0ebae3703857a989274237459b626f313d439e2c4055176ed2c32d90267bb2", checked := Try.checked }
namespace Rows
def none {H : Type} : Left H := { results := [], args := [] }

/-- 'scupperlaw13.QuotaNever': WHATEVER THE INPUT: true; the input reads as it did. -/
def quotaNeverSpec : ChangeSpec := { name := "quotaNever", fn := fun _ => fun
  | [d1, d2] => { results := [.lit (.bool true)], args := [d1, d2] }
  | _ => none }
def quotaNeverRow : OpenClaim := { program := "ytgkeoenbcjfeaaa", sum := "8d0ebae3703857a989274237459b626f313d439e2c4055176ed2c32d90267bb2", func := "scupper/scupperlaw13.QuotaNever", spec := "quotaNever", recurses := true, apart := false }
def QuotaNeverSaid : Prop := quotaNeverRow.holds Try.pinned (OpenSpec.ofChange quotaNeverSpec)

/-- ITS FALSE NEIGHBOUR: 'it returns false'. Refute it at one input. -/
def quotaNeverWrong : ChangeSpec := { name := "quotaNever", fn := fun _ => fun
  | [d1, d2] => { results := [.lit (.bool false)], args := [d1, d2] }
  | _ => none }
def QuotaNeverWrongFalsely : Prop := quotaNeverRow.holds Try.pinned (OpenSpec.ofChange quotaNeverWrong)

/-- 'scupperlaw13.QuotaBack': WHATEVER THE INPUT: true; the input reads as it did. -/
def quotaBackSpec : ChangeSpec := { name := "quotaBack", fn := fun _ => fun
  | [d1, d2, d3, d4, d5, d6] => { results := [.lit (.bool true)], args := [d1, d2, d3, d4, d5, d6] }
  | _ => none }
def quotaBackRow : OpenClaim := { program := "ytgkeoenbcjfeaaa", sum := "8d0ebae3703857a989274237459b626f313d439e2c4055176ed2c32d90267bb2", func := "scupper/scupperlaw13.QuotaBack", spec := "quotaBack", recurses := true, apart := false }
def QuotaBackSaid : Prop := quotaBackRow.holds Try.pinned (OpenSpec.ofChange quotaBackSpec)

/-- ITS FALSE NEIGHBOUR: 'it returns false'. Refute it at one input. -/
def quotaBackWrong : ChangeSpec := { name := "quotaBack", fn := fun _ => fun
  | [d1, d2, d3, d4, d5, d6] => { results := [.lit (.bool false)], args := [d1, d2, d3, d4, d5, d6] }
  | _ => none }
def QuotaBackWrongFalsely : Prop := quotaBackRow.holds Try.pinned (OpenSpec.ofChange quotaBackWrong)

/-- 'scupperlaw13.QuotaEnds': WHATEVER THE INPUT: true; the input reads as it did. -/
def quotaEndsSpec : ChangeSpec := { name := "quotaEnds", fn := fun _ => fun
  | [d1, d2, d3, d4, d5] => { results := [.lit (.bool true)], args := [d1, d2, d3, d4, d5] }
  | _ => none }
def quotaEndsRow : OpenClaim := { program := "ytgkeoenbcjfeaaa", sum := "8d0ebae3703857a989274237459b626f313d439e2c4055176ed2c32d90267bb2", func := "scupper/scupperlaw13.QuotaEnds", spec := "quotaEnds", recurses := true, apart := false }
def QuotaEndsSaid : Prop := quotaEndsRow.holds Try.pinned (OpenSpec.ofChange quotaEndsSpec)

/-- ITS FALSE NEIGHBOUR: 'it returns false'. Refute it at one input. -/
def quotaEndsWrong : ChangeSpec := { name := "quotaEnds", fn := fun _ => fun
  | [d1, d2, d3, d4, d5] => { results := [.lit (.bool false)], args := [d1, d2, d3, d4, d5] }
  | _ => none }
def QuotaEndsWrongFalsely : Prop := quotaEndsRow.holds Try.pinned (OpenSpec.ofChange quotaEndsWrong)

/-- 'scupperlaw13.QuotaTime': WHATEVER THE INPUT: true; the input reads as it did. -/
def quotaTimeSpec : ChangeSpec := { name := "quotaTime", fn := fun _ => fun
  | [d1, d2, d3] => { results := [.lit (.bool true)], args := [d1, d2, d3] }
  | _ => none }
def quotaTimeRow : OpenClaim := { program := "ytgkeoenbcjfeaaa", sum := "8d0ebae3703857a989274237459b626f313d439e2c4055176ed2c32d90267bb2", func := "scupper/scupperlaw13.QuotaTime", spec := "quotaTime", inPlace := ["maps.clone"], unfollowed := true, recurses := true, apart := false }
def QuotaTimeSaid : Prop := quotaTimeRow.holds Try.pinned (OpenSpec.ofChange quotaTimeSpec)

/-- ITS FALSE NEIGHBOUR: 'it returns false'. Refute it at one input. -/
def quotaTimeWrong : ChangeSpec := { name := "quotaTime", fn := fun _ => fun
  | [d1, d2, d3] => { results := [.lit (.bool false)], args := [d1, d2, d3] }
  | _ => none }
def QuotaTimeWrongFalsely : Prop := quotaTimeRow.holds Try.pinned (OpenSpec.ofChange quotaTimeWrong)

/-- 'scupperlaw13.QuotaLoads': WHATEVER THE INPUT: true; the input reads as it did. -/
def quotaLoadsSpec : ChangeSpec := { name := "quotaLoads", fn := fun _ => fun
  | [d1, d2, d3, d4, d5] => { results := [.lit (.bool true)], args := [d1, d2, d3, d4, d5] }
  | _ => none }
def quotaLoadsRow : OpenClaim := { program := "ytgkeoenbcjfeaaa", sum := "8d0ebae3703857a989274237459b626f313d439e2c4055176ed2c32d90267bb2", func := "scupper/scupperlaw13.QuotaLoads", spec := "quotaLoads", unfollowed := true, recurses := true, apart := false }
def QuotaLoadsSaid : Prop := quotaLoadsRow.holds Try.pinned (OpenSpec.ofChange quotaLoadsSpec)

/-- ITS FALSE NEIGHBOUR: 'it returns false'. Refute it at one input. -/
def quotaLoadsWrong : ChangeSpec := { name := "quotaLoads", fn := fun _ => fun
  | [d1, d2, d3, d4, d5] => { results := [.lit (.bool false)], args := [d1, d2, d3, d4, d5] }
  | _ => none }
def QuotaLoadsWrongFalsely : Prop := quotaLoadsRow.holds Try.pinned (OpenSpec.ofChange quotaLoadsWrong)

/- THE SECOND FORM. 'bulk': how many values and letters a reading holds, each counted each time it is reached (what is shared counts as often as it is met; a slice's spare places count too). A statement '..UptoSaid' is the law's where the arguments, and the package variables that the reading takes, are together of bulk at most 1048576: NARROWER than '..Said'. Prove '..Said' where nothing that the law and all that it calls make is longer than what came in: it says more and counts as full. Else prove '..UptoSaid'. A law counts once. -/
mutual
def uptoBulk {H : Type} : DataW H → Nat
  | .lit (.string bytes) => bytes.length + 1
  | .lit _ => 1
  | .nil => 1
  | .ptr d => uptoBulk d + 1
  | .slice elems spare => uptoBulkAll elems + uptoBulkAll spare + 1
  | .agg parts => uptoBulkAll parts + 1
  | .iface _ d => uptoBulk d + 1
  | .map entries => uptoBulkEntries entries + 1
  | .held _ => 1
def uptoBulkAll {H : Type} : List (DataW H) → Nat
  | [] => 0
  | d :: r => uptoBulk d + uptoBulkAll r
def uptoBulkEntries {H : Type} : List (Lit × DataW H) → Nat
  | [] => 0
  | x :: r => uptoBulkEntry x + uptoBulkEntries r
def uptoBulkEntry {H : Type} : Lit × DataW H → Nat
  | (.string bytes, d) => bytes.length + uptoBulk d + 1
  | (_, d) => uptoBulk d + 1
 end
def uptoSmall : (H : Type) → List (DataW H) → Bool := fun _ ds => decide (uptoBulkAll ds ≤ 1048576)
def OpenSpec.upto (s : _root_.Go.ChangeSpec) : _root_.Go.OpenSpec := { _root_.Go.OpenSpec.ofChange s with cond := some uptoSmall }

/-- 'scupperlaw13.QuotaNever', WHERE WHAT IT READS IS OF BULK AT MOST 1048576: true; the input reads as it did. -/
def quotaNeverUptoRow : OpenClaim := { program := "ytgkeoenbcjfeaaa", sum := "8d0ebae3703857a989274237459b626f313d439e2c4055176ed2c32d90267bb2", func := "scupper/scupperlaw13.QuotaNever", spec := "quotaNever", recurses := true, apart := false, narrowed := true }
def QuotaNeverUptoSaid : Prop := quotaNeverUptoRow.holds Try.pinned (OpenSpec.upto quotaNeverSpec)

/-- 'scupperlaw13.QuotaBack', WHERE WHAT IT READS IS OF BULK AT MOST 1048576: true; the input reads as it did. -/
def quotaBackUptoRow : OpenClaim := { program := "ytgkeoenbcjfeaaa", sum := "8d0ebae3703857a989274237459b626f313d439e2c4055176ed2c32d90267bb2", func := "scupper/scupperlaw13.QuotaBack", spec := "quotaBack", recurses := true, apart := false, narrowed := true }
def QuotaBackUptoSaid : Prop := quotaBackUptoRow.holds Try.pinned (OpenSpec.upto quotaBackSpec)

/-- 'scupperlaw13.QuotaEnds', WHERE WHAT IT READS IS OF BULK AT MOST 1048576: true; the input reads as it did. -/
def quotaEndsUptoRow : OpenClaim := { program := "ytgkeoenbcjfeaaa", sum := "8d0ebae3703857a989274237459b626f313d439e2c4055176ed2c32d90267bb2", func := "scupper/scupperlaw13.QuotaEnds", spec := "quotaEnds", recurses := true, apart := false, narrowed := true }
def QuotaEndsUptoSaid : Prop := quotaEndsUptoRow.holds Try.pinned (OpenSpec.upto quotaEndsSpec)

/-- 'scupperlaw13.QuotaTime', WHERE WHAT IT READS IS OF BULK AT MOST 1048576: true; the input reads as it did. -/
def quotaTimeUptoRow : OpenClaim := { program := "ytgkeoenbcjfeaaa", sum := "8d0ebae3703857a989274237459b626f313d439e2c4055176ed2c32d90267bb2", func := "scupper/scupperlaw13.QuotaTime", spec := "quotaTime", inPlace := ["maps.clone"], unfollowed := true, recurses := true, apart := false, narrowed := true }
def QuotaTimeUptoSaid : Prop := quotaTimeUptoRow.holds Try.pinned (OpenSpec.upto quotaTimeSpec)

/-- 'scupperlaw13.QuotaLoads', WHERE WHAT IT READS IS OF BULK AT MOST 1048576: true; the input reads as it did. -/
def quotaLoadsUptoRow : OpenClaim := { program := "ytgkeoenbcjfeaaa", sum := "8d0ebae3703857a989274237459b626f313d439e2c4055176ed2c32d90267bb2", func := "scupper/scupperlaw13.QuotaLoads", spec := "quotaLoads", unfollowed := true, recurses := true, apart := false, narrowed := true }
def QuotaLoadsUptoSaid : Prop := quotaLoadsUptoRow.holds Try.pinned (OpenSpec.upto quotaLoadsSpec)

end Rows
end Go.Proofs.Ytgkeoenbcjfeaaa
