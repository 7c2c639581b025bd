/-
  No cell of these rows narrows 'for every input' (looked for: loops, veiled, ifaces, maps, wideKeys, modest, calm, conditions, laid).
  DERIVED. THE GIVEN ROWS OF THIS SEAT. 2 by the template 'for every input the law returns true; each argument reads behind the call as it read before'; 0 by the template 'total and deterministic' (their statements: YtcdiehplbmkmeaaTotals.lean).
  GIVEN WITH THE SEED: the statements are not yours to turn. If you find one false, say at which input.
  Laid BY PROGRAM, IN A SANDBOX (cutbox-rows.mjs): the forced cells as the released guide's own fill.sh prints them over the translation d38789a9b718f952… (all of the seat's roots in one cut). By AI agents, Wed Nov 11 2026. No macro, syntax, notation, axiom, sorry.
-/
import Derived.Test.YtcdiehplbmkmeaaChecked
import GoSem.Claim
import GoSem.ClaimJoined
import GoSem.ClaimMapViews
import Derived.JoinedTies
import Derived.KernelRfl
namespace Go.Proofs.Ytcdiehplbmkmeaa
/- THE CELL 'sum', in the pinned program and in every row, IS THE sha256 OF THE DUMP (.gsa) THAT YtcdiehplbmkmeaaProg.lean LOADS. Nothing in Lean hashes anything: it is a label: what it is worth is what the hold of that sum in a sandbox is worth. -/
noncomputable def Try.pinned : Pinned := { name := "ytcdiehplbmkmeaa", sum := "d38789a9b718f9526baab440df69dd7f995e672b5087ac500b028bc29cc32686", checked := Try.checked }
namespace Rows
def none {H : Type} : Left H := { results := [], args := [] }

/-- 'scupperlaw19.LinLater': WHATEVER THE INPUT: true; the input reads as it did. -/
def linLaterSpec : ChangeSpec := { name := "linLater", fn := fun _ => fun
  | [d1, d2, d3] => { results := [.lit (.bool true)], args := [d1, d2, d3] }
  | _ => none }
def linLaterRow : OpenClaim := { program := "ytcdiehplbmkmeaa", sum := "d38789a9b718f9526baab440df69dd7f995e672b5087ac500b028bc29cc32686", func := "scupper/scupperlaw19.LinLater", spec := "linLater", inPlace := ["maps.clone"], unfollowed := true, recurses := true, apart := false }
def LinLaterSaid : Prop := linLaterRow.holds Try.pinned (OpenSpec.ofChange linLaterSpec)

/-- ITS FALSE NEIGHBOUR: 'it returns false'. Refute it at one input. -/
def linLaterWrong : ChangeSpec := { name := "linLater", fn := fun _ => fun
  | [d1, d2, d3] => { results := [.lit (.bool false)], args := [d1, d2, d3] }
  | _ => none }
def LinLaterWrongFalsely : Prop := linLaterRow.holds Try.pinned (OpenSpec.ofChange linLaterWrong)

/-- 'scupperlaw19.LinCuts': WHATEVER THE INPUT: true; the input reads as it did. -/
def linCutsSpec : ChangeSpec := { name := "linCuts", fn := fun _ => fun
  | [d1, d2, d3] => { results := [.lit (.bool true)], args := [d1, d2, d3] }
  | _ => none }
def linCutsRow : OpenClaim := { program := "ytcdiehplbmkmeaa", sum := "d38789a9b718f9526baab440df69dd7f995e672b5087ac500b028bc29cc32686", func := "scupper/scupperlaw19.LinCuts", spec := "linCuts", inPlace := ["maps.clone"], unfollowed := true, recurses := true, apart := false }
def LinCutsSaid : Prop := linCutsRow.holds Try.pinned (OpenSpec.ofChange linCutsSpec)

/-- ITS FALSE NEIGHBOUR: 'it returns false'. Refute it at one input. -/
def linCutsWrong : ChangeSpec := { name := "linCuts", fn := fun _ => fun
  | [d1, d2, d3] => { results := [.lit (.bool false)], args := [d1, d2, d3] }
  | _ => none }
def LinCutsWrongFalsely : Prop := linCutsRow.holds Try.pinned (OpenSpec.ofChange linCutsWrong)

/- THE SECOND FORM. 'bulk': how many values and letters a reading holds, each counted each time it is reached (what is shared counts as often as it is met; a slice's spare places count too). A statement '..UptoSaid' is the law's where the arguments, and the package variables that the reading takes, are together of bulk at most 1048576: NARROWER than '..Said'. Prove '..Said' where nothing that the law and all that it calls make is longer than what came in: it says more and counts as full. Else prove '..UptoSaid'. A law counts once. -/
mutual
def uptoBulk {H : Type} : DataW H → Nat
  | .lit (.string bytes) => bytes.length + 1
  | .lit _ => 1
  | .nil => 1
  | .ptr d => uptoBulk d + 1
  | .slice elems spare => uptoBulkAll elems + uptoBulkAll spare + 1
  | .agg parts => uptoBulkAll parts + 1
  | .iface _ d => uptoBulk d + 1
  | .map entries => uptoBulkEntries entries + 1
  | .held _ => 1
def uptoBulkAll {H : Type} : List (DataW H) → Nat
  | [] => 0
  | d :: r => uptoBulk d + uptoBulkAll r
def uptoBulkEntries {H : Type} : List (Lit × DataW H) → Nat
  | [] => 0
  | x :: r => uptoBulkEntry x + uptoBulkEntries r
def uptoBulkEntry {H : Type} : Lit × DataW H → Nat
  | (.string bytes, d) => bytes.length + uptoBulk d + 1
  | (_, d) => uptoBulk d + 1
 end
def uptoSmall : (H : Type) → List (DataW H) → Bool := fun _ ds => decide (uptoBulkAll ds ≤ 1048576)
def OpenSpec.upto (s : _root_.Go.ChangeSpec) : _root_.Go.OpenSpec := { _root_.Go.OpenSpec.ofChange s with cond := some uptoSmall }

/-- 'scupperlaw19.LinLater', WHERE WHAT IT READS IS OF BULK AT MOST 1048576: true; the input reads as it did. -/
def linLaterUptoRow : OpenClaim := { program := "ytcdiehplbmkmeaa", sum := "d38789a9b718f9526baab440df69dd7f995e672b5087ac500b028bc29cc32686", func := "scupper/scupperlaw19.LinLater", spec := "linLater", inPlace := ["maps.clone"], unfollowed := true, recurses := true, apart := false, narrowed := true }
def LinLaterUptoSaid : Prop := linLaterUptoRow.holds Try.pinned (OpenSpec.upto linLaterSpec)

/-- 'scupperlaw19.LinCuts', WHERE WHAT IT READS IS OF BULK AT MOST 1048576: true; the input reads as it did. -/
def linCutsUptoRow : OpenClaim := { program := "ytcdiehplbmkmeaa", sum := "d38789a9b718f9526baab440df69dd7f995e672b5087ac500b028bc29cc32686", func := "scupper/scupperlaw19.LinCuts", spec := "linCuts", inPlace := ["maps.clone"], unfollowed := true, recurses := true, apart := false, narrowed := true }
def LinCutsUptoSaid : Prop := linCutsUptoRow.holds Try.pinned (OpenSpec.upto linCutsSpec)

end Rows
end Go.Proofs.Ytcdiehplbmkmeaa
