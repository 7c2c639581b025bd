/-
  No cell of these rows narrows 'for every input' (looked for: loops, veiled, ifaces, maps, wideKeys, modest, calm, conditions, laid).
  DERIVED. THE GIVEN ROWS OF THIS SEAT. 6 by the template 'for every input the law returns true; each argument reads behind the call as it read before'; 0 by the template 'total and deterministic' (their statements: YtibbkbgodomfkaaTotals.lean).
  GIVEN WITH THE SEED: the statements are not yours to turn. If you find one false, say at which input.
  Laid BY PROGRAM, IN A SANDBOX (cutbox-rows.mjs): the forced cells as the released guide's own fill.sh prints them over the translation 330a95a8dccba4f2… (all of the seat's roots in one cut). By AI agents, Wed Nov 11 2026. No macro, syntax, notation, axiom, sorry.
-/
import Derived.Test.YtibbkbgodomfkaaChecked
import GoSem.Claim
import GoSem.ClaimJoined
import GoSem.ClaimMapViews
import Derived.JoinedTies
import Derived.KernelRfl
namespace Go.Proofs.Ytibbkbgodomfkaa
/- THE CELL 'sum', in the pinned program and in every row, IS THE sha256 OF THE DUMP (.gsa) THAT YtibbkbgodomfkaaProg.lean LOADS. Nothing in Lean hashes anything: it is a label: what it is worth is what the hold of that sum in a sandbox is worth. -/
noncomputable def Try.pinned : Pinned := { name := "ytibbkbgodomfkaa", sum := "330a95a8dccba4f25d98898de4d0d47756cd2020c6d4b67957516fec5f31b449", checked := Try.checked }
namespace Rows
def none {H : Type} : Left H := { results := [], args := [] }

/-- 'scupperlaw11.RlogFresh': WHATEVER THE INPUT: true; the input reads as it did. -/
def rlogFreshSpec : ChangeSpec := { name := "rlogFresh", fn := fun _ => fun
  | [d1, d2, d3] => { results := [.lit (.bool true)], args := [d1, d2, d3] }
  | _ => none }
def rlogFreshRow : OpenClaim := { program := "ytibbkbgodomfkaa", sum := "330a95a8dccba4f25d98898de4d0d47756cd2020c6d4b67957516fec5f31b449", func := "scupper/scupperlaw11.RlogFresh", spec := "rlogFresh", unfollowed := true, recurses := true, apart := false }
def RlogFreshSaid : Prop := rlogFreshRow.holds Try.pinned (OpenSpec.ofChange rlogFreshSpec)

/-- ITS FALSE NEIGHBOUR: 'it returns false'. Refute it at one input. -/
def rlogFreshWrong : ChangeSpec := { name := "rlogFresh", fn := fun _ => fun
  | [d1, d2, d3] => { results := [.lit (.bool false)], args := [d1, d2, d3] }
  | _ => none }
def RlogFreshWrongFalsely : Prop := rlogFreshRow.holds Try.pinned (OpenSpec.ofChange rlogFreshWrong)

/-- 'scupperlaw11.RlogMatches': WHATEVER THE INPUT: true; the input reads as it did. -/
def rlogMatchesSpec : ChangeSpec := { name := "rlogMatches", fn := fun _ => fun
  | [d1, d2, d3] => { results := [.lit (.bool true)], args := [d1, d2, d3] }
  | _ => none }
def rlogMatchesRow : OpenClaim := { program := "ytibbkbgodomfkaa", sum := "330a95a8dccba4f25d98898de4d0d47756cd2020c6d4b67957516fec5f31b449", func := "scupper/scupperlaw11.RlogMatches", spec := "rlogMatches", unfollowed := true, recurses := true, apart := false }
def RlogMatchesSaid : Prop := rlogMatchesRow.holds Try.pinned (OpenSpec.ofChange rlogMatchesSpec)

/-- ITS FALSE NEIGHBOUR: 'it returns false'. Refute it at one input. -/
def rlogMatchesWrong : ChangeSpec := { name := "rlogMatches", fn := fun _ => fun
  | [d1, d2, d3] => { results := [.lit (.bool false)], args := [d1, d2, d3] }
  | _ => none }
def RlogMatchesWrongFalsely : Prop := rlogMatchesRow.holds Try.pinned (OpenSpec.ofChange rlogMatchesWrong)

/-- 'scupperlaw11.RlogHints': WHATEVER THE INPUT: true; the input reads as it did. -/
def rlogHintsSpec : ChangeSpec := { name := "rlogHints", fn := fun _ => fun
  | [d1, d2, d3, d4, d5] => { results := [.lit (.bool true)], args := [d1, d2, d3, d4, d5] }
  | _ => none }
def rlogHintsRow : OpenClaim := { program := "ytibbkbgodomfkaa", sum := "330a95a8dccba4f25d98898de4d0d47756cd2020c6d4b67957516fec5f31b449", func := "scupper/scupperlaw11.RlogHints", spec := "rlogHints", unfollowed := true, recurses := true, apart := false }
def RlogHintsSaid : Prop := rlogHintsRow.holds Try.pinned (OpenSpec.ofChange rlogHintsSpec)

/-- ITS FALSE NEIGHBOUR: 'it returns false'. Refute it at one input. -/
def rlogHintsWrong : ChangeSpec := { name := "rlogHints", fn := fun _ => fun
  | [d1, d2, d3, d4, d5] => { results := [.lit (.bool false)], args := [d1, d2, d3, d4, d5] }
  | _ => none }
def RlogHintsWrongFalsely : Prop := rlogHintsRow.holds Try.pinned (OpenSpec.ofChange rlogHintsWrong)

/-- 'scupperlaw11.RlogSplits': WHATEVER THE INPUT: true; the input reads as it did. -/
def rlogSplitsSpec : ChangeSpec := { name := "rlogSplits", fn := fun _ => fun
  | [d1, d2, d3, d4, d5] => { results := [.lit (.bool true)], args := [d1, d2, d3, d4, d5] }
  | _ => none }
def rlogSplitsRow : OpenClaim := { program := "ytibbkbgodomfkaa", sum := "330a95a8dccba4f25d98898de4d0d47756cd2020c6d4b67957516fec5f31b449", func := "scupper/scupperlaw11.RlogSplits", spec := "rlogSplits", unfollowed := true, recurses := true, apart := false }
def RlogSplitsSaid : Prop := rlogSplitsRow.holds Try.pinned (OpenSpec.ofChange rlogSplitsSpec)

/-- ITS FALSE NEIGHBOUR: 'it returns false'. Refute it at one input. -/
def rlogSplitsWrong : ChangeSpec := { name := "rlogSplits", fn := fun _ => fun
  | [d1, d2, d3, d4, d5] => { results := [.lit (.bool false)], args := [d1, d2, d3, d4, d5] }
  | _ => none }
def RlogSplitsWrongFalsely : Prop := rlogSplitsRow.holds Try.pinned (OpenSpec.ofChange rlogSplitsWrong)

/-- 'scupperlaw11.RlogActs': WHATEVER THE INPUT: true; the input reads as it did. -/
def rlogActsSpec : ChangeSpec := { name := "rlogActs", fn := fun _ => fun
  | [d1, d2, d3] => { results := [.lit (.bool true)], args := [d1, d2, d3] }
  | _ => none }
def rlogActsRow : OpenClaim := { program := "ytibbkbgodomfkaa", sum := "330a95a8dccba4f25d98898de4d0d47756cd2020c6d4b67957516fec5f31b449", func := "scupper/scupperlaw11.RlogActs", spec := "rlogActs", unfollowed := true, recurses := true, apart := false }
def RlogActsSaid : Prop := rlogActsRow.holds Try.pinned (OpenSpec.ofChange rlogActsSpec)

/-- ITS FALSE NEIGHBOUR: 'it returns false'. Refute it at one input. -/
def rlogActsWrong : ChangeSpec := { name := "rlogActs", fn := fun _ => fun
  | [d1, d2, d3] => { results := [.lit (.bool false)], args := [d1, d2, d3] }
  | _ => none }
def RlogActsWrongFalsely : Prop := rlogActsRow.holds Try.pinned (OpenSpec.ofChange rlogActsWrong)

/-- 'scupperlaw11.RlogApart': WHATEVER THE INPUT: true; the input reads as it did. -/
def rlogApartSpec : ChangeSpec := { name := "rlogApart", fn := fun _ => fun
  | [d1, d2] => { results := [.lit (.bool true)], args := [d1, d2] }
  | _ => none }
def rlogApartRow : OpenClaim := { program := "ytibbkbgodomfkaa", sum := "330a95a8dccba4f25d98898de4d0d47756cd2020c6d4b67957516fec5f31b449", func := "scupper/scupperlaw11.RlogApart", spec := "rlogApart", unfollowed := true, recurses := true, apart := false }
def RlogApartSaid : Prop := rlogApartRow.holds Try.pinned (OpenSpec.ofChange rlogApartSpec)

/-- ITS FALSE NEIGHBOUR: 'it returns false'. Refute it at one input. -/
def rlogApartWrong : ChangeSpec := { name := "rlogApart", fn := fun _ => fun
  | [d1, d2] => { results := [.lit (.bool false)], args := [d1, d2] }
  | _ => none }
def RlogApartWrongFalsely : Prop := rlogApartRow.holds Try.pinned (OpenSpec.ofChange rlogApartWrong)

/- THE SECOND FORM. 'bulk': how many values and letters a reading holds, each counted each time it is reached (what is shared counts as often as it is met; a slice's spare places count too). A statement '..UptoSaid' is the law's where the arguments, and the package variables that the reading takes, are together of bulk at most 1048576: NARROWER than '..Said'. Prove '..Said' where nothing that the law and all that it calls make is longer than what came in: it says more and counts as full. Else prove '..UptoSaid'. A law counts once. -/
mutual
def uptoBulk {H : Type} : DataW H → Nat
  | .lit (.string bytes) => bytes.length + 1
  | .lit _ => 1
  | .nil => 1
  | .ptr d => uptoBulk d + 1
  | .slice elems spare => uptoBulkAll elems + uptoBulkAll spare + 1
  | .agg parts => uptoBulkAll parts + 1
  | .iface _ d => uptoBulk d + 1
  | .map entries => uptoBulkEntries entries + 1
  | .held _ => 1
def uptoBulkAll {H : Type} : List (DataW H) → Nat
  | [] => 0
  | d :: r => uptoBulk d + uptoBulkAll r
def uptoBulkEntries {H : Type} : List (Lit × DataW H) → Nat
  | [] => 0
  | x :: r => uptoBulkEntry x + uptoBulkEntries r
def uptoBulkEntry {H : Type} : Lit × DataW H → Nat
  | (.string bytes, d) => bytes.length + uptoBulk d + 1
  | (_, d) => uptoBulk d + 1
 end
def uptoSmall : (H : Type) → List (DataW H) → Bool := fun _ ds => decide (uptoBulkAll ds ≤ 1048576)
def OpenSpec.upto (s : _root_.Go.ChangeSpec) : _root_.Go.OpenSpec := { _root_.Go.OpenSpec.ofChange s with cond := some uptoSmall }

/-- 'scupperlaw11.RlogFresh', WHERE WHAT IT READS IS OF BULK AT MOST 1048576: true; the input reads as it did. -/
def rlogFreshUptoRow : OpenClaim := { program := "ytibbkbgodomfkaa", sum := "330a95a8dccba4f25d98898de4d0d47756cd2020c6d4b67957516fec5f31b449", func := "scupper/scupperlaw11.RlogFresh", spec := "rlogFresh", unfollowed := true, recurses := true, apart := false, narrowed := true }
def RlogFreshUptoSaid : Prop := rlogFreshUptoRow.holds Try.pinned (OpenSpec.upto rlogFreshSpec)

/-- 'scupperlaw11.RlogMatches', WHERE WHAT IT READS IS OF BULK AT MOST 1048576: true; the input reads as it did. -/
def rlogMatchesUptoRow : OpenClaim := { program := "ytibbkbgodomfkaa", sum := "330a95a8dccba4f25d98898de4d0d47756cd2020c6d4b67957516fec5f31b449", func := "scupper/scupperlaw11.RlogMatches", spec := "rlogMatches", unfollowed := true, recurses := true, apart := false, narrowed := true }
def RlogMatchesUptoSaid : Prop := rlogMatchesUptoRow.holds Try.pinned (OpenSpec.upto rlogMatchesSpec)

/-- 'scupperlaw11.RlogHints', WHERE WHAT IT READS IS OF BULK AT MOST 1048576: true; the input reads as it did. -/
def rlogHintsUptoRow : OpenClaim := { program := "ytibbkbgodomfkaa", sum := "330a95a8dccba4f25d98898de4d0d47756cd2020c6d4b67957516fec5f31b449", func := "scupper/scupperlaw11.RlogHints", spec := "rlogHints", unfollowed := true, recurses := true, apart := false, narrowed := true }
def RlogHintsUptoSaid : Prop := rlogHintsUptoRow.holds Try.pinned (OpenSpec.upto rlogHintsSpec)

/-- 'scupperlaw11.RlogSplits', WHERE WHAT IT READS IS OF BULK AT MOST 1048576: true; the input reads as it did. -/
def rlogSplitsUptoRow : OpenClaim := { program := "ytibbkbgodomfkaa", sum := "330a95a8dccba4f25d98898de4d0d47756cd2020c6d4b67957516fec5f31b449", func := "scupper/scupperlaw11.RlogSplits", spec := "rlogSplits", unfollowed := true, recurses := true, apart := false, narrowed := true }
def RlogSplitsUptoSaid : Prop := rlogSplitsUptoRow.holds Try.pinned (OpenSpec.upto rlogSplitsSpec)

/-- 'scupperlaw11.RlogActs', WHERE WHAT IT READS IS OF BULK AT MOST 1048576: true; the input reads as it did. -/
def rlogActsUptoRow : OpenClaim := { program := "ytibbkbgodomfkaa", sum := "330a95a8dccba4f25d98898de4d0d47756cd2020c6d4b67957516fec5f31b449", func := "scupper/scupperlaw11.RlogActs", spec := "rlogActs", unfollowed := true, recurses := true, apart := false, narrowed := true }
def RlogActsUptoSaid : Prop := rlogActsUptoRow.holds Try.pinned (OpenSpec.upto rlogActsSpec)

/-- 'scupperlaw11.RlogApart', WHERE WHAT IT READS IS OF BULK AT MOST 1048576: true; the input reads as it did. -/
def rlogApartUptoRow : OpenClaim := { program := "ytibbkbgodomfkaa", sum := "330a95a8dccba4f25d98898de4d0d47756cd2020c6d4b67957516fec5f31b449", func := "scupper/scupperlaw11.RlogApart", spec := "rlogApart", unfollowed := true, recurses := true, apart := false, narrowed := true }
def RlogApartUptoSaid : Prop := rlogApartUptoRow.holds Try.pinned (OpenSpec.upto rlogApartSpec)

end Rows
end Go.Proofs.Ytibbkbgodomfkaa
