/-
  No cell of these rows narrows 'for every input' (looked for: loops, veiled, ifaces, maps, wideKeys, modest, calm, conditions, laid).
  DERIVED. THE GIVEN ROWS OF THIS SEAT. 4 by the template 'for every input the law returns true; each argument reads behind the call as it read before'; 0 by the template 'total and deterministic' (their statements: YtcdiehplbmkmeaaGreatTotals.lean).
  GIVEN WITH THE SEED: the statements are not yours to turn. If you find one false, say at which input.
  Laid BY PROGRAM, IN A SANDBOX (cutbox-rows.mjs): the forced cells as the released guide's own fill.sh prints them over the translation fece55d379b12680… (all of the seat's roots in one cut). By AI agents, Wed Nov 11 2026. No macro, syntax, notation, axiom, sorry.
-/
import Derived.Test.YtcdiehplbmkmeaaGreatChecked
import GoSem.Claim
import GoSem.ClaimJoined
import GoSem.ClaimMapViews
import Derived.JoinedTies
import Derived.KernelRfl
namespace Go.Proofs.YtcdiehplbmkmeaaGreat
/- THE CELL 'sum', in the pinned program and in every row, IS THE sha256 OF THE DUMP (.gsa) THAT YtcdiehplbmkmeaaGreatProg.lean LOADS. Nothing in Lean hashes anything: it is a label: what it is worth is what the hold of that sum in a sandbox is worth. -/
noncomputable def Tryz.pinned : Pinned := { name := "ytcdiehplbmkmeaagreat", sum := "fece55d379b1268049922c47f2f7b7fa49bda19896cc76abe39fa1c4c68608c5", checked := Tryz.checked }
namespace Rows
def none {H : Type} : Left H := { results := [], args := [] }

/-- 'scupperlaw19.LinSearches': WHATEVER THE INPUT: true; the input reads as it did. -/
def linSearchesSpec : ChangeSpec := { name := "linSearches", fn := fun _ => fun
  | [d] => { results := [.lit (.bool true)], args := [d] }
  | _ => none }
def linSearchesRow : OpenClaim := { program := "ytcdiehplbmkmeaagreat", sum := "fece55d379b1268049922c47f2f7b7fa49bda19896cc76abe39fa1c4c68608c5", func := "scupper/scupperlaw19.LinSearches", spec := "linSearches", inPlace := ["maps.clone"], unfollowed := true, recurses := true, apart := false }
def LinSearchesSaid : Prop := linSearchesRow.holds Tryz.pinned (OpenSpec.ofChange linSearchesSpec)

/-- ITS FALSE NEIGHBOUR: 'it returns false'. Refute it at one input. -/
def linSearchesWrong : ChangeSpec := { name := "linSearches", fn := fun _ => fun
  | [d] => { results := [.lit (.bool false)], args := [d] }
  | _ => none }
def LinSearchesWrongFalsely : Prop := linSearchesRow.holds Tryz.pinned (OpenSpec.ofChange linSearchesWrong)

/-- 'scupperlaw19.LinFalse': WHATEVER THE INPUT: true; the input reads as it did. -/
def linFalseSpec : ChangeSpec := { name := "linFalse", fn := fun _ => fun
  | [d1, d2, d3] => { results := [.lit (.bool true)], args := [d1, d2, d3] }
  | _ => none }
def linFalseRow : OpenClaim := { program := "ytcdiehplbmkmeaagreat", sum := "fece55d379b1268049922c47f2f7b7fa49bda19896cc76abe39fa1c4c68608c5", func := "scupper/scupperlaw19.LinFalse", spec := "linFalse", inPlace := ["maps.clone"], unfollowed := true, recurses := true, apart := false }
def LinFalseSaid : Prop := linFalseRow.holds Tryz.pinned (OpenSpec.ofChange linFalseSpec)

/-- ITS FALSE NEIGHBOUR: 'it returns false'. Refute it at one input. -/
def linFalseWrong : ChangeSpec := { name := "linFalse", fn := fun _ => fun
  | [d1, d2, d3] => { results := [.lit (.bool false)], args := [d1, d2, d3] }
  | _ => none }
def LinFalseWrongFalsely : Prop := linFalseRow.holds Tryz.pinned (OpenSpec.ofChange linFalseWrong)

/-- 'scupperlaw19.LinChecks': WHATEVER THE INPUT: true; the input reads as it did. -/
def linChecksSpec : ChangeSpec := { name := "linChecks", fn := fun _ => fun
  | [d1, d2] => { results := [.lit (.bool true)], args := [d1, d2] }
  | _ => none }
def linChecksRow : OpenClaim := { program := "ytcdiehplbmkmeaagreat", sum := "fece55d379b1268049922c47f2f7b7fa49bda19896cc76abe39fa1c4c68608c5", func := "scupper/scupperlaw19.LinChecks", spec := "linChecks", inPlace := ["maps.clone"], unfollowed := true, recurses := true, apart := false }
def LinChecksSaid : Prop := linChecksRow.holds Tryz.pinned (OpenSpec.ofChange linChecksSpec)

/-- ITS FALSE NEIGHBOUR: 'it returns false'. Refute it at one input. -/
def linChecksWrong : ChangeSpec := { name := "linChecks", fn := fun _ => fun
  | [d1, d2] => { results := [.lit (.bool false)], args := [d1, d2] }
  | _ => none }
def LinChecksWrongFalsely : Prop := linChecksRow.holds Tryz.pinned (OpenSpec.ofChange linChecksWrong)

/-- 'scupperlaw19.LinTrue': WHATEVER THE INPUT: true; the input reads as it did. -/
def linTrueSpec : ChangeSpec := { name := "linTrue", fn := fun _ => fun
  | [d1, d2] => { results := [.lit (.bool true)], args := [d1, d2] }
  | _ => none }
def linTrueRow : OpenClaim := { program := "ytcdiehplbmkmeaagreat", sum := "fece55d379b1268049922c47f2f7b7fa49bda19896cc76abe39fa1c4c68608c5", func := "scupper/scupperlaw19.LinTrue", spec := "linTrue", inPlace := ["maps.clone"], unfollowed := true, recurses := true, apart := false }
def LinTrueSaid : Prop := linTrueRow.holds Tryz.pinned (OpenSpec.ofChange linTrueSpec)

/-- ITS FALSE NEIGHBOUR: 'it returns false'. Refute it at one input. -/
def linTrueWrong : ChangeSpec := { name := "linTrue", fn := fun _ => fun
  | [d1, d2] => { results := [.lit (.bool false)], args := [d1, d2] }
  | _ => none }
def LinTrueWrongFalsely : Prop := linTrueRow.holds Tryz.pinned (OpenSpec.ofChange linTrueWrong)

/- THE SECOND FORM. 'bulk': how many values and letters a reading holds, each counted each time it is reached (what is shared counts as often as it is met; a slice's spare places count too). A statement '..UptoSaid' is the law's where the arguments, and the package variables that the reading takes, are together of bulk at most 1048576: NARROWER than '..Said'. Prove '..Said' where nothing that the law and all that it calls make is longer than what came in: it says more and counts as full. Else prove '..UptoSaid'. A law counts once. -/
mutual
def uptoBulk {H : Type} : DataW H → Nat
  | .lit (.string bytes) => bytes.length + 1
  | .lit _ => 1
  | .nil => 1
  | .ptr d => uptoBulk d + 1
  | .slice elems spare => uptoBulkAll elems + uptoBulkAll spare + 1
  | .agg parts => uptoBulkAll parts + 1
  | .iface _ d => uptoBulk d + 1
  | .map entries => uptoBulkEntries entries + 1
  | .held _ => 1
def uptoBulkAll {H : Type} : List (DataW H) → Nat
  | [] => 0
  | d :: r => uptoBulk d + uptoBulkAll r
def uptoBulkEntries {H : Type} : List (Lit × DataW H) → Nat
  | [] => 0
  | x :: r => uptoBulkEntry x + uptoBulkEntries r
def uptoBulkEntry {H : Type} : Lit × DataW H → Nat
  | (.string bytes, d) => bytes.length + uptoBulk d + 1
  | (_, d) => uptoBulk d + 1
 end
def uptoSmall : (H : Type) → List (DataW H) → Bool := fun _ ds => decide (uptoBulkAll ds ≤ 1048576)
def OpenSpec.upto (s : _root_.Go.ChangeSpec) : _root_.Go.OpenSpec := { _root_.Go.OpenSpec.ofChange s with cond := some uptoSmall }

/-- 'scupperlaw19.LinSearches', WHERE WHAT IT READS IS OF BULK AT MOST 1048576: true; the input reads as it did. -/
def linSearchesUptoRow : OpenClaim := { program := "ytcdiehplbmkmeaagreat", sum := "fece55d379b1268049922c47f2f7b7fa49bda19896cc76abe39fa1c4c68608c5", func := "scupper/scupperlaw19.LinSearches", spec := "linSearches", inPlace := ["maps.clone"], unfollowed := true, recurses := true, apart := false, narrowed := true }
def LinSearchesUptoSaid : Prop := linSearchesUptoRow.holds Tryz.pinned (OpenSpec.upto linSearchesSpec)

/-- 'scupperlaw19.LinFalse', WHERE WHAT IT READS IS OF BULK AT MOST 1048576: true; the input reads as it did. -/
def linFalseUptoRow : OpenClaim := { program := "ytcdiehplbmkmeaagreat", sum := "fece55d379b1268049922c47f2f7b7fa49bda19896cc76abe39fa1c4c68608c5", func := "scupper/scupperlaw19.LinFalse", spec := "linFalse", inPlace := ["maps.clone"], unfollowed := true, recurses := true, apart := false, narrowed := true }
def LinFalseUptoSaid : Prop := linFalseUptoRow.holds Tryz.pinned (OpenSpec.upto linFalseSpec)

/-- 'scupperlaw19.LinChecks', WHERE WHAT IT READS IS OF BULK AT MOST 1048576: true; the input reads as it did. -/
def linChecksUptoRow : OpenClaim := { program := "ytcdiehplbmkmeaagreat", sum := "fece55d379b1268049922c47f2f7b7fa49bda19896cc76abe39fa1c4c68608c5", func := "scupper/scupperlaw19.LinChecks", spec := "linChecks", inPlace := ["maps.clone"], unfollowed := true, recurses := true, apart := false, narrowed := true }
def LinChecksUptoSaid : Prop := linChecksUptoRow.holds Tryz.pinned (OpenSpec.upto linChecksSpec)

/-- 'scupperlaw19.LinTrue', WHERE WHAT IT READS IS OF BULK AT MOST 1048576: true; the input reads as it did. -/
def linTrueUptoRow : OpenClaim := { program := "ytcdiehplbmkmeaagreat", sum := "fece55d379b1268049922c47f2f7b7fa49bda19896cc76abe39fa1c4c68608c5", func := "scupper/scupperlaw19.LinTrue", spec := "linTrue", inPlace := ["maps.clone"], unfollowed := true, recurses := true, apart := false, narrowed := true }
def LinTrueUptoSaid : Prop := linTrueUptoRow.holds Tryz.pinned (OpenSpec.upto linTrueSpec)

end Rows
end Go.Proofs.YtcdiehplbmkmeaaGreat
