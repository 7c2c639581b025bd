/-
  No cell of these rows narrows 'for every input' (looked for: loops, veiled, ifaces, maps, wideKeys, modest, calm, conditions, laid).
  DERIVED. THE GIVEN ROWS OF THIS SEAT. 6 by the template 'for every input the law returns true; each argument reads behind the call as it read before'; 0 by the template 'total and deterministic' (their statements: YtniiobmkcbeknaaTotals.lean).
  GIVEN WITH THE SEED: the statements are not yours to turn. If you find one false, say at which input.
  Laid BY PROGRAM, IN A SANDBOX (cutbox-rows.mjs): the forced cells as the released guide's own fill.sh prints them over the translation 020e3efcf15d312b… (all of the seat's roots in one cut). By AI agents, Wed Nov 11 2026. No macro, syntax, notation, axiom, sorry.
-/
import Derived.Test.YtniiobmkcbeknaaChecked
import GoSem.Claim
import GoSem.ClaimJoined
import GoSem.ClaimMapViews
import Derived.JoinedTies
import Derived.KernelRfl
namespace Go.Proofs.Ytniiobmkcbeknaa
/- THE CELL 'sum', in the pinned program and in every row, IS THE sha256 OF THE DUMP (.gsa) THAT YtniiobmkcbeknaaProg.lean LOADS. Nothing in Lean hashes anything: it is a label: what it is worth is what the hold of that sum in a sandbox is worth. -/
noncomputable def Try.pinned : Pinned := { name := "ytniiobmkcbeknaa", sum := "020e3efcf15d312bf029294af07981031556360bc21ef4283c57326b9f46b028", checked := Try.checked }
namespace Rows
def none {H : Type} : Left H := { results := [], args := [] }

/-- 'scupperlaw10.ConfTells': WHATEVER THE INPUT: true; the input reads as it did. -/
def confTellsSpec : ChangeSpec := { name := "confTells", fn := fun _ => fun
  | [d1, d2, d3] => { results := [.lit (.bool true)], args := [d1, d2, d3] }
  | _ => none }
def confTellsRow : OpenClaim := { program := "ytniiobmkcbeknaa", sum := "020e3efcf15d312bf029294af07981031556360bc21ef4283c57326b9f46b028", func := "scupper/scupperlaw10.ConfTells", spec := "confTells", unfollowed := true, recurses := true, apart := false }
def ConfTellsSaid : Prop := confTellsRow.holds Try.pinned (OpenSpec.ofChange confTellsSpec)

/-- ITS FALSE NEIGHBOUR: 'it returns false'. Refute it at one input. -/
def confTellsWrong : ChangeSpec := { name := "confTells", fn := fun _ => fun
  | [d1, d2, d3] => { results := [.lit (.bool false)], args := [d1, d2, d3] }
  | _ => none }
def ConfTellsWrongFalsely : Prop := confTellsRow.holds Try.pinned (OpenSpec.ofChange confTellsWrong)

/-- 'scupperlaw10.ConfReached': WHATEVER THE INPUT: true; the input reads as it did. -/
def confReachedSpec : ChangeSpec := { name := "confReached", fn := fun _ => fun
  | [d1, d2] => { results := [.lit (.bool true)], args := [d1, d2] }
  | _ => none }
def confReachedRow : OpenClaim := { program := "ytniiobmkcbeknaa", sum := "020e3efcf15d312bf029294af07981031556360bc21ef4283c57326b9f46b028", func := "scupper/scupperlaw10.ConfReached", spec := "confReached", unfollowed := true, recurses := true, apart := false }
def ConfReachedSaid : Prop := confReachedRow.holds Try.pinned (OpenSpec.ofChange confReachedSpec)

/-- ITS FALSE NEIGHBOUR: 'it returns false'. Refute it at one input. -/
def confReachedWrong : ChangeSpec := { name := "confReached", fn := fun _ => fun
  | [d1, d2] => { results := [.lit (.bool false)], args := [d1, d2] }
  | _ => none }
def ConfReachedWrongFalsely : Prop := confReachedRow.holds Try.pinned (OpenSpec.ofChange confReachedWrong)

/-- 'scupperlaw10.ConfChanges': WHATEVER THE INPUT: true; the input reads as it did. -/
def confChangesSpec : ChangeSpec := { name := "confChanges", fn := fun _ => fun
  | [d1, d2] => { results := [.lit (.bool true)], args := [d1, d2] }
  | _ => none }
def confChangesRow : OpenClaim := { program := "ytniiobmkcbeknaa", sum := "020e3efcf15d312bf029294af07981031556360bc21ef4283c57326b9f46b028", func := "scupper/scupperlaw10.ConfChanges", spec := "confChanges", unfollowed := true, recurses := true, apart := false }
def ConfChangesSaid : Prop := confChangesRow.holds Try.pinned (OpenSpec.ofChange confChangesSpec)

/-- ITS FALSE NEIGHBOUR: 'it returns false'. Refute it at one input. -/
def confChangesWrong : ChangeSpec := { name := "confChanges", fn := fun _ => fun
  | [d1, d2] => { results := [.lit (.bool false)], args := [d1, d2] }
  | _ => none }
def ConfChangesWrongFalsely : Prop := confChangesRow.holds Try.pinned (OpenSpec.ofChange confChangesWrong)

/-- 'scupperlaw10.ConfMeets': WHATEVER THE INPUT: true; the input reads as it did. -/
def confMeetsSpec : ChangeSpec := { name := "confMeets", fn := fun _ => fun
  | [d1, d2, d3, d4, d5] => { results := [.lit (.bool true)], args := [d1, d2, d3, d4, d5] }
  | _ => none }
def confMeetsRow : OpenClaim := { program := "ytniiobmkcbeknaa", sum := "020e3efcf15d312bf029294af07981031556360bc21ef4283c57326b9f46b028", func := "scupper/scupperlaw10.ConfMeets", spec := "confMeets", unfollowed := true, recurses := true, apart := false }
def ConfMeetsSaid : Prop := confMeetsRow.holds Try.pinned (OpenSpec.ofChange confMeetsSpec)

/-- ITS FALSE NEIGHBOUR: 'it returns false'. Refute it at one input. -/
def confMeetsWrong : ChangeSpec := { name := "confMeets", fn := fun _ => fun
  | [d1, d2, d3, d4, d5] => { results := [.lit (.bool false)], args := [d1, d2, d3, d4, d5] }
  | _ => none }
def ConfMeetsWrongFalsely : Prop := confMeetsRow.holds Try.pinned (OpenSpec.ofChange confMeetsWrong)

/-- 'scupperlaw10.ConfBack': WHATEVER THE INPUT: true; the input reads as it did. -/
def confBackSpec : ChangeSpec := { name := "confBack", fn := fun _ => fun
  | [d1, d2] => { results := [.lit (.bool true)], args := [d1, d2] }
  | _ => none }
def confBackRow : OpenClaim := { program := "ytniiobmkcbeknaa", sum := "020e3efcf15d312bf029294af07981031556360bc21ef4283c57326b9f46b028", func := "scupper/scupperlaw10.ConfBack", spec := "confBack", unfollowed := true, recurses := true, apart := false }
def ConfBackSaid : Prop := confBackRow.holds Try.pinned (OpenSpec.ofChange confBackSpec)

/-- ITS FALSE NEIGHBOUR: 'it returns false'. Refute it at one input. -/
def confBackWrong : ChangeSpec := { name := "confBack", fn := fun _ => fun
  | [d1, d2] => { results := [.lit (.bool false)], args := [d1, d2] }
  | _ => none }
def ConfBackWrongFalsely : Prop := confBackRow.holds Try.pinned (OpenSpec.ofChange confBackWrong)

/-- 'scupperlaw10.ConfPath': WHATEVER THE INPUT: true; the input reads as it did. -/
def confPathSpec : ChangeSpec := { name := "confPath", fn := fun _ => fun
  | [d1, d2, d3] => { results := [.lit (.bool true)], args := [d1, d2, d3] }
  | _ => none }
def confPathRow : OpenClaim := { program := "ytniiobmkcbeknaa", sum := "020e3efcf15d312bf029294af07981031556360bc21ef4283c57326b9f46b028", func := "scupper/scupperlaw10.ConfPath", spec := "confPath", unfollowed := true, recurses := true, apart := false }
def ConfPathSaid : Prop := confPathRow.holds Try.pinned (OpenSpec.ofChange confPathSpec)

/-- ITS FALSE NEIGHBOUR: 'it returns false'. Refute it at one input. -/
def confPathWrong : ChangeSpec := { name := "confPath", fn := fun _ => fun
  | [d1, d2, d3] => { results := [.lit (.bool false)], args := [d1, d2, d3] }
  | _ => none }
def ConfPathWrongFalsely : Prop := confPathRow.holds Try.pinned (OpenSpec.ofChange confPathWrong)

/- THE SECOND FORM. 'bulk': how many values and letters a reading holds, each counted each time it is reached (what is shared counts as often as it is met; a slice's spare places count too). A statement '..UptoSaid' is the law's where the arguments, and the package variables that the reading takes, are together of bulk at most 1048576: NARROWER than '..Said'. Prove '..Said' where nothing that the law and all that it calls make is longer than what came in: it says more and counts as full. Else prove '..UptoSaid'. A law counts once. -/
mutual
def uptoBulk {H : Type} : DataW H → Nat
  | .lit (.string bytes) => bytes.length + 1
  | .lit _ => 1
  | .nil => 1
  | .ptr d => uptoBulk d + 1
  | .slice elems spare => uptoBulkAll elems + uptoBulkAll spare + 1
  | .agg parts => uptoBulkAll parts + 1
  | .iface _ d => uptoBulk d + 1
  | .map entries => uptoBulkEntries entries + 1
  | .held _ => 1
def uptoBulkAll {H : Type} : List (DataW H) → Nat
  | [] => 0
  | d :: r => uptoBulk d + uptoBulkAll r
def uptoBulkEntries {H : Type} : List (Lit × DataW H) → Nat
  | [] => 0
  | x :: r => uptoBulkEntry x + uptoBulkEntries r
def uptoBulkEntry {H : Type} : Lit × DataW H → Nat
  | (.string bytes, d) => bytes.length + uptoBulk d + 1
  | (_, d) => uptoBulk d + 1
 end
def uptoSmall : (H : Type) → List (DataW H) → Bool := fun _ ds => decide (uptoBulkAll ds ≤ 1048576)
def OpenSpec.upto (s : _root_.Go.ChangeSpec) : _root_.Go.OpenSpec := { _root_.Go.OpenSpec.ofChange s with cond := some uptoSmall }

/-- 'scupperlaw10.ConfTells', WHERE WHAT IT READS IS OF BULK AT MOST 1048576: true; the input reads as it did. -/
def confTellsUptoRow : OpenClaim := { program := "ytniiobmkcbeknaa", sum := "020e3efcf15d312bf029294af07981031556360bc21ef4283c57326b9f46b028", func := "scupper/scupperlaw10.ConfTells", spec := "confTells", unfollowed := true, recurses := true, apart := false, narrowed := true }
def ConfTellsUptoSaid : Prop := confTellsUptoRow.holds Try.pinned (OpenSpec.upto confTellsSpec)

/-- 'scupperlaw10.ConfReached', WHERE WHAT IT READS IS OF BULK AT MOST 1048576: true; the input reads as it did. -/
def confReachedUptoRow : OpenClaim := { program := "ytniiobmkcbeknaa", sum := "020e3efcf15d312bf029294af07981031556360bc21ef4283c57326b9f46b028", func := "scupper/scupperlaw10.ConfReached", spec := "confReached", unfollowed := true, recurses := true, apart := false, narrowed := true }
def ConfReachedUptoSaid : Prop := confReachedUptoRow.holds Try.pinned (OpenSpec.upto confReachedSpec)

/-- 'scupperlaw10.ConfChanges', WHERE WHAT IT READS IS OF BULK AT MOST 1048576: true; the input reads as it did. -/
def confChangesUptoRow : OpenClaim := { program := "ytniiobmkcbeknaa", sum := "020e3efcf15d312bf029294af07981031556360bc21ef4283c57326b9f46b028", func := "scupper/scupperlaw10.ConfChanges", spec := "confChanges", unfollowed := true, recurses := true, apart := false, narrowed := true }
def ConfChangesUptoSaid : Prop := confChangesUptoRow.holds Try.pinned (OpenSpec.upto confChangesSpec)

/-- 'scupperlaw10.ConfMeets', WHERE WHAT IT READS IS OF BULK AT MOST 1048576: true; the input reads as it did. -/
def confMeetsUptoRow : OpenClaim := { program := "ytniiobmkcbeknaa", sum := "020e3efcf15d312bf029294af07981031556360bc21ef4283c57326b9f46b028", func := "scupper/scupperlaw10.ConfMeets", spec := "confMeets", unfollowed := true, recurses := true, apart := false, narrowed := true }
def ConfMeetsUptoSaid : Prop := confMeetsUptoRow.holds Try.pinned (OpenSpec.upto confMeetsSpec)

/-- 'scupperlaw10.ConfBack', WHERE WHAT IT READS IS OF BULK AT MOST 1048576: true; the input reads as it did. -/
def confBackUptoRow : OpenClaim := { program := "ytniiobmkcbeknaa", sum := "020e3efcf15d312bf029294af07981031556360bc21ef4283c57326b9f46b028", func := "scupper/scupperlaw10.ConfBack", spec := "confBack", unfollowed := true, recurses := true, apart := false, narrowed := true }
def ConfBackUptoSaid : Prop := confBackUptoRow.holds Try.pinned (OpenSpec.upto confBackSpec)

/-- 'scupperlaw10.ConfPath', WHERE WHAT IT READS IS OF BULK AT MOST 1048576: true; the input reads as it did. -/
def confPathUptoRow : OpenClaim := { program := "ytniiobmkcbeknaa", sum := "020e3efcf15d312bf029294af07981031556360bc21ef4283c57326b9f46b028", func := "scupper/scupperlaw10.ConfPath", spec := "confPath", unfollowed := true, recurses := true, apart := false, narrowed := true }
def ConfPathUptoSaid : Prop := confPathUptoRow.holds Try.pinned (OpenSpec.upto confPathSpec)

end Rows
end Go.Proofs.Ytniiobmkcbeknaa
