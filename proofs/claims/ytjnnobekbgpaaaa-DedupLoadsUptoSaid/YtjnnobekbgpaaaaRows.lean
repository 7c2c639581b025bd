/-
  No cell of these rows narrows 'for every input' (looked for: loops, veiled, ifaces, maps, wideKeys, modest, calm, conditions, laid).
  DERIVED. THE GIVEN ROWS OF THIS SEAT. 4 by the template 'for every input the law returns true; each argument reads behind the call as it read before'; 0 by the template 'total and deterministic' (their statements: YtjnnobekbgpaaaaTotals.lean).
  GIVEN WITH THE SEED: the statements are not yours to turn. If you find one false, say at which input.
  Laid BY PROGRAM, IN A SANDBOX (cutbox-rows.mjs): the forced cells as the released guide's own fill.sh prints them over the translation cb4d49bc36e5d400… (all of the seat's roots in one cut). By AI agents, Wed Nov 11 2026. No macro, syntax, notation, axiom, sorry.
-/
import Derived.Test.YtjnnobekbgpaaaaChecked
import GoSem.Claim
import GoSem.ClaimJoined
import GoSem.ClaimMapViews
import Derived.JoinedTies
import Derived.KernelRfl
namespace Go.Proofs.Ytjnnobekbgpaaaa
/- THE CELL 'sum', in the pinned program and in every row, IS THE sha256 OF THE DUMP (.gsa) THAT YtjnnobekbgpaaaaProg.lean LOADS. Nothing in Lean hashes anything: it is a label: what it is worth is what the hold of that sum in a sandbox is worth. -/
noncomputable def Try.pinned : Pinned := { name := "ytjnnobekbgpaaaa", sum := "cb4d49bc36e5d400455488a48b554b327d99050afaab3a18005b0143212efcce", checked := Try.checked }
namespace Rows
def none {H : Type} : Left H := { results := [], args := [] }

/-- 'scupperlaw14.DedupOnce': WHATEVER THE INPUT: true; the input reads as it did. -/
def dedupOnceSpec : ChangeSpec := { name := "dedupOnce", fn := fun _ => fun
  | [d1, d2, d3, d4] => { results := [.lit (.bool true)], args := [d1, d2, d3, d4] }
  | _ => none }
def dedupOnceRow : OpenClaim := { program := "ytjnnobekbgpaaaa", sum := "cb4d49bc36e5d400455488a48b554b327d99050afaab3a18005b0143212efcce", func := "scupper/scupperlaw14.DedupOnce", spec := "dedupOnce", unfollowed := true, recurses := true, apart := false }
def DedupOnceSaid : Prop := dedupOnceRow.holds Try.pinned (OpenSpec.ofChange dedupOnceSpec)

/-- ITS FALSE NEIGHBOUR: 'it returns false'. Refute it at one input. -/
def dedupOnceWrong : ChangeSpec := { name := "dedupOnce", fn := fun _ => fun
  | [d1, d2, d3, d4] => { results := [.lit (.bool false)], args := [d1, d2, d3, d4] }
  | _ => none }
def DedupOnceWrongFalsely : Prop := dedupOnceRow.holds Try.pinned (OpenSpec.ofChange dedupOnceWrong)

/-- 'scupperlaw14.DedupApart': WHATEVER THE INPUT: true; the input reads as it did. -/
def dedupApartSpec : ChangeSpec := { name := "dedupApart", fn := fun _ => fun
  | [d1, d2, d3, d4] => { results := [.lit (.bool true)], args := [d1, d2, d3, d4] }
  | _ => none }
def dedupApartRow : OpenClaim := { program := "ytjnnobekbgpaaaa", sum := "cb4d49bc36e5d400455488a48b554b327d99050afaab3a18005b0143212efcce", func := "scupper/scupperlaw14.DedupApart", spec := "dedupApart", unfollowed := true, recurses := true, apart := false }
def DedupApartSaid : Prop := dedupApartRow.holds Try.pinned (OpenSpec.ofChange dedupApartSpec)

/-- ITS FALSE NEIGHBOUR: 'it returns false'. Refute it at one input. -/
def dedupApartWrong : ChangeSpec := { name := "dedupApart", fn := fun _ => fun
  | [d1, d2, d3, d4] => { results := [.lit (.bool false)], args := [d1, d2, d3, d4] }
  | _ => none }
def DedupApartWrongFalsely : Prop := dedupApartRow.holds Try.pinned (OpenSpec.ofChange dedupApartWrong)

/-- 'scupperlaw14.DedupActs': WHATEVER THE INPUT: true; the input reads as it did. -/
def dedupActsSpec : ChangeSpec := { name := "dedupActs", fn := fun _ => fun
  | [d] => { results := [.lit (.bool true)], args := [d] }
  | _ => none }
def dedupActsRow : OpenClaim := { program := "ytjnnobekbgpaaaa", sum := "cb4d49bc36e5d400455488a48b554b327d99050afaab3a18005b0143212efcce", func := "scupper/scupperlaw14.DedupActs", spec := "dedupActs", inPlace := ["maps.clone"], unfollowed := true, recurses := true, apart := false }
def DedupActsSaid : Prop := dedupActsRow.holds Try.pinned (OpenSpec.ofChange dedupActsSpec)

/-- ITS FALSE NEIGHBOUR: 'it returns false'. Refute it at one input. -/
def dedupActsWrong : ChangeSpec := { name := "dedupActs", fn := fun _ => fun
  | [d] => { results := [.lit (.bool false)], args := [d] }
  | _ => none }
def DedupActsWrongFalsely : Prop := dedupActsRow.holds Try.pinned (OpenSpec.ofChange dedupActsWrong)

/-- 'scupperlaw14.DedupLoads': WHATEVER THE INPUT: true; the input reads as it did. -/
def dedupLoadsSpec : ChangeSpec := { name := "dedupLoads", fn := fun _ => fun
  | [d1, d2] => { results := [.lit (.bool true)], args := [d1, d2] }
  | _ => none }
def dedupLoadsRow : OpenClaim := { program := "ytjnnobekbgpaaaa", sum := "cb4d49bc36e5d400455488a48b554b327d99050afaab3a18005b0143212efcce", func := "scupper/scupperlaw14.DedupLoads", spec := "dedupLoads", inPlace := ["maps.clone"], unfollowed := true, recurses := true, apart := false }
def DedupLoadsSaid : Prop := dedupLoadsRow.holds Try.pinned (OpenSpec.ofChange dedupLoadsSpec)

/-- ITS FALSE NEIGHBOUR: 'it returns false'. Refute it at one input. -/
def dedupLoadsWrong : ChangeSpec := { name := "dedupLoads", fn := fun _ => fun
  | [d1, d2] => { results := [.lit (.bool false)], args := [d1, d2] }
  | _ => none }
def DedupLoadsWrongFalsely : Prop := dedupLoadsRow.holds Try.pinned (OpenSpec.ofChange dedupLoadsWrong)

/- THE SECOND FORM. 'bulk': how many values and letters a reading holds, each counted each time it is reached (what is shared counts as often as it is met; a slice's spare places count too). A statement '..UptoSaid' is the law's where the arguments, and the package variables that the reading takes, are together of bulk at most 1048576: NARROWER than '..Said'. Prove '..Said' where nothing that the law and all that it calls make is longer than what came in: it says more and counts as full. Else prove '..UptoSaid'. A law counts once. -/
mutual
def uptoBulk {H : Type} : DataW H → Nat
  | .lit (.string bytes) => bytes.length + 1
  | .lit _ => 1
  | .nil => 1
  | .ptr d => uptoBulk d + 1
  | .slice elems spare => uptoBulkAll elems + uptoBulkAll spare + 1
  | .agg parts => uptoBulkAll parts + 1
  | .iface _ d => uptoBulk d + 1
  | .map entries => uptoBulkEntries entries + 1
  | .held _ => 1
def uptoBulkAll {H : Type} : List (DataW H) → Nat
  | [] => 0
  | d :: r => uptoBulk d + uptoBulkAll r
def uptoBulkEntries {H : Type} : List (Lit × DataW H) → Nat
  | [] => 0
  | x :: r => uptoBulkEntry x + uptoBulkEntries r
def uptoBulkEntry {H : Type} : Lit × DataW H → Nat
  | (.string bytes, d) => bytes.length + uptoBulk d + 1
  | (_, d) => uptoBulk d + 1
 end
def uptoSmall : (H : Type) → List (DataW H) → Bool := fun _ ds => decide (uptoBulkAll ds ≤ 1048576)
def OpenSpec.upto (s : _root_.Go.ChangeSpec) : _root_.Go.OpenSpec := { _root_.Go.OpenSpec.ofChange s with cond := some uptoSmall }

/-- 'scupperlaw14.DedupOnce', WHERE WHAT IT READS IS OF BULK AT MOST 1048576: true; the input reads as it did. -/
def dedupOnceUptoRow : OpenClaim := { program := "ytjnnobekbgpaaaa", sum := "cb4d49bc36e5d400455488a48b554b327d99050afaab3a18005b0143212efcce", func := "scupper/scupperlaw14.DedupOnce", spec := "dedupOnce", unfollowed := true, recurses := true, apart := false, narrowed := true }
def DedupOnceUptoSaid : Prop := dedupOnceUptoRow.holds Try.pinned (OpenSpec.upto dedupOnceSpec)

/-- 'scupperlaw14.DedupApart', WHERE WHAT IT READS IS OF BULK AT MOST 1048576: true; the input reads as it did. -/
def dedupApartUptoRow : OpenClaim := { program := "ytjnnobekbgpaaaa", sum := "cb4d49bc36e5d400455488a48b554b327d99050afaab3a18005b0143212efcce", func := "scupper/scupperlaw14.DedupApart", spec := "dedupApart", unfollowed := true, recurses := true, apart := false, narrowed := true }
def DedupApartUptoSaid : Prop := dedupApartUptoRow.holds Try.pinned (OpenSpec.upto dedupApartSpec)

/-- 'scupperlaw14.DedupActs', WHERE WHAT IT READS IS OF BULK AT MOST 1048576: true; the input reads as it did. -/
def dedupActsUptoRow : OpenClaim := { program := "ytjnnobekbgpaaaa", sum := "cb4d49bc36e5d400455488a48b554b327d99050afaab3a18005b0143212efcce", func := "scupper/scupperlaw14.DedupActs", spec := "dedupActs", inPlace := ["maps.clone"], unfollowed := true, recurses := true, apart := false, narrowed := true }
def DedupActsUptoSaid : Prop := dedupActsUptoRow.holds Try.pinned (OpenSpec.upto dedupActsSpec)

/-- 'scupperlaw14.DedupLoads', WHERE WHAT IT READS IS OF BULK AT MOST 1048576: true; the input reads as it did. -/
def dedupLoadsUptoRow : OpenClaim := { program := "ytjnnobekbgpaaaa", sum := "cb4d49bc36e5d400455488a48b554b327d99050afaab3a18005b0143212efcce", func := "scupper/scupperlaw14.DedupLoads", spec := "dedupLoads", inPlace := ["maps.clone"], unfollowed := true, recurses := true, apart := false, narrowed := true }
def DedupLoadsUptoSaid : Prop := dedupLoadsUptoRow.holds Try.pinned (OpenSpec.upto dedupLoadsSpec)

end Rows
end Go.Proofs.Ytjnnobekbgpaaaa
