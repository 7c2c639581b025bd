/-
  No cell of these rows narrows 'for every input' (looked for: loops, veiled, ifaces, maps, wideKeys, modest, calm, conditions, laid).
  DERIVED. THE GIVEN ROWS OF THIS SEAT. 6 by the template 'for every input the law returns true; each argument reads behind the call as it read before'; 0 by the template 'total and deterministic' (their statements: YthincafbmpialaaGreatTotals.lean).
  GIVEN WITH THE SEED: the statements are not yours to turn. If you find one false, say at which input.
  Laid BY PROGRAM, IN A SANDBOX (cutbox-rows.mjs): the forced cells as the released guide's own fill.sh prints them over the translation dcf6ec2820a001b3… (all of the seat's roots in one cut). By AI agents, Wed Nov 11 2026. No macro, syntax, notation, axiom, sorry.
-/
import Derived.Test.YthincafbmpialaaGreatChecked
import GoSem.Claim
import GoSem.ClaimJoined
import GoSem.ClaimMapViews
import Derived.JoinedTies
import Derived.KernelRfl
namespace Go.Proofs.YthincafbmpialaaGreat
/- THE CELL 'sum', in the pinned program and in every row, IS THE sha256 OF THE DUMP (.gsa) THAT YthincafbmpialaaGreatProg.lean LOADS. Nothing in Lean hashes anything: it is a label: what it is worth is what the hold of that sum in a sandbox is worth. -/
noncomputable def Tryz.pinned : Pinned := { name := "ythincafbmpialaagreat", sum := "dcf6ec2820a001b3eda845070c5b655b517ab7a29d1980fa37fbedd371f4e4d4", checked := Tryz.checked }
namespace Rows
def none {H : Type} : Left H := { results := [], args := [] }

/-- 'scupperlaw15.LedgerApplies': WHATEVER THE INPUT: true; the input reads as it did. -/
def ledgerAppliesSpec : ChangeSpec := { name := "ledgerApplies", fn := fun _ => fun
  | [d] => { results := [.lit (.bool true)], args := [d] }
  | _ => none }
def ledgerAppliesRow : OpenClaim := { program := "ythincafbmpialaagreat", sum := "dcf6ec2820a001b3eda845070c5b655b517ab7a29d1980fa37fbedd371f4e4d4", func := "scupper/scupperlaw15.LedgerApplies", spec := "ledgerApplies", unfollowed := true, recurses := true, apart := false }
def LedgerAppliesSaid : Prop := ledgerAppliesRow.holds Tryz.pinned (OpenSpec.ofChange ledgerAppliesSpec)

/-- ITS FALSE NEIGHBOUR: 'it returns false'. Refute it at one input. -/
def ledgerAppliesWrong : ChangeSpec := { name := "ledgerApplies", fn := fun _ => fun
  | [d] => { results := [.lit (.bool false)], args := [d] }
  | _ => none }
def LedgerAppliesWrongFalsely : Prop := ledgerAppliesRow.holds Tryz.pinned (OpenSpec.ofChange ledgerAppliesWrong)

/-- 'scupperlaw15.LedgerDoes': WHATEVER THE INPUT: true; the input reads as it did. -/
def ledgerDoesSpec : ChangeSpec := { name := "ledgerDoes", fn := fun _ => fun
  | [d1, d2] => { results := [.lit (.bool true)], args := [d1, d2] }
  | _ => none }
def ledgerDoesRow : OpenClaim := { program := "ythincafbmpialaagreat", sum := "dcf6ec2820a001b3eda845070c5b655b517ab7a29d1980fa37fbedd371f4e4d4", func := "scupper/scupperlaw15.LedgerDoes", spec := "ledgerDoes", unfollowed := true, recurses := true, apart := false }
def LedgerDoesSaid : Prop := ledgerDoesRow.holds Tryz.pinned (OpenSpec.ofChange ledgerDoesSpec)

/-- ITS FALSE NEIGHBOUR: 'it returns false'. Refute it at one input. -/
def ledgerDoesWrong : ChangeSpec := { name := "ledgerDoes", fn := fun _ => fun
  | [d1, d2] => { results := [.lit (.bool false)], args := [d1, d2] }
  | _ => none }
def LedgerDoesWrongFalsely : Prop := ledgerDoesRow.holds Tryz.pinned (OpenSpec.ofChange ledgerDoesWrong)

/-- 'scupperlaw15.LedgerOnce': WHATEVER THE INPUT: true; the input reads as it did. -/
def ledgerOnceSpec : ChangeSpec := { name := "ledgerOnce", fn := fun _ => fun
  | [d1, d2, d3] => { results := [.lit (.bool true)], args := [d1, d2, d3] }
  | _ => none }
def ledgerOnceRow : OpenClaim := { program := "ythincafbmpialaagreat", sum := "dcf6ec2820a001b3eda845070c5b655b517ab7a29d1980fa37fbedd371f4e4d4", func := "scupper/scupperlaw15.LedgerOnce", spec := "ledgerOnce", unfollowed := true, recurses := true, apart := false }
def LedgerOnceSaid : Prop := ledgerOnceRow.holds Tryz.pinned (OpenSpec.ofChange ledgerOnceSpec)

/-- ITS FALSE NEIGHBOUR: 'it returns false'. Refute it at one input. -/
def ledgerOnceWrong : ChangeSpec := { name := "ledgerOnce", fn := fun _ => fun
  | [d1, d2, d3] => { results := [.lit (.bool false)], args := [d1, d2, d3] }
  | _ => none }
def LedgerOnceWrongFalsely : Prop := ledgerOnceRow.holds Tryz.pinned (OpenSpec.ofChange ledgerOnceWrong)

/-- 'scupperlaw15.LedgerSame': WHATEVER THE INPUT: true; the input reads as it did. -/
def ledgerSameSpec : ChangeSpec := { name := "ledgerSame", fn := fun _ => fun
  | [d1, d2] => { results := [.lit (.bool true)], args := [d1, d2] }
  | _ => none }
def ledgerSameRow : OpenClaim := { program := "ythincafbmpialaagreat", sum := "dcf6ec2820a001b3eda845070c5b655b517ab7a29d1980fa37fbedd371f4e4d4", func := "scupper/scupperlaw15.LedgerSame", spec := "ledgerSame", unfollowed := true, recurses := true, apart := false }
def LedgerSameSaid : Prop := ledgerSameRow.holds Tryz.pinned (OpenSpec.ofChange ledgerSameSpec)

/-- ITS FALSE NEIGHBOUR: 'it returns false'. Refute it at one input. -/
def ledgerSameWrong : ChangeSpec := { name := "ledgerSame", fn := fun _ => fun
  | [d1, d2] => { results := [.lit (.bool false)], args := [d1, d2] }
  | _ => none }
def LedgerSameWrongFalsely : Prop := ledgerSameRow.holds Tryz.pinned (OpenSpec.ofChange ledgerSameWrong)

/-- 'scupperlaw15.LedgerSaves': WHATEVER THE INPUT: true; the input reads as it did. -/
def ledgerSavesSpec : ChangeSpec := { name := "ledgerSaves", fn := fun _ => fun
  | [d1, d2] => { results := [.lit (.bool true)], args := [d1, d2] }
  | _ => none }
def ledgerSavesRow : OpenClaim := { program := "ythincafbmpialaagreat", sum := "dcf6ec2820a001b3eda845070c5b655b517ab7a29d1980fa37fbedd371f4e4d4", func := "scupper/scupperlaw15.LedgerSaves", spec := "ledgerSaves", unfollowed := true, recurses := true, apart := false }
def LedgerSavesSaid : Prop := ledgerSavesRow.holds Tryz.pinned (OpenSpec.ofChange ledgerSavesSpec)

/-- ITS FALSE NEIGHBOUR: 'it returns false'. Refute it at one input. -/
def ledgerSavesWrong : ChangeSpec := { name := "ledgerSaves", fn := fun _ => fun
  | [d1, d2] => { results := [.lit (.bool false)], args := [d1, d2] }
  | _ => none }
def LedgerSavesWrongFalsely : Prop := ledgerSavesRow.holds Tryz.pinned (OpenSpec.ofChange ledgerSavesWrong)

/-- 'scupperlaw15.LedgerLoads': WHATEVER THE INPUT: true; the input reads as it did. -/
def ledgerLoadsSpec : ChangeSpec := { name := "ledgerLoads", fn := fun _ => fun
  | [d1, d2] => { results := [.lit (.bool true)], args := [d1, d2] }
  | _ => none }
def ledgerLoadsRow : OpenClaim := { program := "ythincafbmpialaagreat", sum := "dcf6ec2820a001b3eda845070c5b655b517ab7a29d1980fa37fbedd371f4e4d4", func := "scupper/scupperlaw15.LedgerLoads", spec := "ledgerLoads", unfollowed := true, recurses := true, apart := false }
def LedgerLoadsSaid : Prop := ledgerLoadsRow.holds Tryz.pinned (OpenSpec.ofChange ledgerLoadsSpec)

/-- ITS FALSE NEIGHBOUR: 'it returns false'. Refute it at one input. -/
def ledgerLoadsWrong : ChangeSpec := { name := "ledgerLoads", fn := fun _ => fun
  | [d1, d2] => { results := [.lit (.bool false)], args := [d1, d2] }
  | _ => none }
def LedgerLoadsWrongFalsely : Prop := ledgerLoadsRow.holds Tryz.pinned (OpenSpec.ofChange ledgerLoadsWrong)

/- THE SECOND FORM. 'bulk': how many values and letters a reading holds, each counted each time it is reached (what is shared counts as often as it is met; a slice's spare places count too). A statement '..UptoSaid' is the law's where the arguments, and the package variables that the reading takes, are together of bulk at most 1048576: NARROWER than '..Said'. Prove '..Said' where nothing that the law and all that it calls make is longer than what came in: it says more and counts as full. Else prove '..UptoSaid'. A law counts once. -/
mutual
def uptoBulk {H : Type} : DataW H → Nat
  | .lit (.string bytes) => bytes.length + 1
  | .lit _ => 1
  | .nil => 1
  | .ptr d => uptoBulk d + 1
  | .slice elems spare => uptoBulkAll elems + uptoBulkAll spare + 1
  | .agg parts => uptoBulkAll parts + 1
  | .iface _ d => uptoBulk d + 1
  | .map entries => uptoBulkEntries entries + 1
  | .held _ => 1
def uptoBulkAll {H : Type} : List (DataW H) → Nat
  | [] => 0
  | d :: r => uptoBulk d + uptoBulkAll r
def uptoBulkEntries {H : Type} : List (Lit × DataW H) → Nat
  | [] => 0
  | x :: r => uptoBulkEntry x + uptoBulkEntries r
def uptoBulkEntry {H : Type} : Lit × DataW H → Nat
  | (.string bytes, d) => bytes.length + uptoBulk d + 1
  | (_, d) => uptoBulk d + 1
 end
def uptoSmall : (H : Type) → List (DataW H) → Bool := fun _ ds => decide (uptoBulkAll ds ≤ 1048576)
def OpenSpec.upto (s : _root_.Go.ChangeSpec) : _root_.Go.OpenSpec := { _root_.Go.OpenSpec.ofChange s with cond := some uptoSmall }

/-- 'scupperlaw15.LedgerApplies', WHERE WHAT IT READS IS OF BULK AT MOST 1048576: true; the input reads as it did. -/
def ledgerAppliesUptoRow : OpenClaim := { program := "ythincafbmpialaagreat", sum := "dcf6ec2820a001b3eda845070c5b655b517ab7a29d1980fa37fbedd371f4e4d4", func := "scupper/scupperlaw15.LedgerApplies", spec := "ledgerApplies", unfollowed := true, recurses := true, apart := false, narrowed := true }
def LedgerAppliesUptoSaid : Prop := ledgerAppliesUptoRow.holds Tryz.pinned (OpenSpec.upto ledgerAppliesSpec)

/-- 'scupperlaw15.LedgerDoes', WHERE WHAT IT READS IS OF BULK AT MOST 1048576: true; the input reads as it did. -/
def ledgerDoesUptoRow : OpenClaim := { program := "ythincafbmpialaagreat", sum := "dcf6ec2820a001b3eda845070c5b655b517ab7a29d1980fa37fbedd371f4e4d4", func := "scupper/scupperlaw15.LedgerDoes", spec := "ledgerDoes", unfollowed := true, recurses := true, apart := false, narrowed := true }
def LedgerDoesUptoSaid : Prop := ledgerDoesUptoRow.holds Tryz.pinned (OpenSpec.upto ledgerDoesSpec)

/-- 'scupperlaw15.LedgerOnce', WHERE WHAT IT READS IS OF BULK AT MOST 1048576: true; the input reads as it did. -/
def ledgerOnceUptoRow : OpenClaim := { program := "ythincafbmpialaagreat", sum := "dcf6ec2820a001b3eda845070c5b655b517ab7a29d1980fa37fbedd371f4e4d4", func := "scupper/scupperlaw15.LedgerOnce", spec := "ledgerOnce", unfollowed := true, recurses := true, apart := false, narrowed := true }
def LedgerOnceUptoSaid : Prop := ledgerOnceUptoRow.holds Tryz.pinned (OpenSpec.upto ledgerOnceSpec)

/-- 'scupperlaw15.LedgerSame', WHERE WHAT IT READS IS OF BULK AT MOST 1048576: true; the input reads as it did. -/
def ledgerSameUptoRow : OpenClaim := { program := "ythincafbmpialaagreat", sum := "dcf6ec2820a001b3eda845070c5b655b517ab7a29d1980fa37fbedd371f4e4d4", func := "scupper/scupperlaw15.LedgerSame", spec := "ledgerSame", unfollowed := true, recurses := true, apart := false, narrowed := true }
def LedgerSameUptoSaid : Prop := ledgerSameUptoRow.holds Tryz.pinned (OpenSpec.upto ledgerSameSpec)

/-- 'scupperlaw15.LedgerSaves', WHERE WHAT IT READS IS OF BULK AT MOST 1048576: true; the input reads as it did. -/
def ledgerSavesUptoRow : OpenClaim := { program := "ythincafbmpialaagreat", sum := "dcf6ec2820a001b3eda845070c5b655b517ab7a29d1980fa37fbedd371f4e4d4", func := "scupper/scupperlaw15.LedgerSaves", spec := "ledgerSaves", unfollowed := true, recurses := true, apart := false, narrowed := true }
def LedgerSavesUptoSaid : Prop := ledgerSavesUptoRow.holds Tryz.pinned (OpenSpec.upto ledgerSavesSpec)

/-- 'scupperlaw15.LedgerLoads', WHERE WHAT IT READS IS OF BULK AT MOST 1048576: true; the input reads as it did. -/
def ledgerLoadsUptoRow : OpenClaim := { program := "ythincafbmpialaagreat", sum := "dcf6ec2820a001b3eda845070c5b655b517ab7a29d1980fa37fbedd371f4e4d4", func := "scupper/scupperlaw15.LedgerLoads", spec := "ledgerLoads", unfollowed := true, recurses := true, apart := false, narrowed := true }
def LedgerLoadsUptoSaid : Prop := ledgerLoadsUptoRow.holds Tryz.pinned (OpenSpec.upto ledgerLoadsSpec)

end Rows
end Go.Proofs.YthincafbmpialaaGreat
