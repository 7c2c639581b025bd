/-
  No cell of these rows narrows 'for every input' (looked for: loops, veiled, ifaces, maps, wideKeys, modest, calm, conditions, laid).
  DERIVED. THE GIVEN ROWS OF THIS SEAT. 2 by the template 'for every input the law returns true; each argument reads behind the call as it read before'; 0 by the template 'total and deterministic' (their statements: YtgkeoenbcjfeaaaGreatTotals.lean).
  GIVEN WITH THE SEED: the statements are not yours to turn. If you find one false, say at which input.
  Laid BY PROGRAM, IN A SANDBOX (cutbox-rows.mjs): the forced cells as the released guide's own fill.sh prints them over the translation 59a0c176c5fcda9c… (all of the seat's roots in one cut). By AI agents, Wed Nov 11 2026. No macro, syntax, notation, axiom, sorry.
-/
import Derived.Test.YtgkeoenbcjfeaaaGreatChecked
import GoSem.Claim
import GoSem.ClaimJoined
import GoSem.ClaimMapViews
import Derived.JoinedTies
import Derived.KernelRfl
namespace Go.Proofs.YtgkeoenbcjfeaaaGreat
/- THE CELL 'sum', in the pinned program and in every row, IS THE sha256 OF THE DUMP (.gsa) THAT YtgkeoenbcjfeaaaGreatProg.lean LOADS. Nothing in Lean hashes anything: it is a label: what it is worth is what the hold of that sum in a sandbox is worth. -/
noncomputable def Tryz.pinned : Pinned := { name := "ytgkeoenbcjfeaaagreat", sum := "59a0c176c5fcda9c99c84e150cc902536323617c82dd43427e4aa5a2447ece35", checked := Tryz.checked }
namespace Rows
def none {H : Type} : Left H := { results := [], args := [] }

/-- 'scupperlaw13.QuotaActs': WHATEVER THE INPUT: true; the input reads as it did. -/
def quotaActsSpec : ChangeSpec := { name := "quotaActs", fn := fun _ => fun
  | [d] => { results := [.lit (.bool true)], args := [d] }
  | _ => none }
def quotaActsRow : OpenClaim := { program := "ytgkeoenbcjfeaaagreat", sum := "59a0c176c5fcda9c99c84e150cc902536323617c82dd43427e4aa5a2447ece35", func := "scupper/scupperlaw13.QuotaActs", spec := "quotaActs", inPlace := ["maps.clone"], unfollowed := true, recurses := true, apart := false }
def QuotaActsSaid : Prop := quotaActsRow.holds Tryz.pinned (OpenSpec.ofChange quotaActsSpec)

/-- ITS FALSE NEIGHBOUR: 'it returns false'. Refute it at one input. -/
def quotaActsWrong : ChangeSpec := { name := "quotaActs", fn := fun _ => fun
  | [d] => { results := [.lit (.bool false)], args := [d] }
  | _ => none }
def QuotaActsWrongFalsely : Prop := quotaActsRow.holds Tryz.pinned (OpenSpec.ofChange quotaActsWrong)

/-- 'scupperlaw13.QuotaApart': WHATEVER THE INPUT: true; the input reads as it did. -/
def quotaApartSpec : ChangeSpec := { name := "quotaApart", fn := fun _ => fun
  | [d1, d2] => { results := [.lit (.bool true)], args := [d1, d2] }
  | _ => none }
def quotaApartRow : OpenClaim := { program := "ytgkeoenbcjfeaaagreat", sum := "59a0c176c5fcda9c99c84e150cc902536323617c82dd43427e4aa5a2447ece35", func := "scupper/scupperlaw13.QuotaApart", spec := "quotaApart", inPlace := ["maps.clone"], unfollowed := true, recurses := true, apart := false }
def QuotaApartSaid : Prop := quotaApartRow.holds Tryz.pinned (OpenSpec.ofChange quotaApartSpec)

/-- ITS FALSE NEIGHBOUR: 'it returns false'. Refute it at one input. -/
def quotaApartWrong : ChangeSpec := { name := "quotaApart", fn := fun _ => fun
  | [d1, d2] => { results := [.lit (.bool false)], args := [d1, d2] }
  | _ => none }
def QuotaApartWrongFalsely : Prop := quotaApartRow.holds Tryz.pinned (OpenSpec.ofChange quotaApartWrong)

/- THE SECOND FORM. 'bulk': how many values and letters a reading holds, each counted each time it is reached (what is shared counts as often as it is met; a slice's spare places count too). A statement '..UptoSaid' is the law's where the arguments, and the package variables that the reading takes, are together of bulk at most 1048576: NARROWER than '..Said'. Prove '..Said' where nothing that the law and all that it calls make is longer than what came in: it says more and counts as full. Else prove '..UptoSaid'. A law counts once. -/
mutual
def uptoBulk {H : Type} : DataW H → Nat
  | .lit (.string bytes) => bytes.length + 1
  | .lit _ => 1
  | .nil => 1
  | .ptr d => uptoBulk d + 1
  | .slice elems spare => uptoBulkAll elems + uptoBulkAll spare + 1
  | .agg parts => uptoBulkAll parts + 1
  | .iface _ d => uptoBulk d + 1
  | .map entries => uptoBulkEntries entries + 1
  | .held _ => 1
def uptoBulkAll {H : Type} : List (DataW H) → Nat
  | [] => 0
  | d :: r => uptoBulk d + uptoBulkAll r
def uptoBulkEntries {H : Type} : List (Lit × DataW H) → Nat
  | [] => 0
  | x :: r => uptoBulkEntry x + uptoBulkEntries r
def uptoBulkEntry {H : Type} : Lit × DataW H → Nat
  | (.string bytes, d) => bytes.length + uptoBulk d + 1
  | (_, d) => uptoBulk d + 1
 end
def uptoSmall : (H : Type) → List (DataW H) → Bool := fun _ ds => decide (uptoBulkAll ds ≤ 1048576)
def OpenSpec.upto (s : _root_.Go.ChangeSpec) : _root_.Go.OpenSpec := { _root_.Go.OpenSpec.ofChange s with cond := some uptoSmall }

/-- 'scupperlaw13.QuotaActs', WHERE WHAT IT READS IS OF BULK AT MOST 1048576: true; the input reads as it did. -/
def quotaActsUptoRow : OpenClaim := { program := "ytgkeoenbcjfeaaagreat", sum := "59a0c176c5fcda9c99c84e150cc902536323617c82dd43427e4aa5a2447ece35", func := "scupper/scupperlaw13.QuotaActs", spec := "quotaActs", inPlace := ["maps.clone"], unfollowed := true, recurses := true, apart := false, narrowed := true }
def QuotaActsUptoSaid : Prop := quotaActsUptoRow.holds Tryz.pinned (OpenSpec.upto quotaActsSpec)

/-- 'scupperlaw13.QuotaApart', WHERE WHAT IT READS IS OF BULK AT MOST 1048576: true; the input reads as it did. -/
def quotaApartUptoRow : OpenClaim := { program := "ytgkeoenbcjfeaaagreat", sum := "59a0c176c5fcda9c99c84e150cc902536323617c82dd43427e4aa5a2447ece35", func := "scupper/scupperlaw13.QuotaApart", spec := "quotaApart", inPlace := ["maps.clone"], unfollowed := true, recurses := true, apart := false, narrowed := true }
def QuotaApartUptoSaid : Prop := quotaApartUptoRow.holds Tryz.pinned (OpenSpec.upto quotaApartSpec)

end Rows
end Go.Proofs.YtgkeoenbcjfeaaaGreat
