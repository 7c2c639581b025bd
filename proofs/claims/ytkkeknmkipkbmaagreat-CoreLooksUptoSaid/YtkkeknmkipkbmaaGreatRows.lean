/-
  No cell of these rows narrows 'for every input' (looked for: loops, veiled, ifaces, maps, wideKeys, modest, calm, conditions, laid).
  DERIVED. THE GIVEN ROWS OF THIS SEAT. 6 by the template 'for every input the law returns true; each argument reads behind the call as it read before'; 0 by the template 'total and deterministic' (their statements: YtkkeknmkipkbmaaGreatTotals.lean).
  GIVEN WITH THE SEED: the statements are not yours to turn. If you find one false, say at which input.
  Laid BY PROGRAM, IN A SANDBOX (cutbox-rows.mjs): the forced cells as the released guide's own fill.sh prints them over the translation e50c57420c6c19d3… (all of the seat's roots in one cut). By AI agents, Wed Nov 11 2026. No macro, syntax, notation, axiom, sorry.
-/
import Derived.Test.YtkkeknmkipkbmaaGreatChecked
import GoSem.Claim
import GoSem.ClaimJoined
import GoSem.ClaimMapViews
import Derived.JoinedTies
import Derived.KernelRfl
namespace Go.Proofs.YtkkeknmkipkbmaaGreat
/- THE CELL 'sum', in the pinned program and in every row, IS THE sha256 OF THE DUMP (.gsa) THAT YtkkeknmkipkbmaaGreatProg.lean LOADS. Nothing in Lean hashes anything: it is a label: what it is worth is what the hold of that sum in a sandbox is worth. -/
noncomputable def Tryz.pinned : Pinned := { name := "ytkkeknmkipkbmaagreat", sum := "e50c57420c6c19d35b508f6174a7ef6c61a4ab9d7ca2645fc65ac1edbc6ca0ee", checked := Tryz.checked }
namespace Rows
def none {H : Type} : Left H := { results := [], args := [] }

/-- 'scupperlaw12.CoreOne': WHATEVER THE INPUT: true; the input reads as it did. -/
def coreOneSpec : ChangeSpec := { name := "coreOne", fn := fun _ => fun
  | [d1, d2, d3] => { results := [.lit (.bool true)], args := [d1, d2, d3] }
  | _ => none }
def coreOneRow : OpenClaim := { program := "ytkkeknmkipkbmaagreat", sum := "e50c57420c6c19d35b508f6174a7ef6c61a4ab9d7ca2645fc65ac1edbc6ca0ee", func := "scupper/scupperlaw12.CoreOne", spec := "coreOne", unfollowed := true, recurses := true, plainKeys := false, apart := false }
def CoreOneSaid : Prop := coreOneRow.holds Tryz.pinned (OpenSpec.ofChange coreOneSpec)

/-- ITS FALSE NEIGHBOUR: 'it returns false'. Refute it at one input. -/
def coreOneWrong : ChangeSpec := { name := "coreOne", fn := fun _ => fun
  | [d1, d2, d3] => { results := [.lit (.bool false)], args := [d1, d2, d3] }
  | _ => none }
def CoreOneWrongFalsely : Prop := coreOneRow.holds Tryz.pinned (OpenSpec.ofChange coreOneWrong)

/-- 'scupperlaw12.CoreTrusts': WHATEVER THE INPUT: true; the input reads as it did. -/
def coreTrustsSpec : ChangeSpec := { name := "coreTrusts", fn := fun _ => fun
  | [d1, d2, d3] => { results := [.lit (.bool true)], args := [d1, d2, d3] }
  | _ => none }
def coreTrustsRow : OpenClaim := { program := "ytkkeknmkipkbmaagreat", sum := "e50c57420c6c19d35b508f6174a7ef6c61a4ab9d7ca2645fc65ac1edbc6ca0ee", func := "scupper/scupperlaw12.CoreTrusts", spec := "coreTrusts", unfollowed := true, recurses := true, plainKeys := false, apart := false }
def CoreTrustsSaid : Prop := coreTrustsRow.holds Tryz.pinned (OpenSpec.ofChange coreTrustsSpec)

/-- ITS FALSE NEIGHBOUR: 'it returns false'. Refute it at one input. -/
def coreTrustsWrong : ChangeSpec := { name := "coreTrusts", fn := fun _ => fun
  | [d1, d2, d3] => { results := [.lit (.bool false)], args := [d1, d2, d3] }
  | _ => none }
def CoreTrustsWrongFalsely : Prop := coreTrustsRow.holds Tryz.pinned (OpenSpec.ofChange coreTrustsWrong)

/-- 'scupperlaw12.CoreVotes': WHATEVER THE INPUT: true; the input reads as it did. -/
def coreVotesSpec : ChangeSpec := { name := "coreVotes", fn := fun _ => fun
  | [d1, d2] => { results := [.lit (.bool true)], args := [d1, d2] }
  | _ => none }
def coreVotesRow : OpenClaim := { program := "ytkkeknmkipkbmaagreat", sum := "e50c57420c6c19d35b508f6174a7ef6c61a4ab9d7ca2645fc65ac1edbc6ca0ee", func := "scupper/scupperlaw12.CoreVotes", spec := "coreVotes", unfollowed := true, recurses := true, plainKeys := false, apart := false }
def CoreVotesSaid : Prop := coreVotesRow.holds Tryz.pinned (OpenSpec.ofChange coreVotesSpec)

/-- ITS FALSE NEIGHBOUR: 'it returns false'. Refute it at one input. -/
def coreVotesWrong : ChangeSpec := { name := "coreVotes", fn := fun _ => fun
  | [d1, d2] => { results := [.lit (.bool false)], args := [d1, d2] }
  | _ => none }
def CoreVotesWrongFalsely : Prop := coreVotesRow.holds Tryz.pinned (OpenSpec.ofChange coreVotesWrong)

/-- 'scupperlaw12.CoreElects': WHATEVER THE INPUT: true; the input reads as it did. -/
def coreElectsSpec : ChangeSpec := { name := "coreElects", fn := fun _ => fun
  | [d1, d2] => { results := [.lit (.bool true)], args := [d1, d2] }
  | _ => none }
def coreElectsRow : OpenClaim := { program := "ytkkeknmkipkbmaagreat", sum := "e50c57420c6c19d35b508f6174a7ef6c61a4ab9d7ca2645fc65ac1edbc6ca0ee", func := "scupper/scupperlaw12.CoreElects", spec := "coreElects", unfollowed := true, recurses := true, plainKeys := false, apart := false }
def CoreElectsSaid : Prop := coreElectsRow.holds Tryz.pinned (OpenSpec.ofChange coreElectsSpec)

/-- ITS FALSE NEIGHBOUR: 'it returns false'. Refute it at one input. -/
def coreElectsWrong : ChangeSpec := { name := "coreElects", fn := fun _ => fun
  | [d1, d2] => { results := [.lit (.bool false)], args := [d1, d2] }
  | _ => none }
def CoreElectsWrongFalsely : Prop := coreElectsRow.holds Tryz.pinned (OpenSpec.ofChange coreElectsWrong)

/-- 'scupperlaw12.CoreSafe': WHATEVER THE INPUT: true; the input reads as it did. -/
def coreSafeSpec : ChangeSpec := { name := "coreSafe", fn := fun _ => fun
  | [d1, d2] => { results := [.lit (.bool true)], args := [d1, d2] }
  | _ => none }
def coreSafeRow : OpenClaim := { program := "ytkkeknmkipkbmaagreat", sum := "e50c57420c6c19d35b508f6174a7ef6c61a4ab9d7ca2645fc65ac1edbc6ca0ee", func := "scupper/scupperlaw12.CoreSafe", spec := "coreSafe", unfollowed := true, recurses := true, plainKeys := false, apart := false }
def CoreSafeSaid : Prop := coreSafeRow.holds Tryz.pinned (OpenSpec.ofChange coreSafeSpec)

/-- ITS FALSE NEIGHBOUR: 'it returns false'. Refute it at one input. -/
def coreSafeWrong : ChangeSpec := { name := "coreSafe", fn := fun _ => fun
  | [d1, d2] => { results := [.lit (.bool false)], args := [d1, d2] }
  | _ => none }
def CoreSafeWrongFalsely : Prop := coreSafeRow.holds Tryz.pinned (OpenSpec.ofChange coreSafeWrong)

/-- 'scupperlaw12.CoreLooks': WHATEVER THE INPUT: true; the input reads as it did. -/
def coreLooksSpec : ChangeSpec := { name := "coreLooks", fn := fun _ => fun
  | [d1, d2, d3, d4] => { results := [.lit (.bool true)], args := [d1, d2, d3, d4] }
  | _ => none }
def coreLooksRow : OpenClaim := { program := "ytkkeknmkipkbmaagreat", sum := "e50c57420c6c19d35b508f6174a7ef6c61a4ab9d7ca2645fc65ac1edbc6ca0ee", func := "scupper/scupperlaw12.CoreLooks", spec := "coreLooks", unfollowed := true, recurses := true, plainKeys := false, apart := false }
def CoreLooksSaid : Prop := coreLooksRow.holds Tryz.pinned (OpenSpec.ofChange coreLooksSpec)

/-- ITS FALSE NEIGHBOUR: 'it returns false'. Refute it at one input. -/
def coreLooksWrong : ChangeSpec := { name := "coreLooks", fn := fun _ => fun
  | [d1, d2, d3, d4] => { results := [.lit (.bool false)], args := [d1, d2, d3, d4] }
  | _ => none }
def CoreLooksWrongFalsely : Prop := coreLooksRow.holds Tryz.pinned (OpenSpec.ofChange coreLooksWrong)

/- THE SECOND FORM. 'bulk': how many values and letters a reading holds, each counted each time it is reached (what is shared counts as often as it is met; a slice's spare places count too). A statement '..UptoSaid' is the law's where the arguments, and the package variables that the reading takes, are together of bulk at most 1048576: NARROWER than '..Said'. Prove '..Said' where nothing that the law and all that it calls make is longer than what came in: it says more and counts as full. Else prove '..UptoSaid'. A law counts once. -/
mutual
def uptoBulk {H : Type} : DataW H → Nat
  | .lit (.string bytes) => bytes.length + 1
  | .lit _ => 1
  | .nil => 1
  | .ptr d => uptoBulk d + 1
  | .slice elems spare => uptoBulkAll elems + uptoBulkAll spare + 1
  | .agg parts => uptoBulkAll parts + 1
  | .iface _ d => uptoBulk d + 1
  | .map entries => uptoBulkEntries entries + 1
  | .held _ => 1
def uptoBulkAll {H : Type} : List (DataW H) → Nat
  | [] => 0
  | d :: r => uptoBulk d + uptoBulkAll r
def uptoBulkEntries {H : Type} : List (Lit × DataW H) → Nat
  | [] => 0
  | x :: r => uptoBulkEntry x + uptoBulkEntries r
def uptoBulkEntry {H : Type} : Lit × DataW H → Nat
  | (.string bytes, d) => bytes.length + uptoBulk d + 1
  | (_, d) => uptoBulk d + 1
 end
def uptoSmall : (H : Type) → List (DataW H) → Bool := fun _ ds => decide (uptoBulkAll ds ≤ 1048576)
def OpenSpec.upto (s : _root_.Go.ChangeSpec) : _root_.Go.OpenSpec := { _root_.Go.OpenSpec.ofChange s with cond := some uptoSmall }

/-- 'scupperlaw12.CoreOne', WHERE WHAT IT READS IS OF BULK AT MOST 1048576: true; the input reads as it did. -/
def coreOneUptoRow : OpenClaim := { program := "ytkkeknmkipkbmaagreat", sum := "e50c57420c6c19d35b508f6174a7ef6c61a4ab9d7ca2645fc65ac1edbc6ca0ee", func := "scupper/scupperlaw12.CoreOne", spec := "coreOne", unfollowed := true, recurses := true, plainKeys := false, apart := false, narrowed := true }
def CoreOneUptoSaid : Prop := coreOneUptoRow.holds Tryz.pinned (OpenSpec.upto coreOneSpec)

/-- 'scupperlaw12.CoreTrusts', WHERE WHAT IT READS IS OF BULK AT MOST 1048576: true; the input reads as it did. -/
def coreTrustsUptoRow : OpenClaim := { program := "ytkkeknmkipkbmaagreat", sum := "e50c57420c6c19d35b508f6174a7ef6c61a4ab9d7ca2645fc65ac1edbc6ca0ee", func := "scupper/scupperlaw12.CoreTrusts", spec := "coreTrusts", unfollowed := true, recurses := true, plainKeys := false, apart := false, narrowed := true }
def CoreTrustsUptoSaid : Prop := coreTrustsUptoRow.holds Tryz.pinned (OpenSpec.upto coreTrustsSpec)

/-- 'scupperlaw12.CoreVotes', WHERE WHAT IT READS IS OF BULK AT MOST 1048576: true; the input reads as it did. -/
def coreVotesUptoRow : OpenClaim := { program := "ytkkeknmkipkbmaagreat", sum := "e50c57420c6c19d35b508f6174a7ef6c61a4ab9d7ca2645fc65ac1edbc6ca0ee", func := "scupper/scupperlaw12.CoreVotes", spec := "coreVotes", unfollowed := true, recurses := true, plainKeys := false, apart := false, narrowed := true }
def CoreVotesUptoSaid : Prop := coreVotesUptoRow.holds Tryz.pinned (OpenSpec.upto coreVotesSpec)

/-- 'scupperlaw12.CoreElects', WHERE WHAT IT READS IS OF BULK AT MOST 1048576: true; the input reads as it did. -/
def coreElectsUptoRow : OpenClaim := { program := "ytkkeknmkipkbmaagreat", sum := "e50c57420c6c19d35b508f6174a7ef6c61a4ab9d7ca2645fc65ac1edbc6ca0ee", func := "scupper/scupperlaw12.CoreElects", spec := "coreElects", unfollowed := true, recurses := true, plainKeys := false, apart := false, narrowed := true }
def CoreElectsUptoSaid : Prop := coreElectsUptoRow.holds Tryz.pinned (OpenSpec.upto coreElectsSpec)

/-- 'scupperlaw12.CoreSafe', WHERE WHAT IT READS IS OF BULK AT MOST 1048576: true; the input reads as it did. -/
def coreSafeUptoRow : OpenClaim := { program := "ytkkeknmkipkbmaagreat", sum := "e50c57420c6c19d35b508f6174a7ef6c61a4ab9d7ca2645fc65ac1edbc6ca0ee", func := "scupper/scupperlaw12.CoreSafe", spec := "coreSafe", unfollowed := true, recurses := true, plainKeys := false, apart := false, narrowed := true }
def CoreSafeUptoSaid : Prop := coreSafeUptoRow.holds Tryz.pinned (OpenSpec.upto coreSafeSpec)

/-- 'scupperlaw12.CoreLooks', WHERE WHAT IT READS IS OF BULK AT MOST 1048576: true; the input reads as it did. -/
def coreLooksUptoRow : OpenClaim := { program := "ytkkeknmkipkbmaagreat", sum := "e50c57420c6c19d35b508f6174a7ef6c61a4ab9d7ca2645fc65ac1edbc6ca0ee", func := "scupper/scupperlaw12.CoreLooks", spec := "coreLooks", unfollowed := true, recurses := true, plainKeys := false, apart := false, narrowed := true }
def CoreLooksUptoSaid : Prop := coreLooksUptoRow.holds Tryz.pinned (OpenSpec.upto coreLooksSpec)

end Rows
end Go.Proofs.YtkkeknmkipkbmaaGreat
