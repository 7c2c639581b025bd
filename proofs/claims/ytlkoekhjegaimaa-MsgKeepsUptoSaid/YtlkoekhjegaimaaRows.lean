/-
  No cell of these rows narrows 'for every input' (looked for: loops, veiled, ifaces, maps, wideKeys, modest, calm, conditions, laid).
  DERIVED. THE GIVEN ROWS OF THIS SEAT. 7 by the template 'for every input the law returns true; each argument reads behind the call as it read before'; 0 by the template 'total and deterministic' (their statements: YtlkoekhjegaimaaTotals.lean).
  GIVEN WITH THE SEED: the statements are not yours to turn. If you find one false, say at which input.
  Laid BY PROGRAM, IN A SANDBOX (cutbox-rows.mjs): the forced cells as the released guide's own fill.sh prints them over the translation b6c8dcd5f91a49cb… (all of the seat's roots in one cut). By AI agents, Wed Nov 11 2026. No macro, syntax, notation, axiom, sorry.
-/
import Derived.Test.YtlkoekhjegaimaaChecked
import GoSem.Claim
import GoSem.ClaimJoined
import GoSem.ClaimMapViews
import Derived.JoinedTies
import Derived.KernelRfl
namespace Go.Proofs.Ytlkoekhjegaimaa
/- THE CELL 'sum', in the pinned program and in every row, IS THE sha256 OF THE DUMP (.gsa) THAT YtlkoekhjegaimaaProg.lean LOADS. Nothing in Lean hashes anything: it is a label: what it is worth is what the hold of that sum in a sandbox is worth. -/
noncomputable def Try.pinned : Pinned := { name := "ytlkoekhjegaimaa", sum := "b6c8dcd5f91a49cb885465cb8299164d67108901308a6ede1b353634f8059cd1", checked := Try.checked }
namespace Rows
def none {H : Type} : Left H := { results := [], args := [] }

/-- 'scupperlaw03.MsgAsks': WHATEVER THE INPUT: true; the input reads as it did. -/
def msgAsksSpec : ChangeSpec := { name := "msgAsks", fn := fun _ => fun
  | [d1, d2, d3, d4] => { results := [.lit (.bool true)], args := [d1, d2, d3, d4] }
  | _ => none }
def msgAsksRow : OpenClaim := { program := "ytlkoekhjegaimaa", sum := "b6c8dcd5f91a49cb885465cb8299164d67108901308a6ede1b353634f8059cd1", func := "scupper/scupperlaw03.MsgAsks", spec := "msgAsks", unfollowed := true, recurses := true, apart := false }
def MsgAsksSaid : Prop := msgAsksRow.holds Try.pinned (OpenSpec.ofChange msgAsksSpec)

/-- ITS FALSE NEIGHBOUR: 'it returns false'. Refute it at one input. -/
def msgAsksWrong : ChangeSpec := { name := "msgAsks", fn := fun _ => fun
  | [d1, d2, d3, d4] => { results := [.lit (.bool false)], args := [d1, d2, d3, d4] }
  | _ => none }
def MsgAsksWrongFalsely : Prop := msgAsksRow.holds Try.pinned (OpenSpec.ofChange msgAsksWrong)

/-- 'scupperlaw03.MsgLogs': WHATEVER THE INPUT: true; the input reads as it did. -/
def msgLogsSpec : ChangeSpec := { name := "msgLogs", fn := fun _ => fun
  | [d1, d2, d3, d4] => { results := [.lit (.bool true)], args := [d1, d2, d3, d4] }
  | _ => none }
def msgLogsRow : OpenClaim := { program := "ytlkoekhjegaimaa", sum := "b6c8dcd5f91a49cb885465cb8299164d67108901308a6ede1b353634f8059cd1", func := "scupper/scupperlaw03.MsgLogs", spec := "msgLogs", unfollowed := true, recurses := true, apart := false }
def MsgLogsSaid : Prop := msgLogsRow.holds Try.pinned (OpenSpec.ofChange msgLogsSpec)

/-- ITS FALSE NEIGHBOUR: 'it returns false'. Refute it at one input. -/
def msgLogsWrong : ChangeSpec := { name := "msgLogs", fn := fun _ => fun
  | [d1, d2, d3, d4] => { results := [.lit (.bool false)], args := [d1, d2, d3, d4] }
  | _ => none }
def MsgLogsWrongFalsely : Prop := msgLogsRow.holds Try.pinned (OpenSpec.ofChange msgLogsWrong)

/-- 'scupperlaw03.MsgReadsLogs': WHATEVER THE INPUT: true; the input reads as it did. -/
def msgReadsLogsSpec : ChangeSpec := { name := "msgReadsLogs", fn := fun _ => fun
  | [d] => { results := [.lit (.bool true)], args := [d] }
  | _ => none }
def msgReadsLogsRow : OpenClaim := { program := "ytlkoekhjegaimaa", sum := "b6c8dcd5f91a49cb885465cb8299164d67108901308a6ede1b353634f8059cd1", func := "scupper/scupperlaw03.MsgReadsLogs", spec := "msgReadsLogs", unfollowed := true, recurses := true, apart := false }
def MsgReadsLogsSaid : Prop := msgReadsLogsRow.holds Try.pinned (OpenSpec.ofChange msgReadsLogsSpec)

/-- ITS FALSE NEIGHBOUR: 'it returns false'. Refute it at one input. -/
def msgReadsLogsWrong : ChangeSpec := { name := "msgReadsLogs", fn := fun _ => fun
  | [d] => { results := [.lit (.bool false)], args := [d] }
  | _ => none }
def MsgReadsLogsWrongFalsely : Prop := msgReadsLogsRow.holds Try.pinned (OpenSpec.ofChange msgReadsLogsWrong)

/-- 'scupperlaw03.MsgTalks': WHATEVER THE INPUT: true; the input reads as it did. -/
def msgTalksSpec : ChangeSpec := { name := "msgTalks", fn := fun _ => fun
  | [d] => { results := [.lit (.bool true)], args := [d] }
  | _ => none }
def msgTalksRow : OpenClaim := { program := "ytlkoekhjegaimaa", sum := "b6c8dcd5f91a49cb885465cb8299164d67108901308a6ede1b353634f8059cd1", func := "scupper/scupperlaw03.MsgTalks", spec := "msgTalks", unfollowed := true, recurses := true, apart := false }
def MsgTalksSaid : Prop := msgTalksRow.holds Try.pinned (OpenSpec.ofChange msgTalksSpec)

/-- ITS FALSE NEIGHBOUR: 'it returns false'. Refute it at one input. -/
def msgTalksWrong : ChangeSpec := { name := "msgTalks", fn := fun _ => fun
  | [d] => { results := [.lit (.bool false)], args := [d] }
  | _ => none }
def MsgTalksWrongFalsely : Prop := msgTalksRow.holds Try.pinned (OpenSpec.ofChange msgTalksWrong)

/-- 'scupperlaw03.MsgBack': WHATEVER THE INPUT: true; the input reads as it did. -/
def msgBackSpec : ChangeSpec := { name := "msgBack", fn := fun _ => fun
  | [d1, d2, d3] => { results := [.lit (.bool true)], args := [d1, d2, d3] }
  | _ => none }
def msgBackRow : OpenClaim := { program := "ytlkoekhjegaimaa", sum := "b6c8dcd5f91a49cb885465cb8299164d67108901308a6ede1b353634f8059cd1", func := "scupper/scupperlaw03.MsgBack", spec := "msgBack", unfollowed := true, recurses := true, apart := false }
def MsgBackSaid : Prop := msgBackRow.holds Try.pinned (OpenSpec.ofChange msgBackSpec)

/-- ITS FALSE NEIGHBOUR: 'it returns false'. Refute it at one input. -/
def msgBackWrong : ChangeSpec := { name := "msgBack", fn := fun _ => fun
  | [d1, d2, d3] => { results := [.lit (.bool false)], args := [d1, d2, d3] }
  | _ => none }
def MsgBackWrongFalsely : Prop := msgBackRow.holds Try.pinned (OpenSpec.ofChange msgBackWrong)

/-- 'scupperlaw03.MsgKeeps': WHATEVER THE INPUT: true; the input reads as it did. -/
def msgKeepsSpec : ChangeSpec := { name := "msgKeeps", fn := fun _ => fun
  | [d] => { results := [.lit (.bool true)], args := [d] }
  | _ => none }
def msgKeepsRow : OpenClaim := { program := "ytlkoekhjegaimaa", sum := "b6c8dcd5f91a49cb885465cb8299164d67108901308a6ede1b353634f8059cd1", func := "scupper/scupperlaw03.MsgKeeps", spec := "msgKeeps", unfollowed := true, recurses := true, apart := false }
def MsgKeepsSaid : Prop := msgKeepsRow.holds Try.pinned (OpenSpec.ofChange msgKeepsSpec)

/-- ITS FALSE NEIGHBOUR: 'it returns false'. Refute it at one input. -/
def msgKeepsWrong : ChangeSpec := { name := "msgKeeps", fn := fun _ => fun
  | [d] => { results := [.lit (.bool false)], args := [d] }
  | _ => none }
def MsgKeepsWrongFalsely : Prop := msgKeepsRow.holds Try.pinned (OpenSpec.ofChange msgKeepsWrong)

/-- 'scupperlaw03.MsgApart': WHATEVER THE INPUT: true; the input reads as it did. -/
def msgApartSpec : ChangeSpec := { name := "msgApart", fn := fun _ => fun
  | [d1, d2, d3, d4, d5, d6] => { results := [.lit (.bool true)], args := [d1, d2, d3, d4, d5, d6] }
  | _ => none }
def msgApartRow : OpenClaim := { program := "ytlkoekhjegaimaa", sum := "b6c8dcd5f91a49cb885465cb8299164d67108901308a6ede1b353634f8059cd1", func := "scupper/scupperlaw03.MsgApart", spec := "msgApart", unfollowed := true, recurses := true, apart := false }
def MsgApartSaid : Prop := msgApartRow.holds Try.pinned (OpenSpec.ofChange msgApartSpec)

/-- ITS FALSE NEIGHBOUR: 'it returns false'. Refute it at one input. -/
def msgApartWrong : ChangeSpec := { name := "msgApart", fn := fun _ => fun
  | [d1, d2, d3, d4, d5, d6] => { results := [.lit (.bool false)], args := [d1, d2, d3, d4, d5, d6] }
  | _ => none }
def MsgApartWrongFalsely : Prop := msgApartRow.holds Try.pinned (OpenSpec.ofChange msgApartWrong)

/- THE SECOND FORM. 'bulk': how many values and letters a reading holds, each counted each time it is reached (what is shared counts as often as it is met; a slice's spare places count too). A statement '..UptoSaid' is the law's where the arguments, and the package variables that the reading takes, are together of bulk at most 1048576: NARROWER than '..Said'. Prove '..Said' where nothing that the law and all that it calls make is longer than what came in: it says more and counts as full. Else prove '..UptoSaid'. A law counts once. -/
mutual
def uptoBulk {H : Type} : DataW H → Nat
  | .lit (.string bytes) => bytes.length + 1
  | .lit _ => 1
  | .nil => 1
  | .ptr d => uptoBulk d + 1
  | .slice elems spare => uptoBulkAll elems + uptoBulkAll spare + 1
  | .agg parts => uptoBulkAll parts + 1
  | .iface _ d => uptoBulk d + 1
  | .map entries => uptoBulkEntries entries + 1
  | .held _ => 1
def uptoBulkAll {H : Type} : List (DataW H) → Nat
  | [] => 0
  | d :: r => uptoBulk d + uptoBulkAll r
def uptoBulkEntries {H : Type} : List (Lit × DataW H) → Nat
  | [] => 0
  | x :: r => uptoBulkEntry x + uptoBulkEntries r
def uptoBulkEntry {H : Type} : Lit × DataW H → Nat
  | (.string bytes, d) => bytes.length + uptoBulk d + 1
  | (_, d) => uptoBulk d + 1
 end
def uptoSmall : (H : Type) → List (DataW H) → Bool := fun _ ds => decide (uptoBulkAll ds ≤ 1048576)
def OpenSpec.upto (s : _root_.Go.ChangeSpec) : _root_.Go.OpenSpec := { _root_.Go.OpenSpec.ofChange s with cond := some uptoSmall }

/-- 'scupperlaw03.MsgAsks', WHERE WHAT IT READS IS OF BULK AT MOST 1048576: true; the input reads as it did. -/
def msgAsksUptoRow : OpenClaim := { program := "ytlkoekhjegaimaa", sum := "b6c8dcd5f91a49cb885465cb8299164d67108901308a6ede1b353634f8059cd1", func := "scupper/scupperlaw03.MsgAsks", spec := "msgAsks", unfollowed := true, recurses := true, apart := false, narrowed := true }
def MsgAsksUptoSaid : Prop := msgAsksUptoRow.holds Try.pinned (OpenSpec.upto msgAsksSpec)

/-- 'scupperlaw03.MsgLogs', WHERE WHAT IT READS IS OF BULK AT MOST 1048576: true; the input reads as it did. -/
def msgLogsUptoRow : OpenClaim := { program := "ytlkoekhjegaimaa", sum := "b6c8dcd5f91a49cb885465cb8299164d67108901308a6ede1b353634f8059cd1", func := "scupper/scupperlaw03.MsgLogs", spec := "msgLogs", unfollowed := true, recurses := true, apart := false, narrowed := true }
def MsgLogsUptoSaid : Prop := msgLogsUptoRow.holds Try.pinned (OpenSpec.upto msgLogsSpec)

/-- 'scupperlaw03.MsgReadsLogs', WHERE WHAT IT READS IS OF BULK AT MOST 1048576: true; the input reads as it did. -/
def msgReadsLogsUptoRow : OpenClaim := { program := "ytlkoekhjegaimaa", sum := "b6c8dcd5f91a49cb885465cb8299164d67108901308a6ede1b353634f8059cd1", func := "scupper/scupperlaw03.MsgReadsLogs", spec := "msgReadsLogs", unfollowed := true, recurses := true, apart := false, narrowed := true }
def MsgReadsLogsUptoSaid : Prop := msgReadsLogsUptoRow.holds Try.pinned (OpenSpec.upto msgReadsLogsSpec)

/-- 'scupperlaw03.MsgTalks', WHERE WHAT IT READS IS OF BULK AT MOST 1048576: true; the input reads as it did. -/
def msgTalksUptoRow : OpenClaim := { program := "ytlkoekhjegaimaa", sum := "b6c8dcd5f91a49cb885465cb8299164d67108901308a6ede1b353634f8059cd1", func := "scupper/scupperlaw03.MsgTalks", spec := "msgTalks", unfollowed := true, recurses := true, apart := false, narrowed := true }
def MsgTalksUptoSaid : Prop := msgTalksUptoRow.holds Try.pinned (OpenSpec.upto msgTalksSpec)

/-- 'scupperlaw03.MsgBack', WHERE WHAT IT READS IS OF BULK AT MOST 1048576: true; the input reads as it did. -/
def msgBackUptoRow : OpenClaim := { program := "ytlkoekhjegaimaa", sum := "b6c8dcd5f91a49cb885465cb8299164d67108901308a6ede1b353634f8059cd1", func := "scupper/scupperlaw03.MsgBack", spec := "msgBack", unfollowed := true, recurses := true, apart := false, narrowed := true }
def MsgBackUptoSaid : Prop := msgBackUptoRow.holds Try.pinned (OpenSpec.upto msgBackSpec)

/-- 'scupperlaw03.MsgKeeps', WHERE WHAT IT READS IS OF BULK AT MOST 1048576: true; the input reads as it did. -/
def msgKeepsUptoRow : OpenClaim := { program := "ytlkoekhjegaimaa", sum := "b6c8dcd5f91a49cb885465cb8299164d67108901308a6ede1b353634f8059cd1", func := "scupper/scupperlaw03.MsgKeeps", spec := "msgKeeps", unfollowed := true, recurses := true, apart := false, narrowed := true }
def MsgKeepsUptoSaid : Prop := msgKeepsUptoRow.holds Try.pinned (OpenSpec.upto msgKeepsSpec)

/-- 'scupperlaw03.MsgApart', WHERE WHAT IT READS IS OF BULK AT MOST 1048576: true; the input reads as it did. -/
def msgApartUptoRow : OpenClaim := { program := "ytlkoekhjegaimaa", sum := "b6c8dcd5f91a49cb885465cb8299164d67108901308a6ede1b353634f8059cd1", func := "scupper/scupperlaw03.MsgApart", spec := "msgApart", unfollowed := true, recurses := true, apart := false, narrowed := true }
def MsgApartUptoSaid : Prop := msgApartUptoRow.holds Try.pinned (OpenSpec.upto msgApartSpec)

end Rows
end Go.Proofs.Ytlkoekhjegaimaa
