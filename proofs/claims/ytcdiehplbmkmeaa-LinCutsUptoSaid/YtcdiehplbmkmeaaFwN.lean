import Derived.Test.YtcdiehplbmkmeaaEnc
import Derived.Test.YtcdiehplbmkmeaaFwB
import Derived.ChangeKeysEq
set_option linter.unusedSectionVars false
set_option linter.unusedSimpArgs false
set_option linter.unusedVariables false
set_option maxRecDepth 10000
namespace Go.Proofs.Ytcdiehplbmkmeaa
open Go Go.Sc Go.Proofs
structure ShtA where
  index : Nat
  term : Nat
  conf : ConfA
  data : List UInt8
  deriving DecidableEq
structure ShtD where
  index : Nat
  term : Nat
  conf : ConfD
  dv : Value
  data : List UInt8
def ShtD.a (x : ShtD) : ShtA := ⟨x.index, x.term, x.conf.a, x.data⟩
structure ShtD.wf (x : ShtD) : Prop where
  index : x.index < 18446744073709551616
  term : x.term < 18446744073709551616
  conf : x.conf.few
  data : x.data.length ≤ 1000000000
def ShtD.cells (x : ShtD) : List Value := [.int .u64 x.index, .int .u64 x.term] ++ (x.conf.cells ++ [x.dv])
structure ShtD.rd (x : ShtD) (w : World) (S : List Nat) : Prop where
  conf : x.conf.rd w S
  dv : Rd w S (Res.sl x.dv x.data.length (x.data.map vb))
theorem ShtD.rd.at0 {x : ShtD} {w0 w : World} {S : List Nat} {L : List Res} (h : x.rd w0 S) (hw : Own w0 S L w) : x.rd w [] := ⟨h.conf.at0 hw, hw.rd0 h.dv⟩
theorem ShtD.rd.at {x : ShtD} {w0 w : World} {S : List Nat} {L Lin : List Res} (h : x.rd w0 S) (hw : Own w0 S L w) (m : List Nat) (hm : m.mapM (fun i => L[i]?) = some Lin) : x.rd w (xr Lin) := ⟨h.conf.at hw m hm, hw.rdTo h.dv m hm⟩
def ShtA.ok (x : ShtA) : Prop := (((x.conf.ok ∧ x.data.length ≤ 32768) ∧ (x.index = 0 ↔ x.term = 0)) ∧ x.index ≤ 4611686018427387904) ∧ x.term ≤ 4611686018427387904
instance (x : ShtA) : Decidable x.ok := inferInstanceAs (Decidable ((((_ ∧ _) ∧ _) ∧ _) ∧ _))
def ConfA.enc (c : ConfA) : List UInt8 := zH8 c.vs ++ zH8 c.ls
def ShtA.enc (x : ShtA) : List UInt8 := yX [x.index, x.term] ++ x.conf.enc ++ dat x.data
structure HrdD where
  term : Nat
  vote : Int
  deriving DecidableEq
def HrdD.cells (x : HrdD) : List Value := [.int .u64 x.term, .int .i64 x.vote]
def HrdD.ok (x : HrdD) : Prop := 0 ≤ x.vote ∧ x.vote ≤ 16
instance (x : HrdD) : Decidable x.ok := inferInstanceAs (Decidable (_ ∧ _))
def HrdD.enc (x : HrdD) : List UInt8 := yX [x.term, u64 x.vote]
end Go.Proofs.Ytcdiehplbmkmeaa
set_option linter.unusedVariables false
set_option linter.unusedSectionVars false
namespace Go.Sc
def zJ4 (P : Program) (f : Field) : Option (List (Nat × Option (Option IntKind))) :=
  if f.name = "_" then none else
    match P.underlying f.type with
    | some (.int k) => some [(f.offset, some (some k))]
    | some .string => some [(f.offset, some none)]
    | some .bool => some [(f.offset, none)]
    | some (.struct _) =>
      match zC7 P f.type with
      | some ks => if (P.info? f.type).isSome && ks.all (fun q => q.1 < P.cellsOf f.type) then some (ks.map fun q => (f.offset + q.1, q.2)) else none
      | none => none
    | _ => none
def flat2 (P : Program) (t : TypeId) : Option (List (List (Nat × Option (Option IntKind)))) :=
  match P.underlying t with
  | some (.struct fs) => if P.stoodInHeld t then none else fs.toList.mapM (zJ4 P)
  | _ => none
section
variable {P : Program}
variable {n : Nat} {ops : Array Oper} {N : K} {f : Nat → Value} {A : World → Prop} {rest : List Oper} {d : Nat} {ty : TypeId} {p : String} {af : Array Edge} {x y : Operand} {t t' : TypeId}
end
end Go.Sc
