import Derived.Test.YtkkeknmkipkbmaaGreatFwA
import Derived.MapKept
import Derived.Laws.StructEq
set_option linter.unusedSimpArgs false
set_option linter.unusedVariables false
set_option linter.unusedSectionVars false
namespace Go.Sc
structure KeyL {κ : Type} [DecidableEq κ] (P : Program) (kt : TypeId) (ke : κ → Value) : Prop where
  desc : ∃ d, P.underlying kt = some d ∧ (∀ a b, Instr.sameNow d (ke a) (ke b) = some (decide (a = b))) ∧ ((∃ q, d = .int q) ∨ d = .string)
  bits : ∀ a, Instr.sameBits 10000 (ke a) (ke a) = true
def j3 (es : Array MapEntry) (clock : Nat) : Prop := (∀ e ∈ es.toList, e.born < clock) ∧ (es.toList.map (·.born)).Nodup
section
variable {κ : Type} [DecidableEq κ] {P : Program} {kt vt t : TypeId} {ke : κ → Value}
def Res.map (ke : κ → Value) (b : Nat) (kv : List (κ × Value)) : Res where
  fp := [b]
  φ w := ∃ es clock, w.heap[b]? = some (.map es clock) ∧ es.toList.map (fun e => (e.key, e.val)) = kv.map (fun p => (ke p.1, p.2)) ∧ j3 es clock
  st w w' h hb := by
    obtain ⟨es, clock, h1, h2⟩ := h
    exact ⟨es, clock, by rw [hb b (by simp)]; exact h1, h2⟩
  lt w h b' hb' := by
    obtain ⟨es, clock, h1, h2⟩ := h
    simp at hb'; subst hb'
    exact (Array.getElem?_eq_some_iff.1 h1).1
def zDg (k : κ) : List (κ × Value) → Nat → Option (Nat × Value)
  | [], _ => none
  | (x, v) :: r, i => if k = x then some (i, v) else zDg k r (i + 1)
def getK (k : κ) (kv : List (κ × Value)) : Option Value := (zDg k kv 0).map (·.2)
def putK (k : κ) (v : Value) (kv : List (κ × Value)) : List (κ × Value) :=
  match zDg k kv 0 with
  | some (j, _) => kv.set j (k, v)
  | none => kv ++ [(k, v)]
def delK (k : κ) (kv : List (κ × Value)) : List (κ × Value) :=
  match zDg k kv 0 with
  | some (j, _) => kv.eraseIdx j
  | none => kv
variable {n : Nat} {ops : Array Oper} {N : K} {f : Nat → Value} {rest : List Oper} {d : Nat} {ty : TypeId} {p : String} {af : Array Edge} {x y z : Operand} {w0 : World} {S : List Nat} {L : List Res} {A : World → Prop}
def mapT (P : Program) (t : TypeId) : Option (TypeId × TypeId) := match P.underlying t with | some (.map k v) => some (k, v) | _ => none
end
section
variable {P : Program} {n : Nat} {ops : Array Oper} {N R : K} {X : List (Nat × K)} {f : Nat → Value} {A : World → Prop} {rest : List Oper}
variable {d : Nat} {ty : TypeId} {p : String} {af : Array Edge}
def QL (P : Program) (n : Nat) (ops : Array Oper) (l : List Oper) (N : K) (f : Nat → Value) (A : World → Prop) : Prop := ∀ w, A w → SL P n ops w (fun g => N g w) l f
theorem zDI {w0 : World} {S : List Nat} {L : List Res} {id : Nat} {l : List Oper} (hm : P.follows .mixedOrders = true) (hB : Region.lexB .any l.toArray = true) (h : QL P n l.toArray l N f (Own w0 S L)) : C P n (.region id l.toArray true) N R X f (Own w0 S L) :=
  fun w hw => jO hm hB (h _ hw.drawn)
theorem yS {w0 : World} {S : List Nat} {L : List Res} {id : Nat} {l : List Oper} {y : Code} (hm : P.follows .mixedOrders = true) (hB : Region.lexB .any l.toArray = true) (h : QL P n l.toArray l (fun f w => W P n y N R X f w) f (Own w0 S L)) : C P n (.seq (.region id l.toArray true) y) N R X f (Own w0 S L) :=
  zQ (zDI hm hB h)
theorem xV {c : Code} {M : K} (h : C P n c M R X f A) : QL P n ops [] (fun f w => W P n c M R X f w) f A := fun w hw => zEk (h w hw)
theorem zO {op : Op} {v : Value} (hd : Nat.blt d n = true) (hv : RV P f ⟨some d, op, ty, p, af, none⟩ A v) (k : QL P n ops rest N (upd f d v) A) : QL P n ops (⟨some d, op, ty, p, af, none⟩ :: rest) N f A :=
  fun w hw => zDz (hv w hw) hd (k w hw)
variable {e t : Nat} {l : List Oper}
end
def flatT (P : Program) (t : TypeId) : Option (List (Nat × Option (Option IntKind))) :=
  match P.underlying t with
  | some (.struct fs) => if P.stoodInHeld t then none else fs.toList.mapM fun (f : Field) => if f.name = "_" then none else
    match P.underlying f.type with
    | some (.int k) => some (f.offset, some (some k))
    | some .string => some (f.offset, some none)
    | some .bool => some (f.offset, none)
    | _ => none
  | _ => none
def eqC : Value → Value → Bool
  | .int _ a, .int _ b => decide (a = b)
  | .bool a, .bool b => decide (a = b)
  | .string a, .string b => decide (a = b)
  | _, _ => false
def zEL : Option (Option IntKind) → Value → Bool
  | some (some k), .int k' _ => k = k'
  | some none, .string _ => true
  | none, .bool _ => true
  | _, _ => false
def fitsK (ks : List (Nat × Option (Option IntKind))) (xs : List Value) : Bool := ks.all fun q => match xs[q.1]? with | some v => zEL q.2 v | none => false
def eqL (ks : List (Nat × Option (Option IntKind))) (xs ys : List Value) : Bool := ks.all fun q => match xs[q.1]?, ys[q.1]? with | some a, some b => eqC a b | _, _ => false
section
variable {P : Program}
variable {n : Nat} {ops : Array Oper} {N : K} {f : Nat → Value} {A : World → Prop} {rest : List Oper} {d : Nat} {ty : TypeId} {p : String} {af : Array Edge} {x y : Operand} {t t' : TypeId}
end
def isI (a : Int) : Prop := -9223372036854775808 ≤ a ∧ a ≤ 9223372036854775807
def isU (n : Nat) : Prop := n < 18446744073709551616
def u64 (a : Int) : Nat := (a % 18446744073709551616).toNat
theorem yl (a : Int) : u64 a < 18446744073709551616 := by unfold u64; omega
theorem y6 (a : Int) : IntKind.u64.wrap a = (u64 a : Int) := by
  unfold IntKind.wrap u64
  simp [IntKind.bits, IntKind.signed]
  omega
section
variable {w0 w : World} {S S' : List Nat} {L : List Res}
end
section
variable {P : Program} {n : Nat} {ops : Array Oper} {N R : K} {X : List (Nat × K)} {f : Nat → Value} {W : World → Prop} {w w0 : World} {S : List Nat} {L : List Res}
variable {d : Nat} {ty t : TypeId} {p : String} {af : Array Edge} {fuel : Nat} {listed : Array Bool} {x y : Operand}
end
end Go.Sc
