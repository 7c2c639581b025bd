import Derived.Test.YtkkeknmkipkbmaaGreatFwR
import Derived.Test.YtkkeknmkipkbmaaGreatSrt
set_option linter.unusedSimpArgs false
set_option linter.unusedVariables false
set_option linter.unusedSectionVars false
namespace Go.Sc
def S1 (s : ByteArray) : List Value := [.string s]
def sLt (a b : ByteArray) : Prop := a.toList < b.toList
def sLe (a b : ByteArray) : Prop := ¬ sLt b a
instance (a b : ByteArray) : Decidable (sLt a b) := inferInstanceAs (Decidable (_ < _))
instance (a b : ByteArray) : Decidable (sLe a b) := inferInstanceAs (Decidable (¬ _))
theorem zA4 (a : ByteArray) : ¬ sLt a a := List.lt_irrefl _
theorem jY {a b c : ByteArray} (h : sLt a b) (k : sLt b c) : sLt a c := List.lt_trans h k
theorem zBc {a b : ByteArray} (h : sLt a b) : ¬ sLt b a := fun k => zA4 _ (jY h k)
theorem zEG {a b : ByteArray} (h : a.toList = b.toList) : a = b := of_decide_eq_true (jt a b ▸ (by rw [h]; simp))
theorem zDZ {a b : ByteArray} (h : ¬ sLt a b) (k : ¬ sLt b a) : a = b := zEG (List.le_antisymm (List.not_lt.1 k) (List.not_lt.1 h))
theorem zEI {a b c : ByteArray} (h : ¬ sLt b a) (k : ¬ sLt c b) : ¬ sLt c a := fun q => by
  by_cases e : sLt a b
  · exact k (jY q e)
  · exact k (by rw [← zDZ e h]; exact q)
instance : SO ByteArray := ⟨sLt, fun a b => inferInstance, zBc, zEI⟩
section
variable {P : Program} {n : Nat} {ops : Array Oper} {N : K} {f : Nat → Value} {rest : List Oper} {d : Nat} {t ty : TypeId} {p : String} {af : Array Edge} {x y : Operand} {A : World → Prop}
variable {s u : ByteArray} {t' : TypeId}
end
section
variable {P : Program} {n : Nat} {ops : Array Oper} {N : K} {f : Nat → Value} {rest : List Oper} {d : Nat} {t ty e : TypeId} {p : String} {af : Array Edge} {x y : Operand} {w0 : World} {S : List Nat} {L : List Res}
end
open Go
section
variable {P : Program} {n : Nat} {ops : Array Oper} {N R : K} {X : List (Nat × K)} {f : Nat → Value} {A : World → Prop} {rest : List Oper} {w0 : World} {S : List Nat} {L : List Res}
variable {d : Nat} {ty : TypeId} {p : String} {af : Array Edge} {x y : Operand} {t e : TypeId}
def zFL (P : Program) (t : TypeId) : Option (List Value × Nat) :=
  match P.underlying t, (P.info? t).bind (·.zero) with
  | some (.array _ e), some z => (P.info? e).map fun i => (z.cells.toList, i.size)
  | _, _ => none
theorem v_bldA {z : List Value} {sz : Nat} {parts : List (Nat × Operand)} {cs : List Value} (hs : zFL P t = some (z, sz)) (hf : xM (fun i => some (i * sz, sz)) z (parts.map fun q => (q.1, ev f q.2)) = some cs) : RV P f ⟨some d, .build t parts.toArray, ty, p, af, none⟩ A (.agg cs.toArray) :=
  fun w _ => by
    unfold zFL at hs
    split at hs
    · rename_i m e z0 hu hz
      simp only [Option.map_eq_some_iff, Prod.mk.injEq] at hs
      obtain ⟨i, hi, rfl, rfl⟩ := hs
      simp only [Option.bind_eq_some_iff] at hz
      obtain ⟨i0, hi0, hz0⟩ := hz
      have h2 := x6 _ _ _ _ hf
      simp only [Array.toArray_toList] at h2
      simp [execOp, Instr.build, zeroValue, typeInfo, sizeOf, hi0, hz0, hi, zg hu, h2]
    · cases hs
def zD1 (P : Program) (t : TypeId) (i : Nat) : Option Nat :=
  match P.underlying t with
  | some (.struct fs) => (fs[i]?).bind fun f => if one P f.type then some f.offset else none
  | _ => none
theorem zET {o i : Nat} {cs : Array Value} {v : Value} (hx : ev f x = .agg cs) (ho : zD1 P t i = some o) (hv : cs[o]? = some v) : RV P f ⟨some d, .field t x i, ty, p, af, none⟩ A v :=
  fun w _ => by
    unfold zD1 at ho
    split at ho
    · rename_i fs hfs
      simp only [Option.bind_eq_some_iff] at ho
      obtain ⟨fl, hfl, ho⟩ := ho
      split at ho
      · rename_i h1
        cases ho
        obtain ⟨h2, i0, hi0, hs0⟩ := zAB h1
        simp [execOp, hx, Instr.field, zg hfs, hfl, asAgg, part, h2, sizeOf, typeInfo, hi0, hs0, hv]
      · cases ho
    · cases ho
theorem zD5 {o i : Nat} {cs : Array Value} {v : Value} (hx : ev f x = .agg cs) (ho : zD1 P t i = some o) (hv : cs[o]? = some v) (hd : Nat.blt d n = true) (k : CL P n ops rest N (upd f d v) A) : CL P n ops (⟨some d, .field t x i, ty, p, af, none⟩ :: rest) N f A := zp hd (zET hx ho hv) k
theorem zFQ {fn : Func} {R : Value → World → Prop} {t u u2 u3 : Tmp} {T : TypeId} {b : Nat} {cs : List Value} {v v2 v3 : Value} (hr : fn.results = #[.cell t T, .tmp u, .tmp u2, .tmp u3]) (hv : f t = .pointer (some ⟨b, 0, none⟩)) (hv' : f u = v) (hv2 : f u2 = v2) (hv3 : f u3 = v3) (ht : xB P T = some cs.length) (hc : ∀ w, A w → ∀ i u, cs[i]? = some u → w.cell? ⟨b, 0 + i, none⟩ = some u)
    (h : ∀ w, A w → R (.tuple #[.agg cs.toArray, v, v2, v3]) w) : ∀ w, A w → ka P fn n R f w :=
  fun w hw => ⟨_, fun a ha => by
    have := yL (P := P) ht (hc w hw)
    simp [results, hr, ha.get, hv, hv', hv2, hv3, asAddr, this], h w hw⟩
end
end Go.Sc
