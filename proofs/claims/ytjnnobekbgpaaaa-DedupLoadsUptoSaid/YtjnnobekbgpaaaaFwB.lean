/-
  MORE ON WHAT IS OWNED: a wider frame; something old that is taken in.
-/
import Derived.Test.YtjnnobekbgpaaaaFwE
import Derived.Test.YtjnnobekbgpaaaaFwQ
set_option linter.unusedVariables false
namespace Go.Sc
def isI (a : Int) : Prop := -9223372036854775808 ≤ a ∧ a ≤ 9223372036854775807
def isU (n : Nat) : Prop := n < 18446744073709551616
/-- A whole number as 64 bits. -/
def u64 (a : Int) : Nat := (a % 18446744073709551616).toNat
theorem u64_lt (a : Int) : u64 a < 18446744073709551616 := by unfold u64; omega
theorem wrap_u64 (a : Int) : IntKind.u64.wrap a = (u64 a : Int) := by
  unfold IntKind.wrap u64
  simp [IntKind.bits, IntKind.signed]
  omega

section
variable {w0 w : World} {S S' : List Nat} {L : List Res}
theorem Own.wider (hS : ∀ b ∈ S, b ∈ S') (h : Own w0 S L w) : Own w0 S' L w :=
  ⟨h.keep.mono hS, h.apart, h.holds, fun i r hr b hb => (h.fresh i r hr b hb).imp (hS b) id⟩
theorem Own.adopt (r : Res) (h0 : r.φ w0) (hS : ∀ b ∈ r.fp, b ∉ S) (h : Own w0 S L w) : Own w0 (S ++ r.fp) (L ++ [r]) w := by
  have hr : r.φ w := h.old r h0 hS
  have far : ∀ (i : Nat) (s : Res), L[i]? = some s → ∀ b ∈ s.fp, b ∉ r.fp := by
    intro i s hs b hb hb'
    rcases h.fresh i s hs b hb with h1 | h1
    · exact hS b hb' h1
    · have := r.lt w0 h0 b hb'; omega
  have at_ : ∀ (i : Nat) (s : Res), (L ++ [r])[i]? = some s → L[i]? = some s ∨ (i = L.length ∧ s = r) := by
    intro i s hs
    rw [List.getElem?_append] at hs
    split at hs
    · exact .inl hs
    · have : i - L.length = 0 := by
        cases hk : i - L.length with
        | zero => rfl
        | succ k => rw [hk] at hs; simp at hs
      rw [this] at hs; simp at hs
      exact .inr ⟨by omega, hs.symm⟩
  refine ⟨h.keep.mono (by intro b hb; simp [hb]), ?_, ?_, ?_⟩
  · intro i j s t hij hs ht
    rcases at_ i s hs with h1 | ⟨h1, rfl⟩ <;> rcases at_ j t ht with h2 | ⟨h2, rfl⟩
    · exact h.apart i j s t hij h1 h2
    · exact far i s h1
    · exact fun b hb hb' => far j t h2 b hb' hb
    · omega
  · intro i s hs
    rcases at_ i s hs with h1 | ⟨h1, rfl⟩
    · exact h.holds i s h1
    · exact hr
  · intro i s hs b hb
    rcases at_ i s hs with h1 | ⟨h1, rfl⟩
    · exact (h.fresh i s h1 b hb).imp (fun h => by simp [h]) id
    · exact .inl (by simp [hb])
end
section
variable {P : Program} {n : Nat} {ops : Array Oper} {N R : K} {X : List (Nat × K)} {f : Nat → Value} {W : World → Prop} {w w0 : World} {S : List Nat} {L : List Res}
variable {d : Nat} {ty t : TypeId} {p : String} {af : Array Edge} {fuel : Nat} {listed : Array Bool} {x y : Operand}
/-- A cell of a row that is owned is written, in a region that draws. -/
theorem h_st (i j : Nat) {b off : Nat} {e : TypeId} {cs : List Value} {v : Value} (hr : Region.ready .any ops listed = [i]) (hi : ops[i]? = some ⟨none, .store t x y, ty, p, af, none⟩)
    (hx : ev f x = .pointer (some ⟨b, off, none⟩)) (hy : ev f y = v) (hw : Own w0 S L w) (hL : L[j]? = some (Res.row b e cs)) (ht : sizeT P t = some 1) (hv : cell1 v = true) (ho : off < cs.length)
    (kk : ∀ w', Own w0 S (L.set j (Res.row b e (cs.set off v))) w' → W w' ∧ HL P n ops W N fuel (listed.setIfInBounds i true) f w') : HL P n ops W N (fuel + 1) listed f w := by
  simp only [sizeT, Option.map_eq_some_iff] at ht
  obtain ⟨i0, hi0, hs0⟩ := ht
  have hr' : Row w b e cs := hw.holds j _ hL
  obtain ⟨u, hu⟩ : ∃ u, cs[off]? = some u := ⟨cs[off], by simp [ho]⟩
  have hst := run_storeVar1 (P := P) hi0 hs0 (w := w) (b := b) (off := off) hv (hr'.cell hu) (hr'.free ho)
  obtain ⟨h1, h2⟩ := kk _ (hw.setRow hL v)
  refine h_skip (w' := w.setCell ⟨b, off, none⟩ v) i hr hi ?_ h1 h2
  simp [execOp, hx, hy, Instr.storeAt, Instr.sureAddr, hst]
end
end Go.Sc
