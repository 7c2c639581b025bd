/-
  THE WALKS OF the reference's writers: PutNum, PutBytes, Out.Num, Out.Data, Out.Flag, Out.ids.
-/
import Derived.Test.YtlkoekhjegaimaaGreatOutS
set_option linter.unusedVariables false
set_option maxRecDepth 10000
namespace Go.Proofs.YtlkoekhjegaimaaGreat
open Go Go.Sc Go.Proofs

/-- The lowest k bytes, the lowest of them first. -/
def le (n : Nat) : Nat → List UInt8
  | 0 => []
  | k + 1 => le n k ++ [UInt8.ofNat (n / 256 ^ k)]
theorem le_length (n : Nat) : ∀ k, (le n k).length = k
  | 0 => rfl
  | k + 1 => by simp [le, le_length n k]
theorem le_rev (n : Nat) : ∀ k, (le n k).reverse = be n k
  | 0 => rfl
  | k + 1 => by
    have e : (256 : Nat) ^ k = 2 ^ (8 * k) := by rw [Nat.pow_mul]
    simp [le, be, le_rev n k, e]
theorem byteLen_zero : byteLen 0 = 0 := by simp [byteLen, bitLen]
theorem byteLen_step {m : Nat} (h : 0 < m) : byteLen m = byteLen (m / 256) + 1 := by
  by_cases h8 : 256 ≤ m
  · have := bitLen_shift (n := m) (k := 8) h8
    unfold byteLen
    rw [this]
    show (bitLen (m / 256) + 8 + 7) / 8 = (bitLen (m / 256) + 7) / 8 + 1
    omega
  · have e : m / 256 = 0 := by omega
    rw [e, byteLen_zero]
    have h1 := bitLen_pos h
    have h2 := bitLen_le_of_lt (n := m) (k := 8) (by omega)
    unfold byteLen
    omega
theorem dat_length (d : List UInt8) (h : d.length < 18446744073709551616) : (dat d).length ≤ d.length + 9 := by
  have := num_le h
  simp [dat]; omega

theorem rev_end {w w' : World} {S : List Nat} {o : Value} {n k j : Nat} (hj : j = 0) (hl : (le n k).length = k) (hk : k = byteLen n) (h : Own w S [Res.vec 5 1 o (UInt8.ofNat (le n k).length :: ((le n k).drop j).reverse).length ((UInt8.ofNat (le n k).length :: ((le n k).drop j).reverse).map vb)] w') : Own w S [Res.vec 5 1 o (num n).length ((num n).map vb)] w' := by
  subst hj
  rw [List.drop_zero, le_rev, hl, hk] at h
  exact h

-- no function scupper/scupperref01.PutNum

-- no function scupper/scupperref01.PutBytes
-- no function (*scupper/scupperref03.Out).Num
-- no function (*scupper/scupperref03.Out).Data
-- no function (*scupper/scupperref03.Out).Flag
theorem flatMap_take_le {α β : Type} (f : α → List β) (l : List α) (k : Nat) : ((l.take k).flatMap f).length ≤ (l.flatMap f).length := by
  have : l.flatMap f = (l.take k).flatMap f ++ (l.drop k).flatMap f := by rw [← List.flatMap_append, List.take_append_drop]
  rw [this, List.length_append]; omega
-- no function (*scupper/scupperref03.Out).ids
end Go.Proofs.YtlkoekhjegaimaaGreat
