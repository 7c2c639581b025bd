/-
  NUMBERS AND LISTS OF BYTES AS BYTES: plain. No program in sight.
-/
import Derived.Test.YtgcmbdgimepnmaaGreatFwE
set_option linter.unusedVariables false
namespace Go.Sc

/-- How many bits a number has. -/
def bitLen (n : Nat) : Nat := if n = 0 then 0 else n.log2 + 1
theorem bitLen_lt (n : Nat) : n < 2 ^ bitLen n := by
  unfold bitLen
  split
  · subst n; decide
  · exact Nat.lt_log2_self
theorem bitLen_le {n : Nat} (h : 0 < n) : 2 ^ (bitLen n - 1) ≤ n := by
  unfold bitLen
  rw [if_neg (by omega)]
  exact Nat.log2_self_le (by omega)
theorem bitLen_uniq {n L : Nat} (h0 : 0 < n) (h1 : n < 2 ^ (L + 1)) (h2 : 2 ^ L ≤ n) : bitLen n = L + 1 := by
  have a1 := bitLen_lt n
  have a2 := bitLen_le h0
  have b1 : L < bitLen n := (Nat.pow_lt_pow_iff_right (by omega)).1 (Nat.lt_of_le_of_lt h2 a1)
  have b2 : bitLen n - 1 < L + 1 := (Nat.pow_lt_pow_iff_right (by omega)).1 (Nat.lt_of_le_of_lt a2 h1)
  omega
theorem bitLen_pos {n : Nat} (h : 0 < n) : 0 < bitLen n := by unfold bitLen; rw [if_neg (by omega)]; omega
theorem bitLen_shift {n k : Nat} (h : 2 ^ k ≤ n) : bitLen n = bitLen (n / 2 ^ k) + k := by
  have hp : 0 < 2 ^ k := Nat.two_pow_pos k
  have hm : 0 < n / 2 ^ k := Nat.div_pos h hp
  have a1 := bitLen_lt (n / 2 ^ k)
  have a2 := bitLen_le hm
  have a3 := bitLen_pos hm
  have e : bitLen n = (bitLen (n / 2 ^ k) - 1 + k) + 1 := by
    refine bitLen_uniq (by omega) ?_ ?_
    · have : n < 2 ^ bitLen (n / 2 ^ k) * 2 ^ k := (Nat.div_lt_iff_lt_mul hp).1 a1
      rw [← Nat.pow_add] at this
      rw [show bitLen (n / 2 ^ k) - 1 + k + 1 = bitLen (n / 2 ^ k) + k by omega]
      exact this
    · rw [Nat.pow_add]
      exact (Nat.le_div_iff_mul_le hp).1 a2
  omega
theorem bitLen_le_of_lt {n k : Nat} (h : n < 2 ^ k) : bitLen n ≤ k := by
  by_cases h0 : n = 0
  · subst h0; simp [bitLen]
  · have := bitLen_le (Nat.pos_of_ne_zero h0)
    have := (Nat.pow_lt_pow_iff_right (a := 2) (by omega)).1 (Nat.lt_of_le_of_lt this h)
    omega

def lenTabL : List UInt8 := 0 :: 1 :: List.replicate 2 2 ++ List.replicate 4 3 ++ List.replicate 8 4 ++ List.replicate 16 5 ++ List.replicate 32 6 ++ List.replicate 64 7 ++ List.replicate 128 8
theorem lenTab_at : ∀ m : Fin 256, (lenTabL[m.val]?.map UInt8.toNat) = some (bitLen m.val) := by decide +kernel

/-- How many bytes. -/
def byteLen (n : Nat) : Nat := (bitLen n + 7) / 8
theorem byteLen_le {n : Nat} (h : n < 18446744073709551616) : byteLen n ≤ 8 := by
  have := bitLen_le_of_lt (n := n) (k := 64) h
  unfold byteLen; omega
/-- The lowest k bytes, the highest of them first. -/
def be (n : Nat) : Nat → List UInt8
  | 0 => []
  | k + 1 => UInt8.ofNat (n / 2 ^ (8 * k)) :: be n k
theorem be_length (n : Nat) : ∀ k, (be n k).length = k
  | 0 => rfl
  | k + 1 => by simp [be, be_length n k]
/-- A number's bytes. -/
def num (n : Nat) : List UInt8 := UInt8.ofNat (byteLen n) :: be n (byteLen n)
theorem num_length (n : Nat) : (num n).length = byteLen n + 1 := by simp [num, be_length]
theorem num_le {n : Nat} (h : n < 18446744073709551616) : (num n).length ≤ 9 := by rw [num_length]; have := byteLen_le h; omega
/-- A list's bytes. -/
def dat (d : List UInt8) : List UInt8 := num d.length ++ d

theorem vb_ofNat (m : Nat) : vb (UInt8.ofNat m) = .int .u8 ((m % 256 : Nat) : Int) := by simp [vb]

end Go.Sc
