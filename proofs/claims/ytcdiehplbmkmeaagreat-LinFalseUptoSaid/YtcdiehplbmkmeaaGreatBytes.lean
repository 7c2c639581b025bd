import Derived.Test.YtcdiehplbmkmeaaGreatFwB
set_option linter.unusedSectionVars false
set_option linter.unusedSimpArgs false
set_option linter.unusedVariables false
namespace Go.Sc
def zi (n : Nat) : Nat := if n = 0 then 0 else n.log2 + 1
theorem zCS (n : Nat) : n < 2 ^ zi n := by
  unfold zi
  split
  · subst n; decide
  · exact Nat.lt_log2_self
theorem jg {n : Nat} (h : 0 < n) : 2 ^ (zi n - 1) ≤ n := by
  unfold zi
  rw [if_neg (by omega)]
  exact Nat.log2_self_le (by omega)
theorem zDq {n L : Nat} (h0 : 0 < n) (h1 : n < 2 ^ (L + 1)) (h2 : 2 ^ L ≤ n) : zi n = L + 1 := by
  have a1 := zCS n
  have a2 := jg h0
  have b1 : L < zi n := (Nat.pow_lt_pow_iff_right (by omega)).1 (Nat.lt_of_le_of_lt h2 a1)
  have b2 : zi n - 1 < L + 1 := (Nat.pow_lt_pow_iff_right (by omega)).1 (Nat.lt_of_le_of_lt a2 h1)
  omega
theorem zBa {n : Nat} (h : 0 < n) : 0 < zi n := by unfold zi; rw [if_neg (by omega)]; omega
theorem jE {n k : Nat} (h : 2 ^ k ≤ n) : zi n = zi (n / 2 ^ k) + k := by
  have hp : 0 < 2 ^ k := Nat.two_pow_pos k
  have hm : 0 < n / 2 ^ k := Nat.div_pos h hp
  have a1 := zCS (n / 2 ^ k)
  have a2 := jg hm
  have a3 := zBa hm
  have e : zi n = (zi (n / 2 ^ k) - 1 + k) + 1 := by
    refine zDq (by omega) ?_ ?_
    · have : n < 2 ^ zi (n / 2 ^ k) * 2 ^ k := (Nat.div_lt_iff_lt_mul hp).1 a1
      rw [← Nat.pow_add] at this
      rw [show zi (n / 2 ^ k) - 1 + k + 1 = zi (n / 2 ^ k) + k by omega]
      exact this
    · rw [Nat.pow_add]
      exact (Nat.le_div_iff_mul_le hp).1 a2
  omega
theorem xO {n k : Nat} (h : n < 2 ^ k) : zi n ≤ k := by
  by_cases h0 : n = 0
  · subst h0; simp [zi]
  · have := jg (Nat.pos_of_ne_zero h0)
    have := (Nat.pow_lt_pow_iff_right (a := 2) (by omega)).1 (Nat.lt_of_le_of_lt this h)
    omega
def lenTabL : List UInt8 := 0 :: 1 :: List.replicate 2 2 ++ List.replicate 4 3 ++ List.replicate 8 4 ++ List.replicate 16 5 ++ List.replicate 32 6 ++ List.replicate 64 7 ++ List.replicate 128 8
theorem zFf : ∀ m : Fin 256, (lenTabL[m.val]?.map UInt8.toNat) = some (zi m.val) := by decide +kernel
def yc (n : Nat) : Nat := (zi n + 7) / 8
theorem zBr {n : Nat} (h : n < 18446744073709551616) : yc n ≤ 8 := by
  have := xO (n := n) (k := 64) h
  unfold yc; omega
def be (n : Nat) : Nat → List UInt8
  | 0 => []
  | k + 1 => UInt8.ofNat (n / 2 ^ (8 * k)) :: be n k
theorem zAr (n : Nat) : ∀ k, (be n k).length = k
  | 0 => rfl
  | k + 1 => by simp [be, zAr n k]
def num (n : Nat) : List UInt8 := UInt8.ofNat (yc n) :: be n (yc n)
theorem zEW (n : Nat) : (num n).length = yc n + 1 := by simp [num, zAr]
theorem zGN {n : Nat} (h : n < 18446744073709551616) : (num n).length ≤ 9 := by rw [zEW]; have := zBr h; omega
def dat (d : List UInt8) : List UInt8 := num d.length ++ d
theorem zBn (m : Nat) : vb (UInt8.ofNat m) = .int .u8 ((m % 256 : Nat) : Int) := by simp [vb]
end Go.Sc
