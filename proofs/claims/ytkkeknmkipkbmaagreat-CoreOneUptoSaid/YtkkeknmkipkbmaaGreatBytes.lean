import Derived.Test.YtkkeknmkipkbmaaGreatFwB
set_option linter.unusedSectionVars false
set_option linter.unusedSimpArgs false
set_option linter.unusedVariables false
namespace Go.Sc
def zb (n : Nat) : Nat := if n = 0 then 0 else n.log2 + 1
theorem jj (n : Nat) : n < 2 ^ zb n := by
  unfold zb
  split
  · subst n; decide
  · exact Nat.lt_log2_self
theorem kO {n : Nat} (h : 0 < n) : 2 ^ (zb n - 1) ≤ n := by
  unfold zb
  rw [if_neg (by omega)]
  exact Nat.log2_self_le (by omega)
theorem zAD {n L : Nat} (h0 : 0 < n) (h1 : n < 2 ^ (L + 1)) (h2 : 2 ^ L ≤ n) : zb n = L + 1 := by
  have a1 := jj n
  have a2 := kO h0
  have b1 : L < zb n := (Nat.pow_lt_pow_iff_right (by omega)).1 (Nat.lt_of_le_of_lt h2 a1)
  have b2 : zb n - 1 < L + 1 := (Nat.pow_lt_pow_iff_right (by omega)).1 (Nat.lt_of_le_of_lt a2 h1)
  omega
theorem zAs {n : Nat} (h : 0 < n) : 0 < zb n := by unfold zb; rw [if_neg (by omega)]; omega
theorem xL {n k : Nat} (h : 2 ^ k ≤ n) : zb n = zb (n / 2 ^ k) + k := by
  have hp : 0 < 2 ^ k := Nat.two_pow_pos k
  have hm : 0 < n / 2 ^ k := Nat.div_pos h hp
  have a1 := jj (n / 2 ^ k)
  have a2 := kO hm
  have a3 := zAs hm
  have e : zb n = (zb (n / 2 ^ k) - 1 + k) + 1 := by
    refine zAD (by omega) ?_ ?_
    · have : n < 2 ^ zb (n / 2 ^ k) * 2 ^ k := (Nat.div_lt_iff_lt_mul hp).1 a1
      rw [← Nat.pow_add] at this
      rw [show zb (n / 2 ^ k) - 1 + k + 1 = zb (n / 2 ^ k) + k by omega]
      exact this
    · rw [Nat.pow_add]
      exact (Nat.le_div_iff_mul_le hp).1 a2
  omega
theorem yz {n k : Nat} (h : n < 2 ^ k) : zb n ≤ k := by
  by_cases h0 : n = 0
  · subst h0; simp [zb]
  · have := kO (Nat.pos_of_ne_zero h0)
    have := (Nat.pow_lt_pow_iff_right (a := 2) (by omega)).1 (Nat.lt_of_le_of_lt this h)
    omega
def lenTabL : List UInt8 := 0 :: 1 :: List.replicate 2 2 ++ List.replicate 4 3 ++ List.replicate 8 4 ++ List.replicate 16 5 ++ List.replicate 32 6 ++ List.replicate 64 7 ++ List.replicate 128 8
theorem zBt : ∀ m : Fin 256, (lenTabL[m.val]?.map UInt8.toNat) = some (zb m.val) := by decide +kernel
def z9 (n : Nat) : Nat := (zb n + 7) / 8
theorem jG {n : Nat} (h : n < 18446744073709551616) : z9 n ≤ 8 := by
  have := yz (n := n) (k := 64) h
  unfold z9; omega
def be (n : Nat) : Nat → List UInt8
  | 0 => []
  | k + 1 => UInt8.ofNat (n / 2 ^ (8 * k)) :: be n k
theorem kK (n : Nat) : ∀ k, (be n k).length = k
  | 0 => rfl
  | k + 1 => by simp [be, kK n k]
def num (n : Nat) : List UInt8 := UInt8.ofNat (z9 n) :: be n (z9 n)
theorem zA7 (n : Nat) : (num n).length = z9 n + 1 := by simp [num, kK]
theorem zCk {n : Nat} (h : n < 18446744073709551616) : (num n).length ≤ 9 := by rw [zA7]; have := jG h; omega
def dat (d : List UInt8) : List UInt8 := num d.length ++ d
theorem jB (m : Nat) : vb (UInt8.ofNat m) = .int .u8 ((m % 256 : Nat) : Int) := by simp [vb]
end Go.Sc
