import Derived.Test.YtcdiehplbmkmeaaGreatFwB
set_option linter.unusedSectionVars false
set_option linter.unusedSimpArgs false
set_option linter.unusedVariables false
namespace Go.Sc
def zg (n : Nat) : Nat := if n = 0 then 0 else n.log2 + 1
theorem zCZ (n : Nat) : n < 2 ^ zg n := by
  unfold zg
  split
  · subst n; decide
  · exact Nat.lt_log2_self
theorem jl {n : Nat} (h : 0 < n) : 2 ^ (zg n - 1) ≤ n := by
  unfold zg
  rw [if_neg (by omega)]
  exact Nat.log2_self_le (by omega)
theorem zDa {n L : Nat} (h0 : 0 < n) (h1 : n < 2 ^ (L + 1)) (h2 : 2 ^ L ≤ n) : zg n = L + 1 := by
  have a1 := zCZ n
  have a2 := jl h0
  have b1 : L < zg n := (Nat.pow_lt_pow_iff_right (by omega)).1 (Nat.lt_of_le_of_lt h2 a1)
  have b2 : zg n - 1 < L + 1 := (Nat.pow_lt_pow_iff_right (by omega)).1 (Nat.lt_of_le_of_lt a2 h1)
  omega
theorem zBa {n : Nat} (h : 0 < n) : 0 < zg n := by unfold zg; rw [if_neg (by omega)]; omega
theorem jB {n k : Nat} (h : 2 ^ k ≤ n) : zg n = zg (n / 2 ^ k) + k := by
  have hp : 0 < 2 ^ k := Nat.two_pow_pos k
  have hm : 0 < n / 2 ^ k := Nat.div_pos h hp
  have a1 := zCZ (n / 2 ^ k)
  have a2 := jl hm
  have a3 := zBa hm
  have e : zg n = (zg (n / 2 ^ k) - 1 + k) + 1 := by
    refine zDa (by omega) ?_ ?_
    · have : n < 2 ^ zg (n / 2 ^ k) * 2 ^ k := (Nat.div_lt_iff_lt_mul hp).1 a1
      rw [← Nat.pow_add] at this
      rw [show zg (n / 2 ^ k) - 1 + k + 1 = zg (n / 2 ^ k) + k by omega]
      exact this
    · rw [Nat.pow_add]
      exact (Nat.le_div_iff_mul_le hp).1 a2
  omega
theorem xM {n k : Nat} (h : n < 2 ^ k) : zg n ≤ k := by
  by_cases h0 : n = 0
  · subst h0; simp [zg]
  · have := jl (Nat.pos_of_ne_zero h0)
    have := (Nat.pow_lt_pow_iff_right (a := 2) (by omega)).1 (Nat.lt_of_le_of_lt this h)
    omega
def lenTabL : List UInt8 := 0 :: 1 :: List.replicate 2 2 ++ List.replicate 4 3 ++ List.replicate 8 4 ++ List.replicate 16 5 ++ List.replicate 32 6 ++ List.replicate 64 7 ++ List.replicate 128 8
theorem zFY : ∀ m : Fin 256, (lenTabL[m.val]?.map UInt8.toNat) = some (zg m.val) := by decide +kernel
def yf (n : Nat) : Nat := (zg n + 7) / 8
theorem zBe {n : Nat} (h : n < 18446744073709551616) : yf n ≤ 8 := by
  have := xM (n := n) (k := 64) h
  unfold yf; omega
def be (n : Nat) : Nat → List UInt8
  | 0 => []
  | k + 1 => UInt8.ofNat (n / 2 ^ (8 * k)) :: be n k
theorem zAo (n : Nat) : ∀ k, (be n k).length = k
  | 0 => rfl
  | k + 1 => by simp [be, zAo n k]
def num (n : Nat) : List UInt8 := UInt8.ofNat (yf n) :: be n (yf n)
theorem zDu (n : Nat) : (num n).length = yf n + 1 := by simp [num, zAo]
theorem zGH {n : Nat} (h : n < 18446744073709551616) : (num n).length ≤ 9 := by rw [zDu]; have := zBe h; omega
def dat (d : List UInt8) : List UInt8 := num d.length ++ d
theorem zBg (m : Nat) : vb (UInt8.ofNat m) = .int .u8 ((m % 256 : Nat) : Int) := by simp [vb]
end Go.Sc
