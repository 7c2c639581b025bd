import Derived.Test.YthincafbmpialaaGreatSrt
import Derived.Test.YthincafbmpialaaGreatFwU
import Derived.Test.YthincafbmpialaaGreatRefW
import Derived.Test.YthincafbmpialaaGreatChecked
set_option linter.unusedSectionVars false
set_option linter.unusedSimpArgs false
set_option linter.unusedVariables false
set_option maxRecDepth 10000
namespace Go.Proofs.YthincafbmpialaaGreat
open Go Go.Sc Go.Proofs
theorem vi {a b : Int} (h : a = b) : Value.int .i64 a = Value.int .i64 b := by rw [h]
theorem wsi {a b : Nat} (h : b ≤ a) (h2 : a < 9223372036854775808) : IntKind.i64.wrap ((a : Int) - (b : Int)) = ((a - b : Nat) : Int) := by
  rw [show (a : Int) - (b : Int) = ((a - b : Nat) : Int) by omega]; exact zt (by omega)
theorem kS {a : Nat} (h : 1 ≤ a) (h2 : a < 9223372036854775808) : IntKind.i64.wrap ((a : Int) - 1) = ((a - 1 : Nat) : Int) := wsi (b := 1) h h2
theorem qui {a b : Nat} (h : a < 9223372036854775808) : IntKind.i64.wrap ((a : Int).tdiv (b : Int)) = ((a / b : Nat) : Int) := by
  have : (a : Int).tdiv (b : Int) = ((a / b : Nat) : Int) := rfl
  rw [this]
  have h2 := Nat.div_le_self a b
  generalize a / b = c at h2 ⊢
  exact zt (by omega)
theorem zML {α : Type} [Inhabited α] [SO α] {m : List α} {f r hi : Nat} (h : olt (zI m (f + (2 * r + 1))) (zI m (f + (2 * r + 1) + 1))) : ∀ c', c' = 2 * r + 1 ∨ c' = 2 * r + 2 → c' < hi → x6 (zI m (f + c')) (zI m (f + (2 * r + 1 + 1))) := by
  intro c' h1 _
  rw [show f + (2 * r + 1) + 1 = f + (2 * r + 1 + 1) by omega] at h
  rcases h1 with rfl | rfl
  · exact xr h
  · exact k9 _
theorem zJY {α : Type} [Inhabited α] [SO α] {m : List α} {f r hi : Nat} (h : 2 * r + 1 + 1 < hi → ¬ olt (zI m (f + (2 * r + 1))) (zI m (f + (2 * r + 1) + 1))) : ∀ c', c' = 2 * r + 1 ∨ c' = 2 * r + 2 → c' < hi → x6 (zI m (f + c')) (zI m (f + (2 * r + 1))) := by
  intro c' h1 h2
  rcases h1 with rfl | rfl
  · exact k9 _
  · have := h (by omega)
    rw [show f + (2 * r + 1) + 1 = f + (2 * r + 2) by omega] at this
    exact this
def zLk (a b : Int) : Int := IntKind.u64.wrap (((a % 2 ^ IntKind.u64.bits).toNat ^^^ (b % 2 ^ IntKind.u64.bits).toNat : Nat) : Int)
def zB7 (a b : Int) : Int := IntKind.u64.wrap (a * 2 ^ (min b.toNat IntKind.u64.bits))
def zI8 (a b : Int) : Int := a.fdiv (2 ^ (min b.toNat IntKind.u64.bits))
def xs1 (x : Int) : Int := zLk x (zB7 x 13)
def jX (x : Int) : Int := zLk (xs1 x) (zI8 (xs1 x) 7)
def jl (x : Int) : Int := zLk (jX x) (zB7 (jX x) 17)
theorem zDx {n : Nat} (h : n ≤ 1000000000000) : zx n ≤ 40 := xe (by have : (2 : Nat) ^ 40 = 1099511627776 := rfl; omega)
theorem zKL {n : Nat} (h : n ≤ 1000000000000) : IntKind.u64.wrap ((1 : Int) * 2 ^ (min ((zx n : Nat) : Int).toNat IntKind.u64.bits)) = ((2 ^ zx n : Nat) : Int) := by
  have h1 := zDx h
  have e : min ((zx n : Nat) : Int).toNat IntKind.u64.bits = zx n := by
    rw [Int.toNat_natCast]; show min _ 64 = _; omega
  have h2 : 2 ^ zx n ≤ 2 ^ 40 := Nat.pow_le_pow_right (by decide) h1
  have h3 : (2 : Nat) ^ 40 = 1099511627776 := rfl
  rw [e, Int.one_mul, show ((2 : Int) ^ zx n) = ((2 ^ zx n : Nat) : Int) by rw [Int.natCast_pow]; rfl]
  generalize 2 ^ zx n = z at h2 ⊢
  exact kY (by omega)
theorem zMg {n : Nat} (h : 0 < n) : 2 ^ zx n ≤ 2 * n ∧ 0 < 2 ^ zx n := by
  have h1 := jg h
  have h2 := zCz h
  refine ⟨?_, Nat.pow_pos (by decide)⟩
  rw [show zx n = (zx n - 1) + 1 by omega, Nat.pow_succ]
  omega
theorem zJf {y : Int} {m : Nat} (h : 0 < m) (hm : m ≤ 4000000000000) : ((y % 18446744073709551616).toNat &&& (m - 1)) < m := by
  have := Nat.and_le_right (n := (y % 18446744073709551616).toNat) (m := m - 1)
  omega
theorem zJL {y : Int} {m : Nat} (h : 0 < m) (hm : m ≤ 4000000000000) : IntKind.u64.wrap (((y % 2 ^ IntKind.u64.bits).toNat &&& (((m - 1 : Nat) : Int) % 2 ^ IntKind.u64.bits).toNat : Nat) : Int) = (((y % 18446744073709551616).toNat &&& (m - 1) : Nat) : Int) := by
  have e : ((((m - 1 : Nat) : Int)) % 2 ^ IntKind.u64.bits).toNat = m - 1 := by
    show ((((m - 1 : Nat) : Int)) % 18446744073709551616).toNat = m - 1
    omega
  have e2 : (y % 2 ^ IntKind.u64.bits).toNat = (y % 18446744073709551616).toNat := rfl
  rw [e, e2]
  have := zJf (y := y) h hm
  exact kY (by omega)
theorem zKS (n : Nat) (w : World) (hn : n < 18446744073709551616) : Rets Tryz.prog 80 #[.int .u64 (n : Nat)] w fun u_ w' => u_ = .int .i64 ((zx n) : Nat) ∧ Own w [] [] w' := by
  exact zC2 n hn w
theorem zLN (n : Nat) (w : World) (hn : n < 18446744073709551616) : Rets Tryz.prog 128 #[.int .u64 (n : Nat)] w fun u_ w' => u_ = .int .i64 ((zx n) : Nat) ∧ Own w [] [] w' := by
  refine xd (args := [.int .u64 (n : Nat)]) Tryz.func128 rfl Tryz.ntmps128 rfl (Own.start w) ?_
  refine zB ?_
  refine zD rfl ?_
  refine zA ?_
  refine zL ?_
  refine xP rfl ?_
  refine zK ?_
  refine zB ?_
  refine zC rfl ?_
  refine zA4 (by kernel_rfl) rfl rfl (fun w' hw => ?_)
  refine (zKS n w' (by first | assumption | omega | (simp <;> omega) | (constructor <;> (first | omega | (simp only [zb]; omega) | (simp <;> omega))))).mono ?_
  rintro _ w1 ⟨rfl, hO⟩
  refine (?_ : CL _ _ _ _ _ _ (Own w [] [])) w1 (hw.frame0 hO)
  refine zD rfl ?_
  refine zA ?_
  exact zM (z8 (v := .int .i64 ((zx n) : Nat)) rfl rfl (fun w' hw => ⟨rfl, hw.drop⟩))
theorem zNT (n : Nat) (w : World) (hn : n ≤ 1000000000000) : Rets Tryz.prog 183 #[.int .i64 (n : Nat)] w fun u_ w' => u_ = .int .u64 ((2 ^ zx n) : Nat) ∧ Own w [] [] w' := by
  refine xd (args := [.int .i64 (n : Nat)]) Tryz.func183 rfl Tryz.ntmps183 rfl (Own.start w) ?_
  refine zB ?_
  refine zD rfl ?_
  refine zA ?_
  refine zB ?_
  refine zC rfl ?_
  refine yy (by kernel_rfl) rfl (kY (by omega)) rfl ?_ (by kernel_rfl)
  refine zA4 (by kernel_rfl) rfl rfl (fun w' hw => ?_)
  refine (zLN n w' (by first | assumption | omega | (simp <;> omega) | (constructor <;> (first | omega | (simp only [zb]; omega) | (simp <;> omega))))).mono ?_
  rintro _ w1 ⟨rfl, hO⟩
  refine (?_ : CL _ _ _ _ _ _ (Own w [] [])) w1 (hw.frame0 hO)
  refine zLJ (c := ((2 ^ zx n : Nat) : Int)) rfl rfl (by omega) (zKL hn) rfl ?_
  refine zD rfl ?_
  refine zA ?_
  exact zM (z8 (v := .int .u64 (2 ^ zx n : Nat)) rfl rfl (fun w' hw => ⟨rfl, hw.drop⟩))
theorem zLy (o : Nat) (x : Int) (w : World) (hin : Own w (xb [Res.row o 237 [.int .u64 x]]) [Res.row o 237 [.int .u64 x]] w) : Rets Tryz.prog 184 #[.pointer (some ⟨o, 0, none⟩)] w fun u_ w' => ∃ (y : Int), u_ = .int .u64 y ∧ Own w (xb [Res.row o 237 [.int .u64 x]]) [Res.row o 237 [.int .u64 y]] w' := by
  refine xd (args := [.pointer (some ⟨o, 0, none⟩)]) Tryz.func184 rfl Tryz.ntmps184 rfl (show Own w (xb [Res.row o 237 [.int .u64 x]]) [Res.row o 237 [.int .u64 x]] w from hin) ?_
  refine zB ?_
  refine zD rfl ?_
  refine zA ?_
  refine zL ?_
  refine zh [] rfl (by decide) (by kernel_rfl) (fun w' hw hS => ?_)
  refine zz 0 rfl (by kernel_rfl) (by kernel_rfl) (by kernel_rfl) (zO) rfl hS ?_
  refine zz 1 rfl (by kernel_rfl) (by kernel_rfl) (by kernel_rfl) (yA rfl) rfl hS ?_
  refine zz 3 rfl (by kernel_rfl) (by kernel_rfl) (by kernel_rfl) (zO) rfl hS ?_
  refine zz 4 rfl (by kernel_rfl) (by kernel_rfl) (by kernel_rfl) (yA rfl) rfl hS ?_
  refine jE (i := 2) (j := 5) (by kernel_rfl) ?_ ?_
  ·
    refine zY 2 rfl hw ?_
    refine y8 0 (v := .int .u64 x) rfl rfl rfl (by kernel_rfl) rfl ?_
    refine zj (fun w' hw => ?_)
    have hS := hw.sel [] rfl (by decide)
    refine ⟨hS, ?_⟩
    refine xQ 5 (by kernel_rfl) rfl hw ?_
    refine y8 0 (v := .int .u64 x) rfl rfl rfl (by kernel_rfl) rfl ?_
    refine zj (fun w' hw => ?_)
    have hS := hw.sel [] rfl (by decide)
    refine ⟨hS, ?_⟩
    refine zz 6 rfl (by kernel_rfl) (by kernel_rfl) (by kernel_rfl) (zAq (c := zB7 x 13) rfl rfl (by decide) rfl) rfl hS ?_
    refine zz 7 rfl (by kernel_rfl) (by kernel_rfl) (by kernel_rfl) (jG (c := xs1 x) rfl rfl rfl) rfl hS ?_
    refine zz 8 rfl (by kernel_rfl) (by kernel_rfl) (by kernel_rfl) (yA rfl) rfl hS ?_
    refine xQ 9 (by kernel_rfl) rfl hw ?_
    refine zA2 (cs := [.int .u64 x]) 0 rfl rfl rfl (by kernel_rfl) rfl (Nat.le_of_ble_eq_true rfl) ?_
    refine zj (fun w' hw => ?_)
    have hS := hw.sel [] rfl (by decide)
    refine ⟨hS, ?_⟩
    refine kA (by kernel_rfl) ?_
    refine (?_ : C _ _ _ _ _ _ _ (Own w (xb [Res.row o 237 [.int .u64 x]]) [Res.row o 237 [.int .u64 (xs1 x)]])) _ hw
    refine zL ?_
    refine zh [] rfl (by decide) (by kernel_rfl) (fun w' hw hS => ?_)
    refine zz 0 rfl (by kernel_rfl) (by kernel_rfl) (by kernel_rfl) (zO) rfl hS ?_
    refine zz 1 rfl (by kernel_rfl) (by kernel_rfl) (by kernel_rfl) (yA rfl) rfl hS ?_
    refine zz 3 rfl (by kernel_rfl) (by kernel_rfl) (by kernel_rfl) (zO) rfl hS ?_
    refine zz 4 rfl (by kernel_rfl) (by kernel_rfl) (by kernel_rfl) (yA rfl) rfl hS ?_
    refine jE (i := 2) (j := 5) (by kernel_rfl) ?_ ?_
    ·
      refine zY 2 rfl hw ?_
      refine y8 0 (v := .int .u64 (xs1 x)) rfl rfl rfl (by kernel_rfl) rfl ?_
      refine zj (fun w' hw => ?_)
      have hS := hw.sel [] rfl (by decide)
      refine ⟨hS, ?_⟩
      refine xQ 5 (by kernel_rfl) rfl hw ?_
      refine y8 0 (v := .int .u64 (xs1 x)) rfl rfl rfl (by kernel_rfl) rfl ?_
      refine zj (fun w' hw => ?_)
      have hS := hw.sel [] rfl (by decide)
      refine ⟨hS, ?_⟩
      refine zz 6 rfl (by kernel_rfl) (by kernel_rfl) (by kernel_rfl) (zGn (c := zI8 (xs1 x) 7) rfl rfl (by decide) rfl) rfl hS ?_
      refine zz 7 rfl (by kernel_rfl) (by kernel_rfl) (by kernel_rfl) (jG (c := jX x) rfl rfl rfl) rfl hS ?_
      refine zz 8 rfl (by kernel_rfl) (by kernel_rfl) (by kernel_rfl) (yA rfl) rfl hS ?_
      refine xQ 9 (by kernel_rfl) rfl hw ?_
      refine zA2 (cs := [.int .u64 (xs1 x)]) 0 rfl rfl rfl (by kernel_rfl) rfl (Nat.le_of_ble_eq_true rfl) ?_
      refine zj (fun w' hw => ?_)
      have hS := hw.sel [] rfl (by decide)
      refine ⟨hS, ?_⟩
      refine kA (by kernel_rfl) ?_
      refine (?_ : C _ _ _ _ _ _ _ (Own w (xb [Res.row o 237 [.int .u64 x]]) [Res.row o 237 [.int .u64 (jX x)]])) _ hw
      refine zL ?_
      refine zh [] rfl (by decide) (by kernel_rfl) (fun w' hw hS => ?_)
      refine zz 0 rfl (by kernel_rfl) (by kernel_rfl) (by kernel_rfl) (zO) rfl hS ?_
      refine zz 1 rfl (by kernel_rfl) (by kernel_rfl) (by kernel_rfl) (yA rfl) rfl hS ?_
      refine zz 3 rfl (by kernel_rfl) (by kernel_rfl) (by kernel_rfl) (zO) rfl hS ?_
      refine zz 4 rfl (by kernel_rfl) (by kernel_rfl) (by kernel_rfl) (yA rfl) rfl hS ?_
      refine jE (i := 2) (j := 5) (by kernel_rfl) ?_ ?_
      ·
        refine zY 2 rfl hw ?_
        refine y8 0 (v := .int .u64 (jX x)) rfl rfl rfl (by kernel_rfl) rfl ?_
        refine zj (fun w' hw => ?_)
        have hS := hw.sel [] rfl (by decide)
        refine ⟨hS, ?_⟩
        refine xQ 5 (by kernel_rfl) rfl hw ?_
        refine y8 0 (v := .int .u64 (jX x)) rfl rfl rfl (by kernel_rfl) rfl ?_
        refine zj (fun w' hw => ?_)
        have hS := hw.sel [] rfl (by decide)
        refine ⟨hS, ?_⟩
        refine zz 6 rfl (by kernel_rfl) (by kernel_rfl) (by kernel_rfl) (zAq (c := zB7 (jX x) 17) rfl rfl (by decide) rfl) rfl hS ?_
        refine zz 7 rfl (by kernel_rfl) (by kernel_rfl) (by kernel_rfl) (jG (c := jl x) rfl rfl rfl) rfl hS ?_
        refine zz 8 rfl (by kernel_rfl) (by kernel_rfl) (by kernel_rfl) (yA rfl) rfl hS ?_
        refine xQ 9 (by kernel_rfl) rfl hw ?_
        refine zA2 (cs := [.int .u64 (jX x)]) 0 rfl rfl rfl (by kernel_rfl) rfl (Nat.le_of_ble_eq_true rfl) ?_
        refine zj (fun w' hw => ?_)
        have hS := hw.sel [] rfl (by decide)
        refine ⟨hS, ?_⟩
        refine kA (by kernel_rfl) ?_
        refine (?_ : C _ _ _ _ _ _ _ (Own w (xb [Res.row o 237 [.int .u64 x]]) [Res.row o 237 [.int .u64 (jl x)]])) _ hw
        refine zB ?_
        refine zC rfl ?_
        refine zm rfl rfl ?_
        refine y8 0 (v := .int .u64 (jl x)) rfl rfl rfl (by kernel_rfl) rfl ?_
        refine zD rfl ?_
        refine zA ?_
        exact zM (z8 (v := .int .u64 (jl x)) rfl rfl (fun w' hw => ⟨jl x, rfl, hw⟩))
      ·
        refine zY 5 rfl hw ?_
        refine y8 0 (v := .int .u64 (jX x)) rfl rfl rfl (by kernel_rfl) rfl ?_
        refine zj (fun w' hw => ?_)
        have hS := hw.sel [] rfl (by decide)
        refine ⟨hS, ?_⟩
        refine zz 6 rfl (by kernel_rfl) (by kernel_rfl) (by kernel_rfl) (zAq (c := zB7 (jX x) 17) rfl rfl (by decide) rfl) rfl hS ?_
        refine xQ 2 (by kernel_rfl) rfl hw ?_
        refine y8 0 (v := .int .u64 (jX x)) rfl rfl rfl (by kernel_rfl) rfl ?_
        refine zj (fun w' hw => ?_)
        have hS := hw.sel [] rfl (by decide)
        refine ⟨hS, ?_⟩
        refine zz 7 rfl (by kernel_rfl) (by kernel_rfl) (by kernel_rfl) (jG (c := jl x) rfl rfl rfl) rfl hS ?_
        refine zz 8 rfl (by kernel_rfl) (by kernel_rfl) (by kernel_rfl) (yA rfl) rfl hS ?_
        refine xQ 9 (by kernel_rfl) rfl hw ?_
        refine zA2 (cs := [.int .u64 (jX x)]) 0 rfl rfl rfl (by kernel_rfl) rfl (Nat.le_of_ble_eq_true rfl) ?_
        refine zj (fun w' hw => ?_)
        have hS := hw.sel [] rfl (by decide)
        refine ⟨hS, ?_⟩
        refine kA (by kernel_rfl) ?_
        refine (?_ : C _ _ _ _ _ _ _ (Own w (xb [Res.row o 237 [.int .u64 x]]) [Res.row o 237 [.int .u64 (jl x)]])) _ hw
        refine zB ?_
        refine zC rfl ?_
        refine zm rfl rfl ?_
        refine y8 0 (v := .int .u64 (jl x)) rfl rfl rfl (by kernel_rfl) rfl ?_
        refine zD rfl ?_
        refine zA ?_
        exact zM (z8 (v := .int .u64 (jl x)) rfl rfl (fun w' hw => ⟨jl x, rfl, hw⟩))
    ·
      refine zY 5 rfl hw ?_
      refine y8 0 (v := .int .u64 (xs1 x)) rfl rfl rfl (by kernel_rfl) rfl ?_
      refine zj (fun w' hw => ?_)
      have hS := hw.sel [] rfl (by decide)
      refine ⟨hS, ?_⟩
      refine zz 6 rfl (by kernel_rfl) (by kernel_rfl) (by kernel_rfl) (zGn (c := zI8 (xs1 x) 7) rfl rfl (by decide) rfl) rfl hS ?_
      refine xQ 2 (by kernel_rfl) rfl hw ?_
      refine y8 0 (v := .int .u64 (xs1 x)) rfl rfl rfl (by kernel_rfl) rfl ?_
      refine zj (fun w' hw => ?_)
      have hS := hw.sel [] rfl (by decide)
      refine ⟨hS, ?_⟩
      refine zz 7 rfl (by kernel_rfl) (by kernel_rfl) (by kernel_rfl) (jG (c := jX x) rfl rfl rfl) rfl hS ?_
      refine zz 8 rfl (by kernel_rfl) (by kernel_rfl) (by kernel_rfl) (yA rfl) rfl hS ?_
      refine xQ 9 (by kernel_rfl) rfl hw ?_
      refine zA2 (cs := [.int .u64 (xs1 x)]) 0 rfl rfl rfl (by kernel_rfl) rfl (Nat.le_of_ble_eq_true rfl) ?_
      refine zj (fun w' hw => ?_)
      have hS := hw.sel [] rfl (by decide)
      refine ⟨hS, ?_⟩
      refine kA (by kernel_rfl) ?_
      refine (?_ : C _ _ _ _ _ _ _ (Own w (xb [Res.row o 237 [.int .u64 x]]) [Res.row o 237 [.int .u64 (jX x)]])) _ hw
      refine zL ?_
      refine zh [] rfl (by decide) (by kernel_rfl) (fun w' hw hS => ?_)
      refine zz 0 rfl (by kernel_rfl) (by kernel_rfl) (by kernel_rfl) (zO) rfl hS ?_
      refine zz 1 rfl (by kernel_rfl) (by kernel_rfl) (by kernel_rfl) (yA rfl) rfl hS ?_
      refine zz 3 rfl (by kernel_rfl) (by kernel_rfl) (by kernel_rfl) (zO) rfl hS ?_
      refine zz 4 rfl (by kernel_rfl) (by kernel_rfl) (by kernel_rfl) (yA rfl) rfl hS ?_
      refine jE (i := 2) (j := 5) (by kernel_rfl) ?_ ?_
      ·
        refine zY 2 rfl hw ?_
        refine y8 0 (v := .int .u64 (jX x)) rfl rfl rfl (by kernel_rfl) rfl ?_
        refine zj (fun w' hw => ?_)
        have hS := hw.sel [] rfl (by decide)
        refine ⟨hS, ?_⟩
        refine xQ 5 (by kernel_rfl) rfl hw ?_
        refine y8 0 (v := .int .u64 (jX x)) rfl rfl rfl (by kernel_rfl) rfl ?_
        refine zj (fun w' hw => ?_)
        have hS := hw.sel [] rfl (by decide)
        refine ⟨hS, ?_⟩
        refine zz 6 rfl (by kernel_rfl) (by kernel_rfl) (by kernel_rfl) (zAq (c := zB7 (jX x) 17) rfl rfl (by decide) rfl) rfl hS ?_
        refine zz 7 rfl (by kernel_rfl) (by kernel_rfl) (by kernel_rfl) (jG (c := jl x) rfl rfl rfl) rfl hS ?_
        refine zz 8 rfl (by kernel_rfl) (by kernel_rfl) (by kernel_rfl) (yA rfl) rfl hS ?_
        refine xQ 9 (by kernel_rfl) rfl hw ?_
        refine zA2 (cs := [.int .u64 (jX x)]) 0 rfl rfl rfl (by kernel_rfl) rfl (Nat.le_of_ble_eq_true rfl) ?_
        refine zj (fun w' hw => ?_)
        have hS := hw.sel [] rfl (by decide)
        refine ⟨hS, ?_⟩
        refine kA (by kernel_rfl) ?_
        refine (?_ : C _ _ _ _ _ _ _ (Own w (xb [Res.row o 237 [.int .u64 x]]) [Res.row o 237 [.int .u64 (jl x)]])) _ hw
        refine zB ?_
        refine zC rfl ?_
        refine zm rfl rfl ?_
        refine y8 0 (v := .int .u64 (jl x)) rfl rfl rfl (by kernel_rfl) rfl ?_
        refine zD rfl ?_
        refine zA ?_
        exact zM (z8 (v := .int .u64 (jl x)) rfl rfl (fun w' hw => ⟨jl x, rfl, hw⟩))
      ·
        refine zY 5 rfl hw ?_
        refine y8 0 (v := .int .u64 (jX x)) rfl rfl rfl (by kernel_rfl) rfl ?_
        refine zj (fun w' hw => ?_)
        have hS := hw.sel [] rfl (by decide)
        refine ⟨hS, ?_⟩
        refine zz 6 rfl (by kernel_rfl) (by kernel_rfl) (by kernel_rfl) (zAq (c := zB7 (jX x) 17) rfl rfl (by decide) rfl) rfl hS ?_
        refine xQ 2 (by kernel_rfl) rfl hw ?_
        refine y8 0 (v := .int .u64 (jX x)) rfl rfl rfl (by kernel_rfl) rfl ?_
        refine zj (fun w' hw => ?_)
        have hS := hw.sel [] rfl (by decide)
        refine ⟨hS, ?_⟩
        refine zz 7 rfl (by kernel_rfl) (by kernel_rfl) (by kernel_rfl) (jG (c := jl x) rfl rfl rfl) rfl hS ?_
        refine zz 8 rfl (by kernel_rfl) (by kernel_rfl) (by kernel_rfl) (yA rfl) rfl hS ?_
        refine xQ 9 (by kernel_rfl) rfl hw ?_
        refine zA2 (cs := [.int .u64 (jX x)]) 0 rfl rfl rfl (by kernel_rfl) rfl (Nat.le_of_ble_eq_true rfl) ?_
        refine zj (fun w' hw => ?_)
        have hS := hw.sel [] rfl (by decide)
        refine ⟨hS, ?_⟩
        refine kA (by kernel_rfl) ?_
        refine (?_ : C _ _ _ _ _ _ _ (Own w (xb [Res.row o 237 [.int .u64 x]]) [Res.row o 237 [.int .u64 (jl x)]])) _ hw
        refine zB ?_
        refine zC rfl ?_
        refine zm rfl rfl ?_
        refine y8 0 (v := .int .u64 (jl x)) rfl rfl rfl (by kernel_rfl) rfl ?_
        refine zD rfl ?_
        refine zA ?_
        exact zM (z8 (v := .int .u64 (jl x)) rfl rfl (fun w' hw => ⟨jl x, rfl, hw⟩))
  ·
    refine zY 5 rfl hw ?_
    refine y8 0 (v := .int .u64 x) rfl rfl rfl (by kernel_rfl) rfl ?_
    refine zj (fun w' hw => ?_)
    have hS := hw.sel [] rfl (by decide)
    refine ⟨hS, ?_⟩
    refine zz 6 rfl (by kernel_rfl) (by kernel_rfl) (by kernel_rfl) (zAq (c := zB7 x 13) rfl rfl (by decide) rfl) rfl hS ?_
    refine xQ 2 (by kernel_rfl) rfl hw ?_
    refine y8 0 (v := .int .u64 x) rfl rfl rfl (by kernel_rfl) rfl ?_
    refine zj (fun w' hw => ?_)
    have hS := hw.sel [] rfl (by decide)
    refine ⟨hS, ?_⟩
    refine zz 7 rfl (by kernel_rfl) (by kernel_rfl) (by kernel_rfl) (jG (c := xs1 x) rfl rfl rfl) rfl hS ?_
    refine zz 8 rfl (by kernel_rfl) (by kernel_rfl) (by kernel_rfl) (yA rfl) rfl hS ?_
    refine xQ 9 (by kernel_rfl) rfl hw ?_
    refine zA2 (cs := [.int .u64 x]) 0 rfl rfl rfl (by kernel_rfl) rfl (Nat.le_of_ble_eq_true rfl) ?_
    refine zj (fun w' hw => ?_)
    have hS := hw.sel [] rfl (by decide)
    refine ⟨hS, ?_⟩
    refine kA (by kernel_rfl) ?_
    refine (?_ : C _ _ _ _ _ _ _ (Own w (xb [Res.row o 237 [.int .u64 x]]) [Res.row o 237 [.int .u64 (xs1 x)]])) _ hw
    refine zL ?_
    refine zh [] rfl (by decide) (by kernel_rfl) (fun w' hw hS => ?_)
    refine zz 0 rfl (by kernel_rfl) (by kernel_rfl) (by kernel_rfl) (zO) rfl hS ?_
    refine zz 1 rfl (by kernel_rfl) (by kernel_rfl) (by kernel_rfl) (yA rfl) rfl hS ?_
    refine zz 3 rfl (by kernel_rfl) (by kernel_rfl) (by kernel_rfl) (zO) rfl hS ?_
    refine zz 4 rfl (by kernel_rfl) (by kernel_rfl) (by kernel_rfl) (yA rfl) rfl hS ?_
    refine jE (i := 2) (j := 5) (by kernel_rfl) ?_ ?_
    ·
      refine zY 2 rfl hw ?_
      refine y8 0 (v := .int .u64 (xs1 x)) rfl rfl rfl (by kernel_rfl) rfl ?_
      refine zj (fun w' hw => ?_)
      have hS := hw.sel [] rfl (by decide)
      refine ⟨hS, ?_⟩
      refine xQ 5 (by kernel_rfl) rfl hw ?_
      refine y8 0 (v := .int .u64 (xs1 x)) rfl rfl rfl (by kernel_rfl) rfl ?_
      refine zj (fun w' hw => ?_)
      have hS := hw.sel [] rfl (by decide)
      refine ⟨hS, ?_⟩
      refine zz 6 rfl (by kernel_rfl) (by kernel_rfl) (by kernel_rfl) (zGn (c := zI8 (xs1 x) 7) rfl rfl (by decide) rfl) rfl hS ?_
      refine zz 7 rfl (by kernel_rfl) (by kernel_rfl) (by kernel_rfl) (jG (c := jX x) rfl rfl rfl) rfl hS ?_
      refine zz 8 rfl (by kernel_rfl) (by kernel_rfl) (by kernel_rfl) (yA rfl) rfl hS ?_
      refine xQ 9 (by kernel_rfl) rfl hw ?_
      refine zA2 (cs := [.int .u64 (xs1 x)]) 0 rfl rfl rfl (by kernel_rfl) rfl (Nat.le_of_ble_eq_true rfl) ?_
      refine zj (fun w' hw => ?_)
      have hS := hw.sel [] rfl (by decide)
      refine ⟨hS, ?_⟩
      refine kA (by kernel_rfl) ?_
      refine (?_ : C _ _ _ _ _ _ _ (Own w (xb [Res.row o 237 [.int .u64 x]]) [Res.row o 237 [.int .u64 (jX x)]])) _ hw
      refine zL ?_
      refine zh [] rfl (by decide) (by kernel_rfl) (fun w' hw hS => ?_)
      refine zz 0 rfl (by kernel_rfl) (by kernel_rfl) (by kernel_rfl) (zO) rfl hS ?_
      refine zz 1 rfl (by kernel_rfl) (by kernel_rfl) (by kernel_rfl) (yA rfl) rfl hS ?_
      refine zz 3 rfl (by kernel_rfl) (by kernel_rfl) (by kernel_rfl) (zO) rfl hS ?_
      refine zz 4 rfl (by kernel_rfl) (by kernel_rfl) (by kernel_rfl) (yA rfl) rfl hS ?_
      refine jE (i := 2) (j := 5) (by kernel_rfl) ?_ ?_
      ·
        refine zY 2 rfl hw ?_
        refine y8 0 (v := .int .u64 (jX x)) rfl rfl rfl (by kernel_rfl) rfl ?_
        refine zj (fun w' hw => ?_)
        have hS := hw.sel [] rfl (by decide)
        refine ⟨hS, ?_⟩
        refine xQ 5 (by kernel_rfl) rfl hw ?_
        refine y8 0 (v := .int .u64 (jX x)) rfl rfl rfl (by kernel_rfl) rfl ?_
        refine zj (fun w' hw => ?_)
        have hS := hw.sel [] rfl (by decide)
        refine ⟨hS, ?_⟩
        refine zz 6 rfl (by kernel_rfl) (by kernel_rfl) (by kernel_rfl) (zAq (c := zB7 (jX x) 17) rfl rfl (by decide) rfl) rfl hS ?_
        refine zz 7 rfl (by kernel_rfl) (by kernel_rfl) (by kernel_rfl) (jG (c := jl x) rfl rfl rfl) rfl hS ?_
        refine zz 8 rfl (by kernel_rfl) (by kernel_rfl) (by kernel_rfl) (yA rfl) rfl hS ?_
        refine xQ 9 (by kernel_rfl) rfl hw ?_
        refine zA2 (cs := [.int .u64 (jX x)]) 0 rfl rfl rfl (by kernel_rfl) rfl (Nat.le_of_ble_eq_true rfl) ?_
        refine zj (fun w' hw => ?_)
        have hS := hw.sel [] rfl (by decide)
        refine ⟨hS, ?_⟩
        refine kA (by kernel_rfl) ?_
        refine (?_ : C _ _ _ _ _ _ _ (Own w (xb [Res.row o 237 [.int .u64 x]]) [Res.row o 237 [.int .u64 (jl x)]])) _ hw
        refine zB ?_
        refine zC rfl ?_
        refine zm rfl rfl ?_
        refine y8 0 (v := .int .u64 (jl x)) rfl rfl rfl (by kernel_rfl) rfl ?_
        refine zD rfl ?_
        refine zA ?_
        exact zM (z8 (v := .int .u64 (jl x)) rfl rfl (fun w' hw => ⟨jl x, rfl, hw⟩))
      ·
        refine zY 5 rfl hw ?_
        refine y8 0 (v := .int .u64 (jX x)) rfl rfl rfl (by kernel_rfl) rfl ?_
        refine zj (fun w' hw => ?_)
        have hS := hw.sel [] rfl (by decide)
        refine ⟨hS, ?_⟩
        refine zz 6 rfl (by kernel_rfl) (by kernel_rfl) (by kernel_rfl) (zAq (c := zB7 (jX x) 17) rfl rfl (by decide) rfl) rfl hS ?_
        refine xQ 2 (by kernel_rfl) rfl hw ?_
        refine y8 0 (v := .int .u64 (jX x)) rfl rfl rfl (by kernel_rfl) rfl ?_
        refine zj (fun w' hw => ?_)
        have hS := hw.sel [] rfl (by decide)
        refine ⟨hS, ?_⟩
        refine zz 7 rfl (by kernel_rfl) (by kernel_rfl) (by kernel_rfl) (jG (c := jl x) rfl rfl rfl) rfl hS ?_
        refine zz 8 rfl (by kernel_rfl) (by kernel_rfl) (by kernel_rfl) (yA rfl) rfl hS ?_
        refine xQ 9 (by kernel_rfl) rfl hw ?_
        refine zA2 (cs := [.int .u64 (jX x)]) 0 rfl rfl rfl (by kernel_rfl) rfl (Nat.le_of_ble_eq_true rfl) ?_
        refine zj (fun w' hw => ?_)
        have hS := hw.sel [] rfl (by decide)
        refine ⟨hS, ?_⟩
        refine kA (by kernel_rfl) ?_
        refine (?_ : C _ _ _ _ _ _ _ (Own w (xb [Res.row o 237 [.int .u64 x]]) [Res.row o 237 [.int .u64 (jl x)]])) _ hw
        refine zB ?_
        refine zC rfl ?_
        refine zm rfl rfl ?_
        refine y8 0 (v := .int .u64 (jl x)) rfl rfl rfl (by kernel_rfl) rfl ?_
        refine zD rfl ?_
        refine zA ?_
        exact zM (z8 (v := .int .u64 (jl x)) rfl rfl (fun w' hw => ⟨jl x, rfl, hw⟩))
    ·
      refine zY 5 rfl hw ?_
      refine y8 0 (v := .int .u64 (xs1 x)) rfl rfl rfl (by kernel_rfl) rfl ?_
      refine zj (fun w' hw => ?_)
      have hS := hw.sel [] rfl (by decide)
      refine ⟨hS, ?_⟩
      refine zz 6 rfl (by kernel_rfl) (by kernel_rfl) (by kernel_rfl) (zGn (c := zI8 (xs1 x) 7) rfl rfl (by decide) rfl) rfl hS ?_
      refine xQ 2 (by kernel_rfl) rfl hw ?_
      refine y8 0 (v := .int .u64 (xs1 x)) rfl rfl rfl (by kernel_rfl) rfl ?_
      refine zj (fun w' hw => ?_)
      have hS := hw.sel [] rfl (by decide)
      refine ⟨hS, ?_⟩
      refine zz 7 rfl (by kernel_rfl) (by kernel_rfl) (by kernel_rfl) (jG (c := jX x) rfl rfl rfl) rfl hS ?_
      refine zz 8 rfl (by kernel_rfl) (by kernel_rfl) (by kernel_rfl) (yA rfl) rfl hS ?_
      refine xQ 9 (by kernel_rfl) rfl hw ?_
      refine zA2 (cs := [.int .u64 (xs1 x)]) 0 rfl rfl rfl (by kernel_rfl) rfl (Nat.le_of_ble_eq_true rfl) ?_
      refine zj (fun w' hw => ?_)
      have hS := hw.sel [] rfl (by decide)
      refine ⟨hS, ?_⟩
      refine kA (by kernel_rfl) ?_
      refine (?_ : C _ _ _ _ _ _ _ (Own w (xb [Res.row o 237 [.int .u64 x]]) [Res.row o 237 [.int .u64 (jX x)]])) _ hw
      refine zL ?_
      refine zh [] rfl (by decide) (by kernel_rfl) (fun w' hw hS => ?_)
      refine zz 0 rfl (by kernel_rfl) (by kernel_rfl) (by kernel_rfl) (zO) rfl hS ?_
      refine zz 1 rfl (by kernel_rfl) (by kernel_rfl) (by kernel_rfl) (yA rfl) rfl hS ?_
      refine zz 3 rfl (by kernel_rfl) (by kernel_rfl) (by kernel_rfl) (zO) rfl hS ?_
      refine zz 4 rfl (by kernel_rfl) (by kernel_rfl) (by kernel_rfl) (yA rfl) rfl hS ?_
      refine jE (i := 2) (j := 5) (by kernel_rfl) ?_ ?_
      ·
        refine zY 2 rfl hw ?_
        refine y8 0 (v := .int .u64 (jX x)) rfl rfl rfl (by kernel_rfl) rfl ?_
        refine zj (fun w' hw => ?_)
        have hS := hw.sel [] rfl (by decide)
        refine ⟨hS, ?_⟩
        refine xQ 5 (by kernel_rfl) rfl hw ?_
        refine y8 0 (v := .int .u64 (jX x)) rfl rfl rfl (by kernel_rfl) rfl ?_
        refine zj (fun w' hw => ?_)
        have hS := hw.sel [] rfl (by decide)
        refine ⟨hS, ?_⟩
        refine zz 6 rfl (by kernel_rfl) (by kernel_rfl) (by kernel_rfl) (zAq (c := zB7 (jX x) 17) rfl rfl (by decide) rfl) rfl hS ?_
        refine zz 7 rfl (by kernel_rfl) (by kernel_rfl) (by kernel_rfl) (jG (c := jl x) rfl rfl rfl) rfl hS ?_
        refine zz 8 rfl (by kernel_rfl) (by kernel_rfl) (by kernel_rfl) (yA rfl) rfl hS ?_
        refine xQ 9 (by kernel_rfl) rfl hw ?_
        refine zA2 (cs := [.int .u64 (jX x)]) 0 rfl rfl rfl (by kernel_rfl) rfl (Nat.le_of_ble_eq_true rfl) ?_
        refine zj (fun w' hw => ?_)
        have hS := hw.sel [] rfl (by decide)
        refine ⟨hS, ?_⟩
        refine kA (by kernel_rfl) ?_
        refine (?_ : C _ _ _ _ _ _ _ (Own w (xb [Res.row o 237 [.int .u64 x]]) [Res.row o 237 [.int .u64 (jl x)]])) _ hw
        refine zB ?_
        refine zC rfl ?_
        refine zm rfl rfl ?_
        refine y8 0 (v := .int .u64 (jl x)) rfl rfl rfl (by kernel_rfl) rfl ?_
        refine zD rfl ?_
        refine zA ?_
        exact zM (z8 (v := .int .u64 (jl x)) rfl rfl (fun w' hw => ⟨jl x, rfl, hw⟩))
      ·
        refine zY 5 rfl hw ?_
        refine y8 0 (v := .int .u64 (jX x)) rfl rfl rfl (by kernel_rfl) rfl ?_
        refine zj (fun w' hw => ?_)
        have hS := hw.sel [] rfl (by decide)
        refine ⟨hS, ?_⟩
        refine zz 6 rfl (by kernel_rfl) (by kernel_rfl) (by kernel_rfl) (zAq (c := zB7 (jX x) 17) rfl rfl (by decide) rfl) rfl hS ?_
        refine xQ 2 (by kernel_rfl) rfl hw ?_
        refine y8 0 (v := .int .u64 (jX x)) rfl rfl rfl (by kernel_rfl) rfl ?_
        refine zj (fun w' hw => ?_)
        have hS := hw.sel [] rfl (by decide)
        refine ⟨hS, ?_⟩
        refine zz 7 rfl (by kernel_rfl) (by kernel_rfl) (by kernel_rfl) (jG (c := jl x) rfl rfl rfl) rfl hS ?_
        refine zz 8 rfl (by kernel_rfl) (by kernel_rfl) (by kernel_rfl) (yA rfl) rfl hS ?_
        refine xQ 9 (by kernel_rfl) rfl hw ?_
        refine zA2 (cs := [.int .u64 (jX x)]) 0 rfl rfl rfl (by kernel_rfl) rfl (Nat.le_of_ble_eq_true rfl) ?_
        refine zj (fun w' hw => ?_)
        have hS := hw.sel [] rfl (by decide)
        refine ⟨hS, ?_⟩
        refine kA (by kernel_rfl) ?_
        refine (?_ : C _ _ _ _ _ _ _ (Own w (xb [Res.row o 237 [.int .u64 x]]) [Res.row o 237 [.int .u64 (jl x)]])) _ hw
        refine zB ?_
        refine zC rfl ?_
        refine zm rfl rfl ?_
        refine y8 0 (v := .int .u64 (jl x)) rfl rfl rfl (by kernel_rfl) rfl ?_
        refine zD rfl ?_
        refine zA ?_
        exact zM (z8 (v := .int .u64 (jl x)) rfl rfl (fun w' hw => ⟨jl x, rfl, hw⟩))
end Go.Proofs.YthincafbmpialaaGreat
