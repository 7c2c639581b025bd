import Derived.Test.YtcdiehplbmkmeaaGreatSrt
import Derived.Test.YtcdiehplbmkmeaaGreatFwU
import Derived.Test.YtcdiehplbmkmeaaGreatCodec
import Derived.Test.YtcdiehplbmkmeaaGreatChecked
set_option linter.unusedSectionVars false
set_option linter.unusedSimpArgs false
set_option linter.unusedVariables false
set_option maxRecDepth 10000
namespace Go.Proofs.YtcdiehplbmkmeaaGreat
open Go Go.Sc Go.Proofs
theorem vi {a b : Int} (h : a = b) : Value.int .i64 a = Value.int .i64 b := by rw [h]
theorem wsi {a b : Nat} (h : b ≤ a) (h2 : a < 9223372036854775808) : IntKind.i64.wrap ((a : Int) - (b : Int)) = ((a - b : Nat) : Int) := by
  rw [show (a : Int) - (b : Int) = ((a - b : Nat) : Int) by omega]; exact zq (by omega)
theorem xb {a : Nat} (h : 1 ≤ a) (h2 : a < 9223372036854775808) : IntKind.i64.wrap ((a : Int) - 1) = ((a - 1 : Nat) : Int) := wsi (b := 1) h h2
theorem qui {a b : Nat} (h : a < 9223372036854775808) : IntKind.i64.wrap ((a : Int).tdiv (b : Int)) = ((a / b : Nat) : Int) := by
  have : (a : Int).tdiv (b : Int) = ((a / b : Nat) : Int) := rfl
  rw [this]
  have h2 := Nat.div_le_self a b
  generalize a / b = c at h2 ⊢
  exact zq (by omega)
theorem zKE {α : Type} [Inhabited α] [SO α] {m : List α} {f r hi : Nat} (h : olt (zJ m (f + (2 * r + 1))) (zJ m (f + (2 * r + 1) + 1))) : ∀ c', c' = 2 * r + 1 ∨ c' = 2 * r + 2 → c' < hi → xq (zJ m (f + c')) (zJ m (f + (2 * r + 1 + 1))) := by
  intro c' h1 _
  rw [show f + (2 * r + 1) + 1 = f + (2 * r + 1 + 1) by omega] at h
  rcases h1 with rfl | rfl
  · exact xS h
  · exact kJ _
theorem zGY {α : Type} [Inhabited α] [SO α] {m : List α} {f r hi : Nat} (h : 2 * r + 1 + 1 < hi → ¬ olt (zJ m (f + (2 * r + 1))) (zJ m (f + (2 * r + 1) + 1))) : ∀ c', c' = 2 * r + 1 ∨ c' = 2 * r + 2 → c' < hi → xq (zJ m (f + c')) (zJ m (f + (2 * r + 1))) := by
  intro c' h1 h2
  rcases h1 with rfl | rfl
  · exact kJ _
  · have := h (by omega)
    rw [show f + (2 * r + 1) + 1 = f + (2 * r + 2) by omega] at this
    exact this
def zJ2 (a b : Int) : Int := IntKind.u64.wrap (((a % 2 ^ IntKind.u64.bits).toNat ^^^ (b % 2 ^ IntKind.u64.bits).toNat : Nat) : Int)
def zA8 (a b : Int) : Int := IntKind.u64.wrap (a * 2 ^ (min b.toNat IntKind.u64.bits))
def zGb (a b : Int) : Int := a.fdiv (2 ^ (min b.toNat IntKind.u64.bits))
def xs1 (x : Int) : Int := zJ2 x (zA8 x 13)
def ka (x : Int) : Int := zJ2 (xs1 x) (zGb (xs1 x) 7)
def k5 (x : Int) : Int := zJ2 (ka x) (zA8 (ka x) 17)
theorem zCr {n : Nat} (h : n ≤ 1000000000000) : zg n ≤ 40 := xM (by have : (2 : Nat) ^ 40 = 1099511627776 := rfl; omega)
theorem zIP {n : Nat} (h : n ≤ 1000000000000) : IntKind.u64.wrap ((1 : Int) * 2 ^ (min ((zg n : Nat) : Int).toNat IntKind.u64.bits)) = ((2 ^ zg n : Nat) : Int) := by
  have h1 := zCr h
  have e : min ((zg n : Nat) : Int).toNat IntKind.u64.bits = zg n := by
    rw [Int.toNat_natCast]; show min _ 64 = _; omega
  have h2 : 2 ^ zg n ≤ 2 ^ 40 := Nat.pow_le_pow_right (by decide) h1
  have h3 : (2 : Nat) ^ 40 = 1099511627776 := rfl
  rw [e, Int.one_mul, show ((2 : Int) ^ zg n) = ((2 ^ zg n : Nat) : Int) by rw [Int.natCast_pow]; rfl]
  generalize 2 ^ zg n = z at h2 ⊢
  exact zCq (by omega)
theorem zJU {n : Nat} (h : 0 < n) : 2 ^ zg n ≤ 2 * n ∧ 0 < 2 ^ zg n := by
  have h1 := jl h
  have h2 := zBa h
  refine ⟨?_, Nat.pow_pos (by decide)⟩
  rw [show zg n = (zg n - 1) + 1 by omega, Nat.pow_succ]
  omega
theorem zGn {y : Int} {m : Nat} (h : 0 < m) (hm : m ≤ 4000000000000) : ((y % 18446744073709551616).toNat &&& (m - 1)) < m := by
  have := Nat.and_le_right (n := (y % 18446744073709551616).toNat) (m := m - 1)
  omega
theorem zGv {y : Int} {m : Nat} (h : 0 < m) (hm : m ≤ 4000000000000) : IntKind.u64.wrap (((y % 2 ^ IntKind.u64.bits).toNat &&& (((m - 1 : Nat) : Int) % 2 ^ IntKind.u64.bits).toNat : Nat) : Int) = (((y % 18446744073709551616).toNat &&& (m - 1) : Nat) : Int) := by
  have e : ((((m - 1 : Nat) : Int)) % 2 ^ IntKind.u64.bits).toNat = m - 1 := by
    show ((((m - 1 : Nat) : Int)) % 18446744073709551616).toNat = m - 1
    omega
  have e2 : (y % 2 ^ IntKind.u64.bits).toNat = (y % 18446744073709551616).toNat := rfl
  rw [e, e2]
  have := zGn (y := y) h hm
  exact zCq (by omega)
theorem zIL (n : Nat) (w : World) (hn : n < 18446744073709551616) : Rets Tryz.prog 88 #[.int .u64 (n : Nat)] w fun u_ w' => u_ = .int .i64 ((zg n) : Nat) ∧ Own w [] [] w' := by
  exact zBp n hn w
theorem zI0 (n : Nat) (w : World) (hn : n < 18446744073709551616) : Rets Tryz.prog 67 #[.int .u64 (n : Nat)] w fun u_ w' => u_ = .int .i64 ((zg n) : Nat) ∧ Own w [] [] w' := by
  refine xY (args := [.int .u64 (n : Nat)]) Tryz.func67 rfl Tryz.ntmps67 rfl (Own.start w) ?_
  refine zB ?_
  refine zE rfl ?_
  refine zA ?_
  refine zK ?_
  refine xr rfl ?_
  refine zI ?_
  refine zB ?_
  refine zC rfl ?_
  refine zAB (by kernel_rfl) rfl rfl (fun w' hw => ?_)
  refine (zIL n w' (by first | assumption | omega | (simp <;> omega) | (constructor <;> (first | omega | (simp only [z6]; omega) | (simp <;> omega))))).mono ?_
  rintro _ w1 ⟨rfl, hO⟩
  refine (?_ : CL _ _ _ _ _ _ (Own w [] [])) w1 (hw.frame0 hO)
  refine zE rfl ?_
  refine zA ?_
  exact zN (zu (v := .int .i64 ((zg n) : Nat)) rfl rfl (fun w' hw => ⟨rfl, hw.drop⟩))
theorem zKR (n : Nat) (w : World) (hn : n ≤ 1000000000000) : Rets Tryz.prog 100 #[.int .i64 (n : Nat)] w fun u_ w' => u_ = .int .u64 ((2 ^ zg n) : Nat) ∧ Own w [] [] w' := by
  refine xY (args := [.int .i64 (n : Nat)]) Tryz.func100 rfl Tryz.ntmps100 rfl (Own.start w) ?_
  refine zB ?_
  refine zE rfl ?_
  refine zA ?_
  refine zB ?_
  refine zC rfl ?_
  refine x0 (by kernel_rfl) rfl (zCq (by omega)) rfl ?_ (by kernel_rfl)
  refine zAB (by kernel_rfl) rfl rfl (fun w' hw => ?_)
  refine (zI0 n w' (by first | assumption | omega | (simp <;> omega) | (constructor <;> (first | omega | (simp only [z6]; omega) | (simp <;> omega))))).mono ?_
  rintro _ w1 ⟨rfl, hO⟩
  refine (?_ : CL _ _ _ _ _ _ (Own w [] [])) w1 (hw.frame0 hO)
  refine zLO (c := ((2 ^ zg n : Nat) : Int)) rfl rfl (by omega) (zIP hn) rfl ?_
  refine zE rfl ?_
  refine zA ?_
  exact zN (zu (v := .int .u64 (2 ^ zg n : Nat)) rfl rfl (fun w' hw => ⟨rfl, hw.drop⟩))
theorem zJJ (o : Nat) (x : Int) (w : World) (hin : Own w (x3 [Res.row o 175 [.int .u64 x]]) [Res.row o 175 [.int .u64 x]] w) : Rets Tryz.prog 101 #[.pointer (some ⟨o, 0, none⟩)] w fun u_ w' => ∃ (y : Int), u_ = .int .u64 y ∧ Own w (x3 [Res.row o 175 [.int .u64 x]]) [Res.row o 175 [.int .u64 y]] w' := by
  refine xY (args := [.pointer (some ⟨o, 0, none⟩)]) Tryz.func101 rfl Tryz.ntmps101 rfl (show Own w (x3 [Res.row o 175 [.int .u64 x]]) [Res.row o 175 [.int .u64 x]] w from hin) ?_
  refine zB ?_
  refine zE rfl ?_
  refine zA ?_
  refine zK ?_
  refine zc [] rfl (by decide) (by kernel_rfl) (fun w' hw hS => ?_)
  refine zm 0 rfl (by kernel_rfl) (by kernel_rfl) (by kernel_rfl) (zL) rfl hS ?_
  refine zm 1 rfl (by kernel_rfl) (by kernel_rfl) (by kernel_rfl) (zn rfl) rfl hS ?_
  refine zm 3 rfl (by kernel_rfl) (by kernel_rfl) (by kernel_rfl) (zL) rfl hS ?_
  refine zm 4 rfl (by kernel_rfl) (by kernel_rfl) (by kernel_rfl) (zn rfl) rfl hS ?_
  refine kV (i := 2) (j := 5) (by kernel_rfl) ?_ ?_
  ·
    refine zW 2 rfl hw ?_
    refine ya 0 (v := .int .u64 x) rfl rfl rfl (by kernel_rfl) rfl ?_
    refine ze (fun w' hw => ?_)
    have hS := hw.sel [] rfl (by decide)
    refine ⟨hS, ?_⟩
    refine yx 5 (by kernel_rfl) rfl hw ?_
    refine ya 0 (v := .int .u64 x) rfl rfl rfl (by kernel_rfl) rfl ?_
    refine ze (fun w' hw => ?_)
    have hS := hw.sel [] rfl (by decide)
    refine ⟨hS, ?_⟩
    refine zm 6 rfl (by kernel_rfl) (by kernel_rfl) (by kernel_rfl) (jy (c := zA8 x 13) rfl rfl (by decide) rfl) rfl hS ?_
    refine zm 7 rfl (by kernel_rfl) (by kernel_rfl) (by kernel_rfl) (kR (c := xs1 x) rfl rfl rfl) rfl hS ?_
    refine zm 8 rfl (by kernel_rfl) (by kernel_rfl) (by kernel_rfl) (zn rfl) rfl hS ?_
    refine yx 9 (by kernel_rfl) rfl hw ?_
    refine zAH (cs := [.int .u64 x]) 0 rfl rfl rfl (by kernel_rfl) rfl (Nat.le_of_ble_eq_true rfl) ?_
    refine ze (fun w' hw => ?_)
    have hS := hw.sel [] rfl (by decide)
    refine ⟨hS, ?_⟩
    refine xP (by kernel_rfl) ?_
    refine (?_ : C _ _ _ _ _ _ _ (Own w (x3 [Res.row o 175 [.int .u64 x]]) [Res.row o 175 [.int .u64 (xs1 x)]])) _ hw
    refine zK ?_
    refine zc [] rfl (by decide) (by kernel_rfl) (fun w' hw hS => ?_)
    refine zm 0 rfl (by kernel_rfl) (by kernel_rfl) (by kernel_rfl) (zL) rfl hS ?_
    refine zm 1 rfl (by kernel_rfl) (by kernel_rfl) (by kernel_rfl) (zn rfl) rfl hS ?_
    refine zm 3 rfl (by kernel_rfl) (by kernel_rfl) (by kernel_rfl) (zL) rfl hS ?_
    refine zm 4 rfl (by kernel_rfl) (by kernel_rfl) (by kernel_rfl) (zn rfl) rfl hS ?_
    refine kV (i := 2) (j := 5) (by kernel_rfl) ?_ ?_
    ·
      refine zW 2 rfl hw ?_
      refine ya 0 (v := .int .u64 (xs1 x)) rfl rfl rfl (by kernel_rfl) rfl ?_
      refine ze (fun w' hw => ?_)
      have hS := hw.sel [] rfl (by decide)
      refine ⟨hS, ?_⟩
      refine yx 5 (by kernel_rfl) rfl hw ?_
      refine ya 0 (v := .int .u64 (xs1 x)) rfl rfl rfl (by kernel_rfl) rfl ?_
      refine ze (fun w' hw => ?_)
      have hS := hw.sel [] rfl (by decide)
      refine ⟨hS, ?_⟩
      refine zm 6 rfl (by kernel_rfl) (by kernel_rfl) (by kernel_rfl) (zEq (c := zGb (xs1 x) 7) rfl rfl (by decide) rfl) rfl hS ?_
      refine zm 7 rfl (by kernel_rfl) (by kernel_rfl) (by kernel_rfl) (kR (c := ka x) rfl rfl rfl) rfl hS ?_
      refine zm 8 rfl (by kernel_rfl) (by kernel_rfl) (by kernel_rfl) (zn rfl) rfl hS ?_
      refine yx 9 (by kernel_rfl) rfl hw ?_
      refine zAH (cs := [.int .u64 (xs1 x)]) 0 rfl rfl rfl (by kernel_rfl) rfl (Nat.le_of_ble_eq_true rfl) ?_
      refine ze (fun w' hw => ?_)
      have hS := hw.sel [] rfl (by decide)
      refine ⟨hS, ?_⟩
      refine xP (by kernel_rfl) ?_
      refine (?_ : C _ _ _ _ _ _ _ (Own w (x3 [Res.row o 175 [.int .u64 x]]) [Res.row o 175 [.int .u64 (ka x)]])) _ hw
      refine zK ?_
      refine zc [] rfl (by decide) (by kernel_rfl) (fun w' hw hS => ?_)
      refine zm 0 rfl (by kernel_rfl) (by kernel_rfl) (by kernel_rfl) (zL) rfl hS ?_
      refine zm 1 rfl (by kernel_rfl) (by kernel_rfl) (by kernel_rfl) (zn rfl) rfl hS ?_
      refine zm 3 rfl (by kernel_rfl) (by kernel_rfl) (by kernel_rfl) (zL) rfl hS ?_
      refine zm 4 rfl (by kernel_rfl) (by kernel_rfl) (by kernel_rfl) (zn rfl) rfl hS ?_
      refine kV (i := 2) (j := 5) (by kernel_rfl) ?_ ?_
      ·
        refine zW 2 rfl hw ?_
        refine ya 0 (v := .int .u64 (ka x)) rfl rfl rfl (by kernel_rfl) rfl ?_
        refine ze (fun w' hw => ?_)
        have hS := hw.sel [] rfl (by decide)
        refine ⟨hS, ?_⟩
        refine yx 5 (by kernel_rfl) rfl hw ?_
        refine ya 0 (v := .int .u64 (ka x)) rfl rfl rfl (by kernel_rfl) rfl ?_
        refine ze (fun w' hw => ?_)
        have hS := hw.sel [] rfl (by decide)
        refine ⟨hS, ?_⟩
        refine zm 6 rfl (by kernel_rfl) (by kernel_rfl) (by kernel_rfl) (jy (c := zA8 (ka x) 17) rfl rfl (by decide) rfl) rfl hS ?_
        refine zm 7 rfl (by kernel_rfl) (by kernel_rfl) (by kernel_rfl) (kR (c := k5 x) rfl rfl rfl) rfl hS ?_
        refine zm 8 rfl (by kernel_rfl) (by kernel_rfl) (by kernel_rfl) (zn rfl) rfl hS ?_
        refine yx 9 (by kernel_rfl) rfl hw ?_
        refine zAH (cs := [.int .u64 (ka x)]) 0 rfl rfl rfl (by kernel_rfl) rfl (Nat.le_of_ble_eq_true rfl) ?_
        refine ze (fun w' hw => ?_)
        have hS := hw.sel [] rfl (by decide)
        refine ⟨hS, ?_⟩
        refine xP (by kernel_rfl) ?_
        refine (?_ : C _ _ _ _ _ _ _ (Own w (x3 [Res.row o 175 [.int .u64 x]]) [Res.row o 175 [.int .u64 (k5 x)]])) _ hw
        refine zB ?_
        refine zC rfl ?_
        refine zp rfl rfl ?_
        refine ya 0 (v := .int .u64 (k5 x)) rfl rfl rfl (by kernel_rfl) rfl ?_
        refine zE rfl ?_
        refine zA ?_
        exact zN (zu (v := .int .u64 (k5 x)) rfl rfl (fun w' hw => ⟨k5 x, rfl, hw⟩))
      ·
        refine zW 5 rfl hw ?_
        refine ya 0 (v := .int .u64 (ka x)) rfl rfl rfl (by kernel_rfl) rfl ?_
        refine ze (fun w' hw => ?_)
        have hS := hw.sel [] rfl (by decide)
        refine ⟨hS, ?_⟩
        refine zm 6 rfl (by kernel_rfl) (by kernel_rfl) (by kernel_rfl) (jy (c := zA8 (ka x) 17) rfl rfl (by decide) rfl) rfl hS ?_
        refine yx 2 (by kernel_rfl) rfl hw ?_
        refine ya 0 (v := .int .u64 (ka x)) rfl rfl rfl (by kernel_rfl) rfl ?_
        refine ze (fun w' hw => ?_)
        have hS := hw.sel [] rfl (by decide)
        refine ⟨hS, ?_⟩
        refine zm 7 rfl (by kernel_rfl) (by kernel_rfl) (by kernel_rfl) (kR (c := k5 x) rfl rfl rfl) rfl hS ?_
        refine zm 8 rfl (by kernel_rfl) (by kernel_rfl) (by kernel_rfl) (zn rfl) rfl hS ?_
        refine yx 9 (by kernel_rfl) rfl hw ?_
        refine zAH (cs := [.int .u64 (ka x)]) 0 rfl rfl rfl (by kernel_rfl) rfl (Nat.le_of_ble_eq_true rfl) ?_
        refine ze (fun w' hw => ?_)
        have hS := hw.sel [] rfl (by decide)
        refine ⟨hS, ?_⟩
        refine xP (by kernel_rfl) ?_
        refine (?_ : C _ _ _ _ _ _ _ (Own w (x3 [Res.row o 175 [.int .u64 x]]) [Res.row o 175 [.int .u64 (k5 x)]])) _ hw
        refine zB ?_
        refine zC rfl ?_
        refine zp rfl rfl ?_
        refine ya 0 (v := .int .u64 (k5 x)) rfl rfl rfl (by kernel_rfl) rfl ?_
        refine zE rfl ?_
        refine zA ?_
        exact zN (zu (v := .int .u64 (k5 x)) rfl rfl (fun w' hw => ⟨k5 x, rfl, hw⟩))
    ·
      refine zW 5 rfl hw ?_
      refine ya 0 (v := .int .u64 (xs1 x)) rfl rfl rfl (by kernel_rfl) rfl ?_
      refine ze (fun w' hw => ?_)
      have hS := hw.sel [] rfl (by decide)
      refine ⟨hS, ?_⟩
      refine zm 6 rfl (by kernel_rfl) (by kernel_rfl) (by kernel_rfl) (zEq (c := zGb (xs1 x) 7) rfl rfl (by decide) rfl) rfl hS ?_
      refine yx 2 (by kernel_rfl) rfl hw ?_
      refine ya 0 (v := .int .u64 (xs1 x)) rfl rfl rfl (by kernel_rfl) rfl ?_
      refine ze (fun w' hw => ?_)
      have hS := hw.sel [] rfl (by decide)
      refine ⟨hS, ?_⟩
      refine zm 7 rfl (by kernel_rfl) (by kernel_rfl) (by kernel_rfl) (kR (c := ka x) rfl rfl rfl) rfl hS ?_
      refine zm 8 rfl (by kernel_rfl) (by kernel_rfl) (by kernel_rfl) (zn rfl) rfl hS ?_
      refine yx 9 (by kernel_rfl) rfl hw ?_
      refine zAH (cs := [.int .u64 (xs1 x)]) 0 rfl rfl rfl (by kernel_rfl) rfl (Nat.le_of_ble_eq_true rfl) ?_
      refine ze (fun w' hw => ?_)
      have hS := hw.sel [] rfl (by decide)
      refine ⟨hS, ?_⟩
      refine xP (by kernel_rfl) ?_
      refine (?_ : C _ _ _ _ _ _ _ (Own w (x3 [Res.row o 175 [.int .u64 x]]) [Res.row o 175 [.int .u64 (ka x)]])) _ hw
      refine zK ?_
      refine zc [] rfl (by decide) (by kernel_rfl) (fun w' hw hS => ?_)
      refine zm 0 rfl (by kernel_rfl) (by kernel_rfl) (by kernel_rfl) (zL) rfl hS ?_
      refine zm 1 rfl (by kernel_rfl) (by kernel_rfl) (by kernel_rfl) (zn rfl) rfl hS ?_
      refine zm 3 rfl (by kernel_rfl) (by kernel_rfl) (by kernel_rfl) (zL) rfl hS ?_
      refine zm 4 rfl (by kernel_rfl) (by kernel_rfl) (by kernel_rfl) (zn rfl) rfl hS ?_
      refine kV (i := 2) (j := 5) (by kernel_rfl) ?_ ?_
      ·
        refine zW 2 rfl hw ?_
        refine ya 0 (v := .int .u64 (ka x)) rfl rfl rfl (by kernel_rfl) rfl ?_
        refine ze (fun w' hw => ?_)
        have hS := hw.sel [] rfl (by decide)
        refine ⟨hS, ?_⟩
        refine yx 5 (by kernel_rfl) rfl hw ?_
        refine ya 0 (v := .int .u64 (ka x)) rfl rfl rfl (by kernel_rfl) rfl ?_
        refine ze (fun w' hw => ?_)
        have hS := hw.sel [] rfl (by decide)
        refine ⟨hS, ?_⟩
        refine zm 6 rfl (by kernel_rfl) (by kernel_rfl) (by kernel_rfl) (jy (c := zA8 (ka x) 17) rfl rfl (by decide) rfl) rfl hS ?_
        refine zm 7 rfl (by kernel_rfl) (by kernel_rfl) (by kernel_rfl) (kR (c := k5 x) rfl rfl rfl) rfl hS ?_
        refine zm 8 rfl (by kernel_rfl) (by kernel_rfl) (by kernel_rfl) (zn rfl) rfl hS ?_
        refine yx 9 (by kernel_rfl) rfl hw ?_
        refine zAH (cs := [.int .u64 (ka x)]) 0 rfl rfl rfl (by kernel_rfl) rfl (Nat.le_of_ble_eq_true rfl) ?_
        refine ze (fun w' hw => ?_)
        have hS := hw.sel [] rfl (by decide)
        refine ⟨hS, ?_⟩
        refine xP (by kernel_rfl) ?_
        refine (?_ : C _ _ _ _ _ _ _ (Own w (x3 [Res.row o 175 [.int .u64 x]]) [Res.row o 175 [.int .u64 (k5 x)]])) _ hw
        refine zB ?_
        refine zC rfl ?_
        refine zp rfl rfl ?_
        refine ya 0 (v := .int .u64 (k5 x)) rfl rfl rfl (by kernel_rfl) rfl ?_
        refine zE rfl ?_
        refine zA ?_
        exact zN (zu (v := .int .u64 (k5 x)) rfl rfl (fun w' hw => ⟨k5 x, rfl, hw⟩))
      ·
        refine zW 5 rfl hw ?_
        refine ya 0 (v := .int .u64 (ka x)) rfl rfl rfl (by kernel_rfl) rfl ?_
        refine ze (fun w' hw => ?_)
        have hS := hw.sel [] rfl (by decide)
        refine ⟨hS, ?_⟩
        refine zm 6 rfl (by kernel_rfl) (by kernel_rfl) (by kernel_rfl) (jy (c := zA8 (ka x) 17) rfl rfl (by decide) rfl) rfl hS ?_
        refine yx 2 (by kernel_rfl) rfl hw ?_
        refine ya 0 (v := .int .u64 (ka x)) rfl rfl rfl (by kernel_rfl) rfl ?_
        refine ze (fun w' hw => ?_)
        have hS := hw.sel [] rfl (by decide)
        refine ⟨hS, ?_⟩
        refine zm 7 rfl (by kernel_rfl) (by kernel_rfl) (by kernel_rfl) (kR (c := k5 x) rfl rfl rfl) rfl hS ?_
        refine zm 8 rfl (by kernel_rfl) (by kernel_rfl) (by kernel_rfl) (zn rfl) rfl hS ?_
        refine yx 9 (by kernel_rfl) rfl hw ?_
        refine zAH (cs := [.int .u64 (ka x)]) 0 rfl rfl rfl (by kernel_rfl) rfl (Nat.le_of_ble_eq_true rfl) ?_
        refine ze (fun w' hw => ?_)
        have hS := hw.sel [] rfl (by decide)
        refine ⟨hS, ?_⟩
        refine xP (by kernel_rfl) ?_
        refine (?_ : C _ _ _ _ _ _ _ (Own w (x3 [Res.row o 175 [.int .u64 x]]) [Res.row o 175 [.int .u64 (k5 x)]])) _ hw
        refine zB ?_
        refine zC rfl ?_
        refine zp rfl rfl ?_
        refine ya 0 (v := .int .u64 (k5 x)) rfl rfl rfl (by kernel_rfl) rfl ?_
        refine zE rfl ?_
        refine zA ?_
        exact zN (zu (v := .int .u64 (k5 x)) rfl rfl (fun w' hw => ⟨k5 x, rfl, hw⟩))
  ·
    refine zW 5 rfl hw ?_
    refine ya 0 (v := .int .u64 x) rfl rfl rfl (by kernel_rfl) rfl ?_
    refine ze (fun w' hw => ?_)
    have hS := hw.sel [] rfl (by decide)
    refine ⟨hS, ?_⟩
    refine zm 6 rfl (by kernel_rfl) (by kernel_rfl) (by kernel_rfl) (jy (c := zA8 x 13) rfl rfl (by decide) rfl) rfl hS ?_
    refine yx 2 (by kernel_rfl) rfl hw ?_
    refine ya 0 (v := .int .u64 x) rfl rfl rfl (by kernel_rfl) rfl ?_
    refine ze (fun w' hw => ?_)
    have hS := hw.sel [] rfl (by decide)
    refine ⟨hS, ?_⟩
    refine zm 7 rfl (by kernel_rfl) (by kernel_rfl) (by kernel_rfl) (kR (c := xs1 x) rfl rfl rfl) rfl hS ?_
    refine zm 8 rfl (by kernel_rfl) (by kernel_rfl) (by kernel_rfl) (zn rfl) rfl hS ?_
    refine yx 9 (by kernel_rfl) rfl hw ?_
    refine zAH (cs := [.int .u64 x]) 0 rfl rfl rfl (by kernel_rfl) rfl (Nat.le_of_ble_eq_true rfl) ?_
    refine ze (fun w' hw => ?_)
    have hS := hw.sel [] rfl (by decide)
    refine ⟨hS, ?_⟩
    refine xP (by kernel_rfl) ?_
    refine (?_ : C _ _ _ _ _ _ _ (Own w (x3 [Res.row o 175 [.int .u64 x]]) [Res.row o 175 [.int .u64 (xs1 x)]])) _ hw
    refine zK ?_
    refine zc [] rfl (by decide) (by kernel_rfl) (fun w' hw hS => ?_)
    refine zm 0 rfl (by kernel_rfl) (by kernel_rfl) (by kernel_rfl) (zL) rfl hS ?_
    refine zm 1 rfl (by kernel_rfl) (by kernel_rfl) (by kernel_rfl) (zn rfl) rfl hS ?_
    refine zm 3 rfl (by kernel_rfl) (by kernel_rfl) (by kernel_rfl) (zL) rfl hS ?_
    refine zm 4 rfl (by kernel_rfl) (by kernel_rfl) (by kernel_rfl) (zn rfl) rfl hS ?_
    refine kV (i := 2) (j := 5) (by kernel_rfl) ?_ ?_
    ·
      refine zW 2 rfl hw ?_
      refine ya 0 (v := .int .u64 (xs1 x)) rfl rfl rfl (by kernel_rfl) rfl ?_
      refine ze (fun w' hw => ?_)
      have hS := hw.sel [] rfl (by decide)
      refine ⟨hS, ?_⟩
      refine yx 5 (by kernel_rfl) rfl hw ?_
      refine ya 0 (v := .int .u64 (xs1 x)) rfl rfl rfl (by kernel_rfl) rfl ?_
      refine ze (fun w' hw => ?_)
      have hS := hw.sel [] rfl (by decide)
      refine ⟨hS, ?_⟩
      refine zm 6 rfl (by kernel_rfl) (by kernel_rfl) (by kernel_rfl) (zEq (c := zGb (xs1 x) 7) rfl rfl (by decide) rfl) rfl hS ?_
      refine zm 7 rfl (by kernel_rfl) (by kernel_rfl) (by kernel_rfl) (kR (c := ka x) rfl rfl rfl) rfl hS ?_
      refine zm 8 rfl (by kernel_rfl) (by kernel_rfl) (by kernel_rfl) (zn rfl) rfl hS ?_
      refine yx 9 (by kernel_rfl) rfl hw ?_
      refine zAH (cs := [.int .u64 (xs1 x)]) 0 rfl rfl rfl (by kernel_rfl) rfl (Nat.le_of_ble_eq_true rfl) ?_
      refine ze (fun w' hw => ?_)
      have hS := hw.sel [] rfl (by decide)
      refine ⟨hS, ?_⟩
      refine xP (by kernel_rfl) ?_
      refine (?_ : C _ _ _ _ _ _ _ (Own w (x3 [Res.row o 175 [.int .u64 x]]) [Res.row o 175 [.int .u64 (ka x)]])) _ hw
      refine zK ?_
      refine zc [] rfl (by decide) (by kernel_rfl) (fun w' hw hS => ?_)
      refine zm 0 rfl (by kernel_rfl) (by kernel_rfl) (by kernel_rfl) (zL) rfl hS ?_
      refine zm 1 rfl (by kernel_rfl) (by kernel_rfl) (by kernel_rfl) (zn rfl) rfl hS ?_
      refine zm 3 rfl (by kernel_rfl) (by kernel_rfl) (by kernel_rfl) (zL) rfl hS ?_
      refine zm 4 rfl (by kernel_rfl) (by kernel_rfl) (by kernel_rfl) (zn rfl) rfl hS ?_
      refine kV (i := 2) (j := 5) (by kernel_rfl) ?_ ?_
      ·
        refine zW 2 rfl hw ?_
        refine ya 0 (v := .int .u64 (ka x)) rfl rfl rfl (by kernel_rfl) rfl ?_
        refine ze (fun w' hw => ?_)
        have hS := hw.sel [] rfl (by decide)
        refine ⟨hS, ?_⟩
        refine yx 5 (by kernel_rfl) rfl hw ?_
        refine ya 0 (v := .int .u64 (ka x)) rfl rfl rfl (by kernel_rfl) rfl ?_
        refine ze (fun w' hw => ?_)
        have hS := hw.sel [] rfl (by decide)
        refine ⟨hS, ?_⟩
        refine zm 6 rfl (by kernel_rfl) (by kernel_rfl) (by kernel_rfl) (jy (c := zA8 (ka x) 17) rfl rfl (by decide) rfl) rfl hS ?_
        refine zm 7 rfl (by kernel_rfl) (by kernel_rfl) (by kernel_rfl) (kR (c := k5 x) rfl rfl rfl) rfl hS ?_
        refine zm 8 rfl (by kernel_rfl) (by kernel_rfl) (by kernel_rfl) (zn rfl) rfl hS ?_
        refine yx 9 (by kernel_rfl) rfl hw ?_
        refine zAH (cs := [.int .u64 (ka x)]) 0 rfl rfl rfl (by kernel_rfl) rfl (Nat.le_of_ble_eq_true rfl) ?_
        refine ze (fun w' hw => ?_)
        have hS := hw.sel [] rfl (by decide)
        refine ⟨hS, ?_⟩
        refine xP (by kernel_rfl) ?_
        refine (?_ : C _ _ _ _ _ _ _ (Own w (x3 [Res.row o 175 [.int .u64 x]]) [Res.row o 175 [.int .u64 (k5 x)]])) _ hw
        refine zB ?_
        refine zC rfl ?_
        refine zp rfl rfl ?_
        refine ya 0 (v := .int .u64 (k5 x)) rfl rfl rfl (by kernel_rfl) rfl ?_
        refine zE rfl ?_
        refine zA ?_
        exact zN (zu (v := .int .u64 (k5 x)) rfl rfl (fun w' hw => ⟨k5 x, rfl, hw⟩))
      ·
        refine zW 5 rfl hw ?_
        refine ya 0 (v := .int .u64 (ka x)) rfl rfl rfl (by kernel_rfl) rfl ?_
        refine ze (fun w' hw => ?_)
        have hS := hw.sel [] rfl (by decide)
        refine ⟨hS, ?_⟩
        refine zm 6 rfl (by kernel_rfl) (by kernel_rfl) (by kernel_rfl) (jy (c := zA8 (ka x) 17) rfl rfl (by decide) rfl) rfl hS ?_
        refine yx 2 (by kernel_rfl) rfl hw ?_
        refine ya 0 (v := .int .u64 (ka x)) rfl rfl rfl (by kernel_rfl) rfl ?_
        refine ze (fun w' hw => ?_)
        have hS := hw.sel [] rfl (by decide)
        refine ⟨hS, ?_⟩
        refine zm 7 rfl (by kernel_rfl) (by kernel_rfl) (by kernel_rfl) (kR (c := k5 x) rfl rfl rfl) rfl hS ?_
        refine zm 8 rfl (by kernel_rfl) (by kernel_rfl) (by kernel_rfl) (zn rfl) rfl hS ?_
        refine yx 9 (by kernel_rfl) rfl hw ?_
        refine zAH (cs := [.int .u64 (ka x)]) 0 rfl rfl rfl (by kernel_rfl) rfl (Nat.le_of_ble_eq_true rfl) ?_
        refine ze (fun w' hw => ?_)
        have hS := hw.sel [] rfl (by decide)
        refine ⟨hS, ?_⟩
        refine xP (by kernel_rfl) ?_
        refine (?_ : C _ _ _ _ _ _ _ (Own w (x3 [Res.row o 175 [.int .u64 x]]) [Res.row o 175 [.int .u64 (k5 x)]])) _ hw
        refine zB ?_
        refine zC rfl ?_
        refine zp rfl rfl ?_
        refine ya 0 (v := .int .u64 (k5 x)) rfl rfl rfl (by kernel_rfl) rfl ?_
        refine zE rfl ?_
        refine zA ?_
        exact zN (zu (v := .int .u64 (k5 x)) rfl rfl (fun w' hw => ⟨k5 x, rfl, hw⟩))
    ·
      refine zW 5 rfl hw ?_
      refine ya 0 (v := .int .u64 (xs1 x)) rfl rfl rfl (by kernel_rfl) rfl ?_
      refine ze (fun w' hw => ?_)
      have hS := hw.sel [] rfl (by decide)
      refine ⟨hS, ?_⟩
      refine zm 6 rfl (by kernel_rfl) (by kernel_rfl) (by kernel_rfl) (zEq (c := zGb (xs1 x) 7) rfl rfl (by decide) rfl) rfl hS ?_
      refine yx 2 (by kernel_rfl) rfl hw ?_
      refine ya 0 (v := .int .u64 (xs1 x)) rfl rfl rfl (by kernel_rfl) rfl ?_
      refine ze (fun w' hw => ?_)
      have hS := hw.sel [] rfl (by decide)
      refine ⟨hS, ?_⟩
      refine zm 7 rfl (by kernel_rfl) (by kernel_rfl) (by kernel_rfl) (kR (c := ka x) rfl rfl rfl) rfl hS ?_
      refine zm 8 rfl (by kernel_rfl) (by kernel_rfl) (by kernel_rfl) (zn rfl) rfl hS ?_
      refine yx 9 (by kernel_rfl) rfl hw ?_
      refine zAH (cs := [.int .u64 (xs1 x)]) 0 rfl rfl rfl (by kernel_rfl) rfl (Nat.le_of_ble_eq_true rfl) ?_
      refine ze (fun w' hw => ?_)
      have hS := hw.sel [] rfl (by decide)
      refine ⟨hS, ?_⟩
      refine xP (by kernel_rfl) ?_
      refine (?_ : C _ _ _ _ _ _ _ (Own w (x3 [Res.row o 175 [.int .u64 x]]) [Res.row o 175 [.int .u64 (ka x)]])) _ hw
      refine zK ?_
      refine zc [] rfl (by decide) (by kernel_rfl) (fun w' hw hS => ?_)
      refine zm 0 rfl (by kernel_rfl) (by kernel_rfl) (by kernel_rfl) (zL) rfl hS ?_
      refine zm 1 rfl (by kernel_rfl) (by kernel_rfl) (by kernel_rfl) (zn rfl) rfl hS ?_
      refine zm 3 rfl (by kernel_rfl) (by kernel_rfl) (by kernel_rfl) (zL) rfl hS ?_
      refine zm 4 rfl (by kernel_rfl) (by kernel_rfl) (by kernel_rfl) (zn rfl) rfl hS ?_
      refine kV (i := 2) (j := 5) (by kernel_rfl) ?_ ?_
      ·
        refine zW 2 rfl hw ?_
        refine ya 0 (v := .int .u64 (ka x)) rfl rfl rfl (by kernel_rfl) rfl ?_
        refine ze (fun w' hw => ?_)
        have hS := hw.sel [] rfl (by decide)
        refine ⟨hS, ?_⟩
        refine yx 5 (by kernel_rfl) rfl hw ?_
        refine ya 0 (v := .int .u64 (ka x)) rfl rfl rfl (by kernel_rfl) rfl ?_
        refine ze (fun w' hw => ?_)
        have hS := hw.sel [] rfl (by decide)
        refine ⟨hS, ?_⟩
        refine zm 6 rfl (by kernel_rfl) (by kernel_rfl) (by kernel_rfl) (jy (c := zA8 (ka x) 17) rfl rfl (by decide) rfl) rfl hS ?_
        refine zm 7 rfl (by kernel_rfl) (by kernel_rfl) (by kernel_rfl) (kR (c := k5 x) rfl rfl rfl) rfl hS ?_
        refine zm 8 rfl (by kernel_rfl) (by kernel_rfl) (by kernel_rfl) (zn rfl) rfl hS ?_
        refine yx 9 (by kernel_rfl) rfl hw ?_
        refine zAH (cs := [.int .u64 (ka x)]) 0 rfl rfl rfl (by kernel_rfl) rfl (Nat.le_of_ble_eq_true rfl) ?_
        refine ze (fun w' hw => ?_)
        have hS := hw.sel [] rfl (by decide)
        refine ⟨hS, ?_⟩
        refine xP (by kernel_rfl) ?_
        refine (?_ : C _ _ _ _ _ _ _ (Own w (x3 [Res.row o 175 [.int .u64 x]]) [Res.row o 175 [.int .u64 (k5 x)]])) _ hw
        refine zB ?_
        refine zC rfl ?_
        refine zp rfl rfl ?_
        refine ya 0 (v := .int .u64 (k5 x)) rfl rfl rfl (by kernel_rfl) rfl ?_
        refine zE rfl ?_
        refine zA ?_
        exact zN (zu (v := .int .u64 (k5 x)) rfl rfl (fun w' hw => ⟨k5 x, rfl, hw⟩))
      ·
        refine zW 5 rfl hw ?_
        refine ya 0 (v := .int .u64 (ka x)) rfl rfl rfl (by kernel_rfl) rfl ?_
        refine ze (fun w' hw => ?_)
        have hS := hw.sel [] rfl (by decide)
        refine ⟨hS, ?_⟩
        refine zm 6 rfl (by kernel_rfl) (by kernel_rfl) (by kernel_rfl) (jy (c := zA8 (ka x) 17) rfl rfl (by decide) rfl) rfl hS ?_
        refine yx 2 (by kernel_rfl) rfl hw ?_
        refine ya 0 (v := .int .u64 (ka x)) rfl rfl rfl (by kernel_rfl) rfl ?_
        refine ze (fun w' hw => ?_)
        have hS := hw.sel [] rfl (by decide)
        refine ⟨hS, ?_⟩
        refine zm 7 rfl (by kernel_rfl) (by kernel_rfl) (by kernel_rfl) (kR (c := k5 x) rfl rfl rfl) rfl hS ?_
        refine zm 8 rfl (by kernel_rfl) (by kernel_rfl) (by kernel_rfl) (zn rfl) rfl hS ?_
        refine yx 9 (by kernel_rfl) rfl hw ?_
        refine zAH (cs := [.int .u64 (ka x)]) 0 rfl rfl rfl (by kernel_rfl) rfl (Nat.le_of_ble_eq_true rfl) ?_
        refine ze (fun w' hw => ?_)
        have hS := hw.sel [] rfl (by decide)
        refine ⟨hS, ?_⟩
        refine xP (by kernel_rfl) ?_
        refine (?_ : C _ _ _ _ _ _ _ (Own w (x3 [Res.row o 175 [.int .u64 x]]) [Res.row o 175 [.int .u64 (k5 x)]])) _ hw
        refine zB ?_
        refine zC rfl ?_
        refine zp rfl rfl ?_
        refine ya 0 (v := .int .u64 (k5 x)) rfl rfl rfl (by kernel_rfl) rfl ?_
        refine zE rfl ?_
        refine zA ?_
        exact zN (zu (v := .int .u64 (k5 x)) rfl rfl (fun w' hw => ⟨k5 x, rfl, hw⟩))
end Go.Proofs.YtcdiehplbmkmeaaGreat
