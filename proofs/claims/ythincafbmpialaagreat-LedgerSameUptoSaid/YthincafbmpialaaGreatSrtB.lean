import Derived.Test.YthincafbmpialaaGreatSrt
import Derived.Test.YthincafbmpialaaGreatFwU
import Derived.Test.YthincafbmpialaaGreatCodec
import Derived.Test.YthincafbmpialaaGreatChecked
set_option linter.unusedSectionVars false
set_option linter.unusedSimpArgs false
set_option linter.unusedVariables false
set_option maxRecDepth 10000
namespace Go.Proofs.YthincafbmpialaaGreat
open Go Go.Sc Go.Proofs
theorem vi {a b : Int} (h : a = b) : Value.int .i64 a = Value.int .i64 b := by rw [h]
theorem wsi {a b : Nat} (h : b ≤ a) (h2 : a < 9223372036854775808) : IntKind.i64.wrap ((a : Int) - (b : Int)) = ((a - b : Nat) : Int) := by
  rw [show (a : Int) - (b : Int) = ((a - b : Nat) : Int) by omega]; exact zz (by omega)
theorem kE {a : Nat} (h : 1 ≤ a) (h2 : a < 9223372036854775808) : IntKind.i64.wrap ((a : Int) - 1) = ((a - 1 : Nat) : Int) := wsi (b := 1) h h2
theorem qui {a b : Nat} (h : a < 9223372036854775808) : IntKind.i64.wrap ((a : Int).tdiv (b : Int)) = ((a / b : Nat) : Int) := by
  have : (a : Int).tdiv (b : Int) = ((a / b : Nat) : Int) := rfl
  rw [this]
  have h2 := Nat.div_le_self a b
  generalize a / b = c at h2 ⊢
  exact zz (by omega)
theorem zKD {α : Type} [Inhabited α] [SO α] {m : List α} {f r hi : Nat} (h : olt (zI m (f + (2 * r + 1))) (zI m (f + (2 * r + 1) + 1))) : ∀ c', c' = 2 * r + 1 ∨ c' = 2 * r + 2 → c' < hi → xq (zI m (f + c')) (zI m (f + (2 * r + 1 + 1))) := by
  intro c' h1 _
  rw [show f + (2 * r + 1) + 1 = f + (2 * r + 1 + 1) by omega] at h
  rcases h1 with rfl | rfl
  · exact xe h
  · exact ko _
theorem zIS {α : Type} [Inhabited α] [SO α] {m : List α} {f r hi : Nat} (h : 2 * r + 1 + 1 < hi → ¬ olt (zI m (f + (2 * r + 1))) (zI m (f + (2 * r + 1) + 1))) : ∀ c', c' = 2 * r + 1 ∨ c' = 2 * r + 2 → c' < hi → xq (zI m (f + c')) (zI m (f + (2 * r + 1))) := by
  intro c' h1 h2
  rcases h1 with rfl | rfl
  · exact ko _
  · have := h (by omega)
    rw [show f + (2 * r + 1) + 1 = f + (2 * r + 2) by omega] at this
    exact this
def zKP (a b : Int) : Int := IntKind.u64.wrap (((a % 2 ^ IntKind.u64.bits).toNat ^^^ (b % 2 ^ IntKind.u64.bits).toNat : Nat) : Int)
def zBm (a b : Int) : Int := IntKind.u64.wrap (a * 2 ^ (min b.toNat IntKind.u64.bits))
def zHa (a b : Int) : Int := a.fdiv (2 ^ (min b.toNat IntKind.u64.bits))
def xs1 (x : Int) : Int := zKP x (zBm x 13)
def jD (x : Int) : Int := zKP (xs1 x) (zHa (xs1 x) 7)
def jO (x : Int) : Int := zKP (jD x) (zBm (jD x) 17)
theorem zDn {n : Nat} (h : n ≤ 1000000000000) : zl n ≤ 40 := xS (by have : (2 : Nat) ^ 40 = 1099511627776 := rfl; omega)
theorem zI2 {n : Nat} (h : n ≤ 1000000000000) : IntKind.u64.wrap ((1 : Int) * 2 ^ (min ((zl n : Nat) : Int).toNat IntKind.u64.bits)) = ((2 ^ zl n : Nat) : Int) := by
  have h1 := zDn h
  have e : min ((zl n : Nat) : Int).toNat IntKind.u64.bits = zl n := by
    rw [Int.toNat_natCast]; show min _ 64 = _; omega
  have h2 : 2 ^ zl n ≤ 2 ^ 40 := Nat.pow_le_pow_right (by decide) h1
  have h3 : (2 : Nat) ^ 40 = 1099511627776 := rfl
  rw [e, Int.one_mul, show ((2 : Int) ^ zl n) = ((2 ^ zl n : Nat) : Int) by rw [Int.natCast_pow]; rfl]
  generalize 2 ^ zl n = z at h2 ⊢
  exact kq (by omega)
theorem zKF {n : Nat} (h : 0 < n) : 2 ^ zl n ≤ 2 * n ∧ 0 < 2 ^ zl n := by
  have h1 := jL h
  have h2 := zB2 h
  refine ⟨?_, Nat.pow_pos (by decide)⟩
  rw [show zl n = (zl n - 1) + 1 by omega, Nat.pow_succ]
  omega
theorem zGp {y : Int} {m : Nat} (h : 0 < m) (hm : m ≤ 4000000000000) : ((y % 18446744073709551616).toNat &&& (m - 1)) < m := by
  have := Nat.and_le_right (n := (y % 18446744073709551616).toNat) (m := m - 1)
  omega
theorem zHK {y : Int} {m : Nat} (h : 0 < m) (hm : m ≤ 4000000000000) : IntKind.u64.wrap (((y % 2 ^ IntKind.u64.bits).toNat &&& (((m - 1 : Nat) : Int) % 2 ^ IntKind.u64.bits).toNat : Nat) : Int) = (((y % 18446744073709551616).toNat &&& (m - 1) : Nat) : Int) := by
  have e : ((((m - 1 : Nat) : Int)) % 2 ^ IntKind.u64.bits).toNat = m - 1 := by
    show ((((m - 1 : Nat) : Int)) % 18446744073709551616).toNat = m - 1
    omega
  have e2 : (y % 2 ^ IntKind.u64.bits).toNat = (y % 18446744073709551616).toNat := rfl
  rw [e, e2]
  have := zGp (y := y) h hm
  exact kq (by omega)
theorem zJN (n : Nat) (w : World) (hn : n < 18446744073709551616) : Rets Tryz.prog 80 #[.int .u64 (n : Nat)] w fun u_ w' => u_ = .int .i64 ((zl n) : Nat) ∧ Own w [] [] w' := by
  exact zCM n hn w
theorem zJp (n : Nat) (w : World) (hn : n < 18446744073709551616) : Rets Tryz.prog 128 #[.int .u64 (n : Nat)] w fun u_ w' => u_ = .int .i64 ((zl n) : Nat) ∧ Own w [] [] w' := by
  refine xQ (args := [.int .u64 (n : Nat)]) Tryz.func128 rfl Tryz.ntmps128 rfl (Own.start w) ?_
  refine zB ?_
  refine zD rfl ?_
  refine zA ?_
  refine zL ?_
  refine xO rfl ?_
  refine zM ?_
  refine zB ?_
  refine zC rfl ?_
  refine zAb (by kernel_rfl) rfl rfl (fun w' hw => ?_)
  refine (zJN n w' (by first | assumption | omega | (simp <;> omega) | (constructor <;> (first | omega | (simp only [zd]; omega) | (simp <;> omega))))).mono ?_
  rintro _ w1 ⟨rfl, hO⟩
  refine (?_ : CL _ _ _ _ _ _ (Own w [] [])) w1 (hw.frame0 hO)
  refine zD rfl ?_
  refine zA ?_
  exact zP (z8 (v := .int .i64 ((zl n) : Nat)) rfl rfl (fun w' hw => ⟨rfl, hw.drop⟩))
theorem zLl (n : Nat) (w : World) (hn : n ≤ 1000000000000) : Rets Tryz.prog 183 #[.int .i64 (n : Nat)] w fun u_ w' => u_ = .int .u64 ((2 ^ zl n) : Nat) ∧ Own w [] [] w' := by
  refine xQ (args := [.int .i64 (n : Nat)]) Tryz.func183 rfl Tryz.ntmps183 rfl (Own.start w) ?_
  refine zB ?_
  refine zD rfl ?_
  refine zA ?_
  refine zB ?_
  refine zC rfl ?_
  refine yv (by kernel_rfl) rfl (kq (by omega)) rfl ?_ (by kernel_rfl)
  refine zAb (by kernel_rfl) rfl rfl (fun w' hw => ?_)
  refine (zJp n w' (by first | assumption | omega | (simp <;> omega) | (constructor <;> (first | omega | (simp only [zd]; omega) | (simp <;> omega))))).mono ?_
  rintro _ w1 ⟨rfl, hO⟩
  refine (?_ : CL _ _ _ _ _ _ (Own w [] [])) w1 (hw.frame0 hO)
  refine zJ3 (c := ((2 ^ zl n : Nat) : Int)) rfl rfl (by omega) (zI2 hn) rfl ?_
  refine zD rfl ?_
  refine zA ?_
  exact zP (z8 (v := .int .u64 (2 ^ zl n : Nat)) rfl rfl (fun w' hw => ⟨rfl, hw.drop⟩))
theorem zKV (o : Nat) (x : Int) (w : World) (hin : Own w (xN [Res.row o 237 [.int .u64 x]]) [Res.row o 237 [.int .u64 x]] w) : Rets Tryz.prog 184 #[.pointer (some ⟨o, 0, none⟩)] w fun u_ w' => ∃ (y : Int), u_ = .int .u64 y ∧ Own w (xN [Res.row o 237 [.int .u64 x]]) [Res.row o 237 [.int .u64 y]] w' := by
  refine xQ (args := [.pointer (some ⟨o, 0, none⟩)]) Tryz.func184 rfl Tryz.ntmps184 rfl (show Own w (xN [Res.row o 237 [.int .u64 x]]) [Res.row o 237 [.int .u64 x]] w from hin) ?_
  refine zB ?_
  refine zD rfl ?_
  refine zA ?_
  refine zL ?_
  refine zi [] rfl (by decide) (by kernel_rfl) (fun w' hw hS => ?_)
  refine zn 0 rfl (by kernel_rfl) (by kernel_rfl) (by kernel_rfl) (zN) rfl hS ?_
  refine zn 1 rfl (by kernel_rfl) (by kernel_rfl) (by kernel_rfl) (yJ rfl) rfl hS ?_
  refine zn 3 rfl (by kernel_rfl) (by kernel_rfl) (by kernel_rfl) (zN) rfl hS ?_
  refine zn 4 rfl (by kernel_rfl) (by kernel_rfl) (by kernel_rfl) (yJ rfl) rfl hS ?_
  refine kw (i := 2) (j := 5) (by kernel_rfl) ?_ ?_
  ·
    refine zT 2 rfl hw ?_
    refine yk 0 (v := .int .u64 x) rfl rfl rfl (by kernel_rfl) rfl ?_
    refine zf (fun w' hw => ?_)
    have hS := hw.sel [] rfl (by decide)
    refine ⟨hS, ?_⟩
    refine xC 5 (by kernel_rfl) rfl hw ?_
    refine yk 0 (v := .int .u64 x) rfl rfl rfl (by kernel_rfl) rfl ?_
    refine zf (fun w' hw => ?_)
    have hS := hw.sel [] rfl (by decide)
    refine ⟨hS, ?_⟩
    refine zn 6 rfl (by kernel_rfl) (by kernel_rfl) (by kernel_rfl) (zAU (c := zBm x 13) rfl rfl (by decide) rfl) rfl hS ?_
    refine zn 7 rfl (by kernel_rfl) (by kernel_rfl) (by kernel_rfl) (ky (c := xs1 x) rfl rfl rfl) rfl hS ?_
    refine zn 8 rfl (by kernel_rfl) (by kernel_rfl) (by kernel_rfl) (yJ rfl) rfl hS ?_
    refine xC 9 (by kernel_rfl) rfl hw ?_
    refine zAc (cs := [.int .u64 x]) 0 rfl rfl rfl (by kernel_rfl) rfl (Nat.le_of_ble_eq_true rfl) ?_
    refine zf (fun w' hw => ?_)
    have hS := hw.sel [] rfl (by decide)
    refine ⟨hS, ?_⟩
    refine x0 (by kernel_rfl) ?_
    refine (?_ : C _ _ _ _ _ _ _ (Own w (xN [Res.row o 237 [.int .u64 x]]) [Res.row o 237 [.int .u64 (xs1 x)]])) _ hw
    refine zL ?_
    refine zi [] rfl (by decide) (by kernel_rfl) (fun w' hw hS => ?_)
    refine zn 0 rfl (by kernel_rfl) (by kernel_rfl) (by kernel_rfl) (zN) rfl hS ?_
    refine zn 1 rfl (by kernel_rfl) (by kernel_rfl) (by kernel_rfl) (yJ rfl) rfl hS ?_
    refine zn 3 rfl (by kernel_rfl) (by kernel_rfl) (by kernel_rfl) (zN) rfl hS ?_
    refine zn 4 rfl (by kernel_rfl) (by kernel_rfl) (by kernel_rfl) (yJ rfl) rfl hS ?_
    refine kw (i := 2) (j := 5) (by kernel_rfl) ?_ ?_
    ·
      refine zT 2 rfl hw ?_
      refine yk 0 (v := .int .u64 (xs1 x)) rfl rfl rfl (by kernel_rfl) rfl ?_
      refine zf (fun w' hw => ?_)
      have hS := hw.sel [] rfl (by decide)
      refine ⟨hS, ?_⟩
      refine xC 5 (by kernel_rfl) rfl hw ?_
      refine yk 0 (v := .int .u64 (xs1 x)) rfl rfl rfl (by kernel_rfl) rfl ?_
      refine zf (fun w' hw => ?_)
      have hS := hw.sel [] rfl (by decide)
      refine ⟨hS, ?_⟩
      refine zn 6 rfl (by kernel_rfl) (by kernel_rfl) (by kernel_rfl) (zFc (c := zHa (xs1 x) 7) rfl rfl (by decide) rfl) rfl hS ?_
      refine zn 7 rfl (by kernel_rfl) (by kernel_rfl) (by kernel_rfl) (ky (c := jD x) rfl rfl rfl) rfl hS ?_
      refine zn 8 rfl (by kernel_rfl) (by kernel_rfl) (by kernel_rfl) (yJ rfl) rfl hS ?_
      refine xC 9 (by kernel_rfl) rfl hw ?_
      refine zAc (cs := [.int .u64 (xs1 x)]) 0 rfl rfl rfl (by kernel_rfl) rfl (Nat.le_of_ble_eq_true rfl) ?_
      refine zf (fun w' hw => ?_)
      have hS := hw.sel [] rfl (by decide)
      refine ⟨hS, ?_⟩
      refine x0 (by kernel_rfl) ?_
      refine (?_ : C _ _ _ _ _ _ _ (Own w (xN [Res.row o 237 [.int .u64 x]]) [Res.row o 237 [.int .u64 (jD x)]])) _ hw
      refine zL ?_
      refine zi [] rfl (by decide) (by kernel_rfl) (fun w' hw hS => ?_)
      refine zn 0 rfl (by kernel_rfl) (by kernel_rfl) (by kernel_rfl) (zN) rfl hS ?_
      refine zn 1 rfl (by kernel_rfl) (by kernel_rfl) (by kernel_rfl) (yJ rfl) rfl hS ?_
      refine zn 3 rfl (by kernel_rfl) (by kernel_rfl) (by kernel_rfl) (zN) rfl hS ?_
      refine zn 4 rfl (by kernel_rfl) (by kernel_rfl) (by kernel_rfl) (yJ rfl) rfl hS ?_
      refine kw (i := 2) (j := 5) (by kernel_rfl) ?_ ?_
      ·
        refine zT 2 rfl hw ?_
        refine yk 0 (v := .int .u64 (jD x)) rfl rfl rfl (by kernel_rfl) rfl ?_
        refine zf (fun w' hw => ?_)
        have hS := hw.sel [] rfl (by decide)
        refine ⟨hS, ?_⟩
        refine xC 5 (by kernel_rfl) rfl hw ?_
        refine yk 0 (v := .int .u64 (jD x)) rfl rfl rfl (by kernel_rfl) rfl ?_
        refine zf (fun w' hw => ?_)
        have hS := hw.sel [] rfl (by decide)
        refine ⟨hS, ?_⟩
        refine zn 6 rfl (by kernel_rfl) (by kernel_rfl) (by kernel_rfl) (zAU (c := zBm (jD x) 17) rfl rfl (by decide) rfl) rfl hS ?_
        refine zn 7 rfl (by kernel_rfl) (by kernel_rfl) (by kernel_rfl) (ky (c := jO x) rfl rfl rfl) rfl hS ?_
        refine zn 8 rfl (by kernel_rfl) (by kernel_rfl) (by kernel_rfl) (yJ rfl) rfl hS ?_
        refine xC 9 (by kernel_rfl) rfl hw ?_
        refine zAc (cs := [.int .u64 (jD x)]) 0 rfl rfl rfl (by kernel_rfl) rfl (Nat.le_of_ble_eq_true rfl) ?_
        refine zf (fun w' hw => ?_)
        have hS := hw.sel [] rfl (by decide)
        refine ⟨hS, ?_⟩
        refine x0 (by kernel_rfl) ?_
        refine (?_ : C _ _ _ _ _ _ _ (Own w (xN [Res.row o 237 [.int .u64 x]]) [Res.row o 237 [.int .u64 (jO x)]])) _ hw
        refine zB ?_
        refine zC rfl ?_
        refine zr rfl rfl ?_
        refine yk 0 (v := .int .u64 (jO x)) rfl rfl rfl (by kernel_rfl) rfl ?_
        refine zD rfl ?_
        refine zA ?_
        exact zP (z8 (v := .int .u64 (jO x)) rfl rfl (fun w' hw => ⟨jO x, rfl, hw⟩))
      ·
        refine zT 5 rfl hw ?_
        refine yk 0 (v := .int .u64 (jD x)) rfl rfl rfl (by kernel_rfl) rfl ?_
        refine zf (fun w' hw => ?_)
        have hS := hw.sel [] rfl (by decide)
        refine ⟨hS, ?_⟩
        refine zn 6 rfl (by kernel_rfl) (by kernel_rfl) (by kernel_rfl) (zAU (c := zBm (jD x) 17) rfl rfl (by decide) rfl) rfl hS ?_
        refine xC 2 (by kernel_rfl) rfl hw ?_
        refine yk 0 (v := .int .u64 (jD x)) rfl rfl rfl (by kernel_rfl) rfl ?_
        refine zf (fun w' hw => ?_)
        have hS := hw.sel [] rfl (by decide)
        refine ⟨hS, ?_⟩
        refine zn 7 rfl (by kernel_rfl) (by kernel_rfl) (by kernel_rfl) (ky (c := jO x) rfl rfl rfl) rfl hS ?_
        refine zn 8 rfl (by kernel_rfl) (by kernel_rfl) (by kernel_rfl) (yJ rfl) rfl hS ?_
        refine xC 9 (by kernel_rfl) rfl hw ?_
        refine zAc (cs := [.int .u64 (jD x)]) 0 rfl rfl rfl (by kernel_rfl) rfl (Nat.le_of_ble_eq_true rfl) ?_
        refine zf (fun w' hw => ?_)
        have hS := hw.sel [] rfl (by decide)
        refine ⟨hS, ?_⟩
        refine x0 (by kernel_rfl) ?_
        refine (?_ : C _ _ _ _ _ _ _ (Own w (xN [Res.row o 237 [.int .u64 x]]) [Res.row o 237 [.int .u64 (jO x)]])) _ hw
        refine zB ?_
        refine zC rfl ?_
        refine zr rfl rfl ?_
        refine yk 0 (v := .int .u64 (jO x)) rfl rfl rfl (by kernel_rfl) rfl ?_
        refine zD rfl ?_
        refine zA ?_
        exact zP (z8 (v := .int .u64 (jO x)) rfl rfl (fun w' hw => ⟨jO x, rfl, hw⟩))
    ·
      refine zT 5 rfl hw ?_
      refine yk 0 (v := .int .u64 (xs1 x)) rfl rfl rfl (by kernel_rfl) rfl ?_
      refine zf (fun w' hw => ?_)
      have hS := hw.sel [] rfl (by decide)
      refine ⟨hS, ?_⟩
      refine zn 6 rfl (by kernel_rfl) (by kernel_rfl) (by kernel_rfl) (zFc (c := zHa (xs1 x) 7) rfl rfl (by decide) rfl) rfl hS ?_
      refine xC 2 (by kernel_rfl) rfl hw ?_
      refine yk 0 (v := .int .u64 (xs1 x)) rfl rfl rfl (by kernel_rfl) rfl ?_
      refine zf (fun w' hw => ?_)
      have hS := hw.sel [] rfl (by decide)
      refine ⟨hS, ?_⟩
      refine zn 7 rfl (by kernel_rfl) (by kernel_rfl) (by kernel_rfl) (ky (c := jD x) rfl rfl rfl) rfl hS ?_
      refine zn 8 rfl (by kernel_rfl) (by kernel_rfl) (by kernel_rfl) (yJ rfl) rfl hS ?_
      refine xC 9 (by kernel_rfl) rfl hw ?_
      refine zAc (cs := [.int .u64 (xs1 x)]) 0 rfl rfl rfl (by kernel_rfl) rfl (Nat.le_of_ble_eq_true rfl) ?_
      refine zf (fun w' hw => ?_)
      have hS := hw.sel [] rfl (by decide)
      refine ⟨hS, ?_⟩
      refine x0 (by kernel_rfl) ?_
      refine (?_ : C _ _ _ _ _ _ _ (Own w (xN [Res.row o 237 [.int .u64 x]]) [Res.row o 237 [.int .u64 (jD x)]])) _ hw
      refine zL ?_
      refine zi [] rfl (by decide) (by kernel_rfl) (fun w' hw hS => ?_)
      refine zn 0 rfl (by kernel_rfl) (by kernel_rfl) (by kernel_rfl) (zN) rfl hS ?_
      refine zn 1 rfl (by kernel_rfl) (by kernel_rfl) (by kernel_rfl) (yJ rfl) rfl hS ?_
      refine zn 3 rfl (by kernel_rfl) (by kernel_rfl) (by kernel_rfl) (zN) rfl hS ?_
      refine zn 4 rfl (by kernel_rfl) (by kernel_rfl) (by kernel_rfl) (yJ rfl) rfl hS ?_
      refine kw (i := 2) (j := 5) (by kernel_rfl) ?_ ?_
      ·
        refine zT 2 rfl hw ?_
        refine yk 0 (v := .int .u64 (jD x)) rfl rfl rfl (by kernel_rfl) rfl ?_
        refine zf (fun w' hw => ?_)
        have hS := hw.sel [] rfl (by decide)
        refine ⟨hS, ?_⟩
        refine xC 5 (by kernel_rfl) rfl hw ?_
        refine yk 0 (v := .int .u64 (jD x)) rfl rfl rfl (by kernel_rfl) rfl ?_
        refine zf (fun w' hw => ?_)
        have hS := hw.sel [] rfl (by decide)
        refine ⟨hS, ?_⟩
        refine zn 6 rfl (by kernel_rfl) (by kernel_rfl) (by kernel_rfl) (zAU (c := zBm (jD x) 17) rfl rfl (by decide) rfl) rfl hS ?_
        refine zn 7 rfl (by kernel_rfl) (by kernel_rfl) (by kernel_rfl) (ky (c := jO x) rfl rfl rfl) rfl hS ?_
        refine zn 8 rfl (by kernel_rfl) (by kernel_rfl) (by kernel_rfl) (yJ rfl) rfl hS ?_
        refine xC 9 (by kernel_rfl) rfl hw ?_
        refine zAc (cs := [.int .u64 (jD x)]) 0 rfl rfl rfl (by kernel_rfl) rfl (Nat.le_of_ble_eq_true rfl) ?_
        refine zf (fun w' hw => ?_)
        have hS := hw.sel [] rfl (by decide)
        refine ⟨hS, ?_⟩
        refine x0 (by kernel_rfl) ?_
        refine (?_ : C _ _ _ _ _ _ _ (Own w (xN [Res.row o 237 [.int .u64 x]]) [Res.row o 237 [.int .u64 (jO x)]])) _ hw
        refine zB ?_
        refine zC rfl ?_
        refine zr rfl rfl ?_
        refine yk 0 (v := .int .u64 (jO x)) rfl rfl rfl (by kernel_rfl) rfl ?_
        refine zD rfl ?_
        refine zA ?_
        exact zP (z8 (v := .int .u64 (jO x)) rfl rfl (fun w' hw => ⟨jO x, rfl, hw⟩))
      ·
        refine zT 5 rfl hw ?_
        refine yk 0 (v := .int .u64 (jD x)) rfl rfl rfl (by kernel_rfl) rfl ?_
        refine zf (fun w' hw => ?_)
        have hS := hw.sel [] rfl (by decide)
        refine ⟨hS, ?_⟩
        refine zn 6 rfl (by kernel_rfl) (by kernel_rfl) (by kernel_rfl) (zAU (c := zBm (jD x) 17) rfl rfl (by decide) rfl) rfl hS ?_
        refine xC 2 (by kernel_rfl) rfl hw ?_
        refine yk 0 (v := .int .u64 (jD x)) rfl rfl rfl (by kernel_rfl) rfl ?_
        refine zf (fun w' hw => ?_)
        have hS := hw.sel [] rfl (by decide)
        refine ⟨hS, ?_⟩
        refine zn 7 rfl (by kernel_rfl) (by kernel_rfl) (by kernel_rfl) (ky (c := jO x) rfl rfl rfl) rfl hS ?_
        refine zn 8 rfl (by kernel_rfl) (by kernel_rfl) (by kernel_rfl) (yJ rfl) rfl hS ?_
        refine xC 9 (by kernel_rfl) rfl hw ?_
        refine zAc (cs := [.int .u64 (jD x)]) 0 rfl rfl rfl (by kernel_rfl) rfl (Nat.le_of_ble_eq_true rfl) ?_
        refine zf (fun w' hw => ?_)
        have hS := hw.sel [] rfl (by decide)
        refine ⟨hS, ?_⟩
        refine x0 (by kernel_rfl) ?_
        refine (?_ : C _ _ _ _ _ _ _ (Own w (xN [Res.row o 237 [.int .u64 x]]) [Res.row o 237 [.int .u64 (jO x)]])) _ hw
        refine zB ?_
        refine zC rfl ?_
        refine zr rfl rfl ?_
        refine yk 0 (v := .int .u64 (jO x)) rfl rfl rfl (by kernel_rfl) rfl ?_
        refine zD rfl ?_
        refine zA ?_
        exact zP (z8 (v := .int .u64 (jO x)) rfl rfl (fun w' hw => ⟨jO x, rfl, hw⟩))
  ·
    refine zT 5 rfl hw ?_
    refine yk 0 (v := .int .u64 x) rfl rfl rfl (by kernel_rfl) rfl ?_
    refine zf (fun w' hw => ?_)
    have hS := hw.sel [] rfl (by decide)
    refine ⟨hS, ?_⟩
    refine zn 6 rfl (by kernel_rfl) (by kernel_rfl) (by kernel_rfl) (zAU (c := zBm x 13) rfl rfl (by decide) rfl) rfl hS ?_
    refine xC 2 (by kernel_rfl) rfl hw ?_
    refine yk 0 (v := .int .u64 x) rfl rfl rfl (by kernel_rfl) rfl ?_
    refine zf (fun w' hw => ?_)
    have hS := hw.sel [] rfl (by decide)
    refine ⟨hS, ?_⟩
    refine zn 7 rfl (by kernel_rfl) (by kernel_rfl) (by kernel_rfl) (ky (c := xs1 x) rfl rfl rfl) rfl hS ?_
    refine zn 8 rfl (by kernel_rfl) (by kernel_rfl) (by kernel_rfl) (yJ rfl) rfl hS ?_
    refine xC 9 (by kernel_rfl) rfl hw ?_
    refine zAc (cs := [.int .u64 x]) 0 rfl rfl rfl (by kernel_rfl) rfl (Nat.le_of_ble_eq_true rfl) ?_
    refine zf (fun w' hw => ?_)
    have hS := hw.sel [] rfl (by decide)
    refine ⟨hS, ?_⟩
    refine x0 (by kernel_rfl) ?_
    refine (?_ : C _ _ _ _ _ _ _ (Own w (xN [Res.row o 237 [.int .u64 x]]) [Res.row o 237 [.int .u64 (xs1 x)]])) _ hw
    refine zL ?_
    refine zi [] rfl (by decide) (by kernel_rfl) (fun w' hw hS => ?_)
    refine zn 0 rfl (by kernel_rfl) (by kernel_rfl) (by kernel_rfl) (zN) rfl hS ?_
    refine zn 1 rfl (by kernel_rfl) (by kernel_rfl) (by kernel_rfl) (yJ rfl) rfl hS ?_
    refine zn 3 rfl (by kernel_rfl) (by kernel_rfl) (by kernel_rfl) (zN) rfl hS ?_
    refine zn 4 rfl (by kernel_rfl) (by kernel_rfl) (by kernel_rfl) (yJ rfl) rfl hS ?_
    refine kw (i := 2) (j := 5) (by kernel_rfl) ?_ ?_
    ·
      refine zT 2 rfl hw ?_
      refine yk 0 (v := .int .u64 (xs1 x)) rfl rfl rfl (by kernel_rfl) rfl ?_
      refine zf (fun w' hw => ?_)
      have hS := hw.sel [] rfl (by decide)
      refine ⟨hS, ?_⟩
      refine xC 5 (by kernel_rfl) rfl hw ?_
      refine yk 0 (v := .int .u64 (xs1 x)) rfl rfl rfl (by kernel_rfl) rfl ?_
      refine zf (fun w' hw => ?_)
      have hS := hw.sel [] rfl (by decide)
      refine ⟨hS, ?_⟩
      refine zn 6 rfl (by kernel_rfl) (by kernel_rfl) (by kernel_rfl) (zFc (c := zHa (xs1 x) 7) rfl rfl (by decide) rfl) rfl hS ?_
      refine zn 7 rfl (by kernel_rfl) (by kernel_rfl) (by kernel_rfl) (ky (c := jD x) rfl rfl rfl) rfl hS ?_
      refine zn 8 rfl (by kernel_rfl) (by kernel_rfl) (by kernel_rfl) (yJ rfl) rfl hS ?_
      refine xC 9 (by kernel_rfl) rfl hw ?_
      refine zAc (cs := [.int .u64 (xs1 x)]) 0 rfl rfl rfl (by kernel_rfl) rfl (Nat.le_of_ble_eq_true rfl) ?_
      refine zf (fun w' hw => ?_)
      have hS := hw.sel [] rfl (by decide)
      refine ⟨hS, ?_⟩
      refine x0 (by kernel_rfl) ?_
      refine (?_ : C _ _ _ _ _ _ _ (Own w (xN [Res.row o 237 [.int .u64 x]]) [Res.row o 237 [.int .u64 (jD x)]])) _ hw
      refine zL ?_
      refine zi [] rfl (by decide) (by kernel_rfl) (fun w' hw hS => ?_)
      refine zn 0 rfl (by kernel_rfl) (by kernel_rfl) (by kernel_rfl) (zN) rfl hS ?_
      refine zn 1 rfl (by kernel_rfl) (by kernel_rfl) (by kernel_rfl) (yJ rfl) rfl hS ?_
      refine zn 3 rfl (by kernel_rfl) (by kernel_rfl) (by kernel_rfl) (zN) rfl hS ?_
      refine zn 4 rfl (by kernel_rfl) (by kernel_rfl) (by kernel_rfl) (yJ rfl) rfl hS ?_
      refine kw (i := 2) (j := 5) (by kernel_rfl) ?_ ?_
      ·
        refine zT 2 rfl hw ?_
        refine yk 0 (v := .int .u64 (jD x)) rfl rfl rfl (by kernel_rfl) rfl ?_
        refine zf (fun w' hw => ?_)
        have hS := hw.sel [] rfl (by decide)
        refine ⟨hS, ?_⟩
        refine xC 5 (by kernel_rfl) rfl hw ?_
        refine yk 0 (v := .int .u64 (jD x)) rfl rfl rfl (by kernel_rfl) rfl ?_
        refine zf (fun w' hw => ?_)
        have hS := hw.sel [] rfl (by decide)
        refine ⟨hS, ?_⟩
        refine zn 6 rfl (by kernel_rfl) (by kernel_rfl) (by kernel_rfl) (zAU (c := zBm (jD x) 17) rfl rfl (by decide) rfl) rfl hS ?_
        refine zn 7 rfl (by kernel_rfl) (by kernel_rfl) (by kernel_rfl) (ky (c := jO x) rfl rfl rfl) rfl hS ?_
        refine zn 8 rfl (by kernel_rfl) (by kernel_rfl) (by kernel_rfl) (yJ rfl) rfl hS ?_
        refine xC 9 (by kernel_rfl) rfl hw ?_
        refine zAc (cs := [.int .u64 (jD x)]) 0 rfl rfl rfl (by kernel_rfl) rfl (Nat.le_of_ble_eq_true rfl) ?_
        refine zf (fun w' hw => ?_)
        have hS := hw.sel [] rfl (by decide)
        refine ⟨hS, ?_⟩
        refine x0 (by kernel_rfl) ?_
        refine (?_ : C _ _ _ _ _ _ _ (Own w (xN [Res.row o 237 [.int .u64 x]]) [Res.row o 237 [.int .u64 (jO x)]])) _ hw
        refine zB ?_
        refine zC rfl ?_
        refine zr rfl rfl ?_
        refine yk 0 (v := .int .u64 (jO x)) rfl rfl rfl (by kernel_rfl) rfl ?_
        refine zD rfl ?_
        refine zA ?_
        exact zP (z8 (v := .int .u64 (jO x)) rfl rfl (fun w' hw => ⟨jO x, rfl, hw⟩))
      ·
        refine zT 5 rfl hw ?_
        refine yk 0 (v := .int .u64 (jD x)) rfl rfl rfl (by kernel_rfl) rfl ?_
        refine zf (fun w' hw => ?_)
        have hS := hw.sel [] rfl (by decide)
        refine ⟨hS, ?_⟩
        refine zn 6 rfl (by kernel_rfl) (by kernel_rfl) (by kernel_rfl) (zAU (c := zBm (jD x) 17) rfl rfl (by decide) rfl) rfl hS ?_
        refine xC 2 (by kernel_rfl) rfl hw ?_
        refine yk 0 (v := .int .u64 (jD x)) rfl rfl rfl (by kernel_rfl) rfl ?_
        refine zf (fun w' hw => ?_)
        have hS := hw.sel [] rfl (by decide)
        refine ⟨hS, ?_⟩
        refine zn 7 rfl (by kernel_rfl) (by kernel_rfl) (by kernel_rfl) (ky (c := jO x) rfl rfl rfl) rfl hS ?_
        refine zn 8 rfl (by kernel_rfl) (by kernel_rfl) (by kernel_rfl) (yJ rfl) rfl hS ?_
        refine xC 9 (by kernel_rfl) rfl hw ?_
        refine zAc (cs := [.int .u64 (jD x)]) 0 rfl rfl rfl (by kernel_rfl) rfl (Nat.le_of_ble_eq_true rfl) ?_
        refine zf (fun w' hw => ?_)
        have hS := hw.sel [] rfl (by decide)
        refine ⟨hS, ?_⟩
        refine x0 (by kernel_rfl) ?_
        refine (?_ : C _ _ _ _ _ _ _ (Own w (xN [Res.row o 237 [.int .u64 x]]) [Res.row o 237 [.int .u64 (jO x)]])) _ hw
        refine zB ?_
        refine zC rfl ?_
        refine zr rfl rfl ?_
        refine yk 0 (v := .int .u64 (jO x)) rfl rfl rfl (by kernel_rfl) rfl ?_
        refine zD rfl ?_
        refine zA ?_
        exact zP (z8 (v := .int .u64 (jO x)) rfl rfl (fun w' hw => ⟨jO x, rfl, hw⟩))
    ·
      refine zT 5 rfl hw ?_
      refine yk 0 (v := .int .u64 (xs1 x)) rfl rfl rfl (by kernel_rfl) rfl ?_
      refine zf (fun w' hw => ?_)
      have hS := hw.sel [] rfl (by decide)
      refine ⟨hS, ?_⟩
      refine zn 6 rfl (by kernel_rfl) (by kernel_rfl) (by kernel_rfl) (zFc (c := zHa (xs1 x) 7) rfl rfl (by decide) rfl) rfl hS ?_
      refine xC 2 (by kernel_rfl) rfl hw ?_
      refine yk 0 (v := .int .u64 (xs1 x)) rfl rfl rfl (by kernel_rfl) rfl ?_
      refine zf (fun w' hw => ?_)
      have hS := hw.sel [] rfl (by decide)
      refine ⟨hS, ?_⟩
      refine zn 7 rfl (by kernel_rfl) (by kernel_rfl) (by kernel_rfl) (ky (c := jD x) rfl rfl rfl) rfl hS ?_
      refine zn 8 rfl (by kernel_rfl) (by kernel_rfl) (by kernel_rfl) (yJ rfl) rfl hS ?_
      refine xC 9 (by kernel_rfl) rfl hw ?_
      refine zAc (cs := [.int .u64 (xs1 x)]) 0 rfl rfl rfl (by kernel_rfl) rfl (Nat.le_of_ble_eq_true rfl) ?_
      refine zf (fun w' hw => ?_)
      have hS := hw.sel [] rfl (by decide)
      refine ⟨hS, ?_⟩
      refine x0 (by kernel_rfl) ?_
      refine (?_ : C _ _ _ _ _ _ _ (Own w (xN [Res.row o 237 [.int .u64 x]]) [Res.row o 237 [.int .u64 (jD x)]])) _ hw
      refine zL ?_
      refine zi [] rfl (by decide) (by kernel_rfl) (fun w' hw hS => ?_)
      refine zn 0 rfl (by kernel_rfl) (by kernel_rfl) (by kernel_rfl) (zN) rfl hS ?_
      refine zn 1 rfl (by kernel_rfl) (by kernel_rfl) (by kernel_rfl) (yJ rfl) rfl hS ?_
      refine zn 3 rfl (by kernel_rfl) (by kernel_rfl) (by kernel_rfl) (zN) rfl hS ?_
      refine zn 4 rfl (by kernel_rfl) (by kernel_rfl) (by kernel_rfl) (yJ rfl) rfl hS ?_
      refine kw (i := 2) (j := 5) (by kernel_rfl) ?_ ?_
      ·
        refine zT 2 rfl hw ?_
        refine yk 0 (v := .int .u64 (jD x)) rfl rfl rfl (by kernel_rfl) rfl ?_
        refine zf (fun w' hw => ?_)
        have hS := hw.sel [] rfl (by decide)
        refine ⟨hS, ?_⟩
        refine xC 5 (by kernel_rfl) rfl hw ?_
        refine yk 0 (v := .int .u64 (jD x)) rfl rfl rfl (by kernel_rfl) rfl ?_
        refine zf (fun w' hw => ?_)
        have hS := hw.sel [] rfl (by decide)
        refine ⟨hS, ?_⟩
        refine zn 6 rfl (by kernel_rfl) (by kernel_rfl) (by kernel_rfl) (zAU (c := zBm (jD x) 17) rfl rfl (by decide) rfl) rfl hS ?_
        refine zn 7 rfl (by kernel_rfl) (by kernel_rfl) (by kernel_rfl) (ky (c := jO x) rfl rfl rfl) rfl hS ?_
        refine zn 8 rfl (by kernel_rfl) (by kernel_rfl) (by kernel_rfl) (yJ rfl) rfl hS ?_
        refine xC 9 (by kernel_rfl) rfl hw ?_
        refine zAc (cs := [.int .u64 (jD x)]) 0 rfl rfl rfl (by kernel_rfl) rfl (Nat.le_of_ble_eq_true rfl) ?_
        refine zf (fun w' hw => ?_)
        have hS := hw.sel [] rfl (by decide)
        refine ⟨hS, ?_⟩
        refine x0 (by kernel_rfl) ?_
        refine (?_ : C _ _ _ _ _ _ _ (Own w (xN [Res.row o 237 [.int .u64 x]]) [Res.row o 237 [.int .u64 (jO x)]])) _ hw
        refine zB ?_
        refine zC rfl ?_
        refine zr rfl rfl ?_
        refine yk 0 (v := .int .u64 (jO x)) rfl rfl rfl (by kernel_rfl) rfl ?_
        refine zD rfl ?_
        refine zA ?_
        exact zP (z8 (v := .int .u64 (jO x)) rfl rfl (fun w' hw => ⟨jO x, rfl, hw⟩))
      ·
        refine zT 5 rfl hw ?_
        refine yk 0 (v := .int .u64 (jD x)) rfl rfl rfl (by kernel_rfl) rfl ?_
        refine zf (fun w' hw => ?_)
        have hS := hw.sel [] rfl (by decide)
        refine ⟨hS, ?_⟩
        refine zn 6 rfl (by kernel_rfl) (by kernel_rfl) (by kernel_rfl) (zAU (c := zBm (jD x) 17) rfl rfl (by decide) rfl) rfl hS ?_
        refine xC 2 (by kernel_rfl) rfl hw ?_
        refine yk 0 (v := .int .u64 (jD x)) rfl rfl rfl (by kernel_rfl) rfl ?_
        refine zf (fun w' hw => ?_)
        have hS := hw.sel [] rfl (by decide)
        refine ⟨hS, ?_⟩
        refine zn 7 rfl (by kernel_rfl) (by kernel_rfl) (by kernel_rfl) (ky (c := jO x) rfl rfl rfl) rfl hS ?_
        refine zn 8 rfl (by kernel_rfl) (by kernel_rfl) (by kernel_rfl) (yJ rfl) rfl hS ?_
        refine xC 9 (by kernel_rfl) rfl hw ?_
        refine zAc (cs := [.int .u64 (jD x)]) 0 rfl rfl rfl (by kernel_rfl) rfl (Nat.le_of_ble_eq_true rfl) ?_
        refine zf (fun w' hw => ?_)
        have hS := hw.sel [] rfl (by decide)
        refine ⟨hS, ?_⟩
        refine x0 (by kernel_rfl) ?_
        refine (?_ : C _ _ _ _ _ _ _ (Own w (xN [Res.row o 237 [.int .u64 x]]) [Res.row o 237 [.int .u64 (jO x)]])) _ hw
        refine zB ?_
        refine zC rfl ?_
        refine zr rfl rfl ?_
        refine yk 0 (v := .int .u64 (jO x)) rfl rfl rfl (by kernel_rfl) rfl ?_
        refine zD rfl ?_
        refine zA ?_
        exact zP (z8 (v := .int .u64 (jO x)) rfl rfl (fun w' hw => ⟨jO x, rfl, hw⟩))
end Go.Proofs.YthincafbmpialaaGreat
