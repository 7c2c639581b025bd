import Derived.Test.YtcdiehplbmkmeaaGreatSrt
import Derived.Test.YtcdiehplbmkmeaaGreatFwU
import Derived.Test.YtcdiehplbmkmeaaGreatCodec
import Derived.Test.YtcdiehplbmkmeaaGreatChecked
set_option linter.unusedSectionVars false
set_option linter.unusedSimpArgs false
set_option linter.unusedVariables false
set_option maxRecDepth 10000
namespace Go.Proofs.YtcdiehplbmkmeaaGreat
open Go Go.Sc Go.Proofs
theorem vi {a b : Int} (h : a = b) : Value.int .i64 a = Value.int .i64 b := by rw [h]
theorem wsi {a b : Nat} (h : b ≤ a) (h2 : a < 9223372036854775808) : IntKind.i64.wrap ((a : Int) - (b : Int)) = ((a - b : Nat) : Int) := by
  rw [show (a : Int) - (b : Int) = ((a - b : Nat) : Int) by omega]; exact zq (by omega)
theorem xf {a : Nat} (h : 1 ≤ a) (h2 : a < 9223372036854775808) : IntKind.i64.wrap ((a : Int) - 1) = ((a - 1 : Nat) : Int) := wsi (b := 1) h h2
theorem qui {a b : Nat} (h : a < 9223372036854775808) : IntKind.i64.wrap ((a : Int).tdiv (b : Int)) = ((a / b : Nat) : Int) := by
  have : (a : Int).tdiv (b : Int) = ((a / b : Nat) : Int) := rfl
  rw [this]
  have h2 := Nat.div_le_self a b
  generalize a / b = c at h2 ⊢
  exact zq (by omega)
theorem zJQ {α : Type} [Inhabited α] [SO α] {m : List α} {f r hi : Nat} (h : olt (zJ m (f + (2 * r + 1))) (zJ m (f + (2 * r + 1) + 1))) : ∀ c', c' = 2 * r + 1 ∨ c' = 2 * r + 2 → c' < hi → xw (zJ m (f + c')) (zJ m (f + (2 * r + 1 + 1))) := by
  intro c' h1 _
  rw [show f + (2 * r + 1) + 1 = f + (2 * r + 1 + 1) by omega] at h
  rcases h1 with rfl | rfl
  · exact xP h
  · exact kL _
theorem zGN {α : Type} [Inhabited α] [SO α] {m : List α} {f r hi : Nat} (h : 2 * r + 1 + 1 < hi → ¬ olt (zJ m (f + (2 * r + 1))) (zJ m (f + (2 * r + 1) + 1))) : ∀ c', c' = 2 * r + 1 ∨ c' = 2 * r + 2 → c' < hi → xw (zJ m (f + c')) (zJ m (f + (2 * r + 1))) := by
  intro c' h1 h2
  rcases h1 with rfl | rfl
  · exact kL _
  · have := h (by omega)
    rw [show f + (2 * r + 1) + 1 = f + (2 * r + 2) by omega] at this
    exact this
def zJ6 (a b : Int) : Int := IntKind.u64.wrap (((a % 2 ^ IntKind.u64.bits).toNat ^^^ (b % 2 ^ IntKind.u64.bits).toNat : Nat) : Int)
def zA8 (a b : Int) : Int := IntKind.u64.wrap (a * 2 ^ (min b.toNat IntKind.u64.bits))
def zGD (a b : Int) : Int := a.fdiv (2 ^ (min b.toNat IntKind.u64.bits))
def xs1 (x : Int) : Int := zJ6 x (zA8 x 13)
def kY (x : Int) : Int := zJ6 (xs1 x) (zGD (xs1 x) 7)
def kq (x : Int) : Int := zJ6 (kY x) (zA8 (kY x) 17)
theorem zCv {n : Nat} (h : n ≤ 1000000000000) : zh n ≤ 40 := xM (by have : (2 : Nat) ^ 40 = 1099511627776 := rfl; omega)
theorem zIZ {n : Nat} (h : n ≤ 1000000000000) : IntKind.u64.wrap ((1 : Int) * 2 ^ (min ((zh n : Nat) : Int).toNat IntKind.u64.bits)) = ((2 ^ zh n : Nat) : Int) := by
  have h1 := zCv h
  have e : min ((zh n : Nat) : Int).toNat IntKind.u64.bits = zh n := by
    rw [Int.toNat_natCast]; show min _ 64 = _; omega
  have h2 : 2 ^ zh n ≤ 2 ^ 40 := Nat.pow_le_pow_right (by decide) h1
  have h3 : (2 : Nat) ^ 40 = 1099511627776 := rfl
  rw [e, Int.one_mul, show ((2 : Int) ^ zh n) = ((2 ^ zh n : Nat) : Int) by rw [Int.natCast_pow]; rfl]
  generalize 2 ^ zh n = z at h2 ⊢
  exact zCh (by omega)
theorem zJu {n : Nat} (h : 0 < n) : 2 ^ zh n ≤ 2 * n ∧ 0 < 2 ^ zh n := by
  have h1 := jd h
  have h2 := zBZ h
  refine ⟨?_, Nat.pow_pos (by decide)⟩
  rw [show zh n = (zh n - 1) + 1 by omega, Nat.pow_succ]
  omega
theorem zHH {y : Int} {m : Nat} (h : 0 < m) (hm : m ≤ 4000000000000) : ((y % 18446744073709551616).toNat &&& (m - 1)) < m := by
  have := Nat.and_le_right (n := (y % 18446744073709551616).toNat) (m := m - 1)
  omega
theorem zG4 {y : Int} {m : Nat} (h : 0 < m) (hm : m ≤ 4000000000000) : IntKind.u64.wrap (((y % 2 ^ IntKind.u64.bits).toNat &&& (((m - 1 : Nat) : Int) % 2 ^ IntKind.u64.bits).toNat : Nat) : Int) = (((y % 18446744073709551616).toNat &&& (m - 1) : Nat) : Int) := by
  have e : ((((m - 1 : Nat) : Int)) % 2 ^ IntKind.u64.bits).toNat = m - 1 := by
    show ((((m - 1 : Nat) : Int)) % 18446744073709551616).toNat = m - 1
    omega
  have e2 : (y % 2 ^ IntKind.u64.bits).toNat = (y % 18446744073709551616).toNat := rfl
  rw [e, e2]
  have := zHH (y := y) h hm
  exact zCh (by omega)
theorem zIg (n : Nat) (w : World) (hn : n < 18446744073709551616) : Rets Tryz.prog 88 #[.int .u64 (n : Nat)] w fun u_ w' => u_ = .int .i64 ((zh n) : Nat) ∧ Own w [] [] w' := by
  exact zBb n hn w
theorem zI9 (n : Nat) (w : World) (hn : n < 18446744073709551616) : Rets Tryz.prog 67 #[.int .u64 (n : Nat)] w fun u_ w' => u_ = .int .i64 ((zh n) : Nat) ∧ Own w [] [] w' := by
  refine xb (args := [.int .u64 (n : Nat)]) Tryz.func67 rfl Tryz.ntmps67 rfl (Own.start w) ?_
  refine zB ?_
  refine zE rfl ?_
  refine zA ?_
  refine zK ?_
  refine xu rfl ?_
  refine zI ?_
  refine zB ?_
  refine zC rfl ?_
  refine j5 (by kernel_rfl) rfl rfl (fun w' hw => ?_)
  refine (zIg n w' (by first | assumption | omega | (simp <;> omega) | (constructor <;> (first | omega | (simp only [z9]; omega) | (simp <;> omega))))).mono ?_
  rintro _ w1 ⟨rfl, hO⟩
  refine (?_ : CL _ _ _ _ _ _ (Own w [] [])) w1 (hw.frame0 hO)
  refine zE rfl ?_
  refine zA ?_
  exact zM (zy (v := .int .i64 ((zh n) : Nat)) rfl rfl (fun w' hw => ⟨rfl, hw.drop⟩))
theorem zKi (n : Nat) (w : World) (hn : n ≤ 1000000000000) : Rets Tryz.prog 100 #[.int .i64 (n : Nat)] w fun u_ w' => u_ = .int .u64 ((2 ^ zh n) : Nat) ∧ Own w [] [] w' := by
  refine xb (args := [.int .i64 (n : Nat)]) Tryz.func100 rfl Tryz.ntmps100 rfl (Own.start w) ?_
  refine zB ?_
  refine zE rfl ?_
  refine zA ?_
  refine zB ?_
  refine zC rfl ?_
  refine x2 (by kernel_rfl) rfl (zCh (by omega)) rfl ?_ (by kernel_rfl)
  refine j5 (by kernel_rfl) rfl rfl (fun w' hw => ?_)
  refine (zI9 n w' (by first | assumption | omega | (simp <;> omega) | (constructor <;> (first | omega | (simp only [z9]; omega) | (simp <;> omega))))).mono ?_
  rintro _ w1 ⟨rfl, hO⟩
  refine (?_ : CL _ _ _ _ _ _ (Own w [] [])) w1 (hw.frame0 hO)
  refine zK4 (c := ((2 ^ zh n : Nat) : Int)) rfl rfl (by omega) (zIZ hn) rfl ?_
  refine zE rfl ?_
  refine zA ?_
  exact zM (zy (v := .int .u64 (2 ^ zh n : Nat)) rfl rfl (fun w' hw => ⟨rfl, hw.drop⟩))
theorem zJF (o : Nat) (x : Int) (w : World) (hin : Own w (x0 [Res.row o 175 [.int .u64 x]]) [Res.row o 175 [.int .u64 x]] w) : Rets Tryz.prog 101 #[.pointer (some ⟨o, 0, none⟩)] w fun u_ w' => ∃ (y : Int), u_ = .int .u64 y ∧ Own w (x0 [Res.row o 175 [.int .u64 x]]) [Res.row o 175 [.int .u64 y]] w' := by
  refine xb (args := [.pointer (some ⟨o, 0, none⟩)]) Tryz.func101 rfl Tryz.ntmps101 rfl (show Own w (x0 [Res.row o 175 [.int .u64 x]]) [Res.row o 175 [.int .u64 x]] w from hin) ?_
  refine zB ?_
  refine zE rfl ?_
  refine zA ?_
  refine zK ?_
  refine zc [] rfl (by decide) (by kernel_rfl) (fun w' hw hS => ?_)
  refine zm 0 rfl (by kernel_rfl) (by kernel_rfl) (by kernel_rfl) (zL) rfl hS ?_
  refine zm 1 rfl (by kernel_rfl) (by kernel_rfl) (by kernel_rfl) (zn rfl) rfl hS ?_
  refine zm 3 rfl (by kernel_rfl) (by kernel_rfl) (by kernel_rfl) (zL) rfl hS ?_
  refine zm 4 rfl (by kernel_rfl) (by kernel_rfl) (by kernel_rfl) (zn rfl) rfl hS ?_
  refine kP (i := 2) (j := 5) (by kernel_rfl) ?_ ?_
  ·
    refine zU 2 rfl hw ?_
    refine yc 0 (v := .int .u64 x) rfl rfl rfl (by kernel_rfl) rfl ?_
    refine ze (fun w' hw => ?_)
    have hS := hw.sel [] rfl (by decide)
    refine ⟨hS, ?_⟩
    refine yv 5 (by kernel_rfl) rfl hw ?_
    refine yc 0 (v := .int .u64 x) rfl rfl rfl (by kernel_rfl) rfl ?_
    refine ze (fun w' hw => ?_)
    have hS := hw.sel [] rfl (by decide)
    refine ⟨hS, ?_⟩
    refine zm 6 rfl (by kernel_rfl) (by kernel_rfl) (by kernel_rfl) (jy (c := zA8 x 13) rfl rfl (by decide) rfl) rfl hS ?_
    refine zm 7 rfl (by kernel_rfl) (by kernel_rfl) (by kernel_rfl) (kQ (c := xs1 x) rfl rfl rfl) rfl hS ?_
    refine zm 8 rfl (by kernel_rfl) (by kernel_rfl) (by kernel_rfl) (zn rfl) rfl hS ?_
    refine yv 9 (by kernel_rfl) rfl hw ?_
    refine j8 (cs := [.int .u64 x]) 0 rfl rfl rfl (by kernel_rfl) rfl (Nat.le_of_ble_eq_true rfl) ?_
    refine ze (fun w' hw => ?_)
    have hS := hw.sel [] rfl (by decide)
    refine ⟨hS, ?_⟩
    refine xR (by kernel_rfl) ?_
    refine (?_ : C _ _ _ _ _ _ _ (Own w (x0 [Res.row o 175 [.int .u64 x]]) [Res.row o 175 [.int .u64 (xs1 x)]])) _ hw
    refine zK ?_
    refine zc [] rfl (by decide) (by kernel_rfl) (fun w' hw hS => ?_)
    refine zm 0 rfl (by kernel_rfl) (by kernel_rfl) (by kernel_rfl) (zL) rfl hS ?_
    refine zm 1 rfl (by kernel_rfl) (by kernel_rfl) (by kernel_rfl) (zn rfl) rfl hS ?_
    refine zm 3 rfl (by kernel_rfl) (by kernel_rfl) (by kernel_rfl) (zL) rfl hS ?_
    refine zm 4 rfl (by kernel_rfl) (by kernel_rfl) (by kernel_rfl) (zn rfl) rfl hS ?_
    refine kP (i := 2) (j := 5) (by kernel_rfl) ?_ ?_
    ·
      refine zU 2 rfl hw ?_
      refine yc 0 (v := .int .u64 (xs1 x)) rfl rfl rfl (by kernel_rfl) rfl ?_
      refine ze (fun w' hw => ?_)
      have hS := hw.sel [] rfl (by decide)
      refine ⟨hS, ?_⟩
      refine yv 5 (by kernel_rfl) rfl hw ?_
      refine yc 0 (v := .int .u64 (xs1 x)) rfl rfl rfl (by kernel_rfl) rfl ?_
      refine ze (fun w' hw => ?_)
      have hS := hw.sel [] rfl (by decide)
      refine ⟨hS, ?_⟩
      refine zm 6 rfl (by kernel_rfl) (by kernel_rfl) (by kernel_rfl) (zEW (c := zGD (xs1 x) 7) rfl rfl (by decide) rfl) rfl hS ?_
      refine zm 7 rfl (by kernel_rfl) (by kernel_rfl) (by kernel_rfl) (kQ (c := kY x) rfl rfl rfl) rfl hS ?_
      refine zm 8 rfl (by kernel_rfl) (by kernel_rfl) (by kernel_rfl) (zn rfl) rfl hS ?_
      refine yv 9 (by kernel_rfl) rfl hw ?_
      refine j8 (cs := [.int .u64 (xs1 x)]) 0 rfl rfl rfl (by kernel_rfl) rfl (Nat.le_of_ble_eq_true rfl) ?_
      refine ze (fun w' hw => ?_)
      have hS := hw.sel [] rfl (by decide)
      refine ⟨hS, ?_⟩
      refine xR (by kernel_rfl) ?_
      refine (?_ : C _ _ _ _ _ _ _ (Own w (x0 [Res.row o 175 [.int .u64 x]]) [Res.row o 175 [.int .u64 (kY x)]])) _ hw
      refine zK ?_
      refine zc [] rfl (by decide) (by kernel_rfl) (fun w' hw hS => ?_)
      refine zm 0 rfl (by kernel_rfl) (by kernel_rfl) (by kernel_rfl) (zL) rfl hS ?_
      refine zm 1 rfl (by kernel_rfl) (by kernel_rfl) (by kernel_rfl) (zn rfl) rfl hS ?_
      refine zm 3 rfl (by kernel_rfl) (by kernel_rfl) (by kernel_rfl) (zL) rfl hS ?_
      refine zm 4 rfl (by kernel_rfl) (by kernel_rfl) (by kernel_rfl) (zn rfl) rfl hS ?_
      refine kP (i := 2) (j := 5) (by kernel_rfl) ?_ ?_
      ·
        refine zU 2 rfl hw ?_
        refine yc 0 (v := .int .u64 (kY x)) rfl rfl rfl (by kernel_rfl) rfl ?_
        refine ze (fun w' hw => ?_)
        have hS := hw.sel [] rfl (by decide)
        refine ⟨hS, ?_⟩
        refine yv 5 (by kernel_rfl) rfl hw ?_
        refine yc 0 (v := .int .u64 (kY x)) rfl rfl rfl (by kernel_rfl) rfl ?_
        refine ze (fun w' hw => ?_)
        have hS := hw.sel [] rfl (by decide)
        refine ⟨hS, ?_⟩
        refine zm 6 rfl (by kernel_rfl) (by kernel_rfl) (by kernel_rfl) (jy (c := zA8 (kY x) 17) rfl rfl (by decide) rfl) rfl hS ?_
        refine zm 7 rfl (by kernel_rfl) (by kernel_rfl) (by kernel_rfl) (kQ (c := kq x) rfl rfl rfl) rfl hS ?_
        refine zm 8 rfl (by kernel_rfl) (by kernel_rfl) (by kernel_rfl) (zn rfl) rfl hS ?_
        refine yv 9 (by kernel_rfl) rfl hw ?_
        refine j8 (cs := [.int .u64 (kY x)]) 0 rfl rfl rfl (by kernel_rfl) rfl (Nat.le_of_ble_eq_true rfl) ?_
        refine ze (fun w' hw => ?_)
        have hS := hw.sel [] rfl (by decide)
        refine ⟨hS, ?_⟩
        refine xR (by kernel_rfl) ?_
        refine (?_ : C _ _ _ _ _ _ _ (Own w (x0 [Res.row o 175 [.int .u64 x]]) [Res.row o 175 [.int .u64 (kq x)]])) _ hw
        refine zB ?_
        refine zC rfl ?_
        refine zp rfl rfl ?_
        refine yc 0 (v := .int .u64 (kq x)) rfl rfl rfl (by kernel_rfl) rfl ?_
        refine zE rfl ?_
        refine zA ?_
        exact zM (zy (v := .int .u64 (kq x)) rfl rfl (fun w' hw => ⟨kq x, rfl, hw⟩))
      ·
        refine zU 5 rfl hw ?_
        refine yc 0 (v := .int .u64 (kY x)) rfl rfl rfl (by kernel_rfl) rfl ?_
        refine ze (fun w' hw => ?_)
        have hS := hw.sel [] rfl (by decide)
        refine ⟨hS, ?_⟩
        refine zm 6 rfl (by kernel_rfl) (by kernel_rfl) (by kernel_rfl) (jy (c := zA8 (kY x) 17) rfl rfl (by decide) rfl) rfl hS ?_
        refine yv 2 (by kernel_rfl) rfl hw ?_
        refine yc 0 (v := .int .u64 (kY x)) rfl rfl rfl (by kernel_rfl) rfl ?_
        refine ze (fun w' hw => ?_)
        have hS := hw.sel [] rfl (by decide)
        refine ⟨hS, ?_⟩
        refine zm 7 rfl (by kernel_rfl) (by kernel_rfl) (by kernel_rfl) (kQ (c := kq x) rfl rfl rfl) rfl hS ?_
        refine zm 8 rfl (by kernel_rfl) (by kernel_rfl) (by kernel_rfl) (zn rfl) rfl hS ?_
        refine yv 9 (by kernel_rfl) rfl hw ?_
        refine j8 (cs := [.int .u64 (kY x)]) 0 rfl rfl rfl (by kernel_rfl) rfl (Nat.le_of_ble_eq_true rfl) ?_
        refine ze (fun w' hw => ?_)
        have hS := hw.sel [] rfl (by decide)
        refine ⟨hS, ?_⟩
        refine xR (by kernel_rfl) ?_
        refine (?_ : C _ _ _ _ _ _ _ (Own w (x0 [Res.row o 175 [.int .u64 x]]) [Res.row o 175 [.int .u64 (kq x)]])) _ hw
        refine zB ?_
        refine zC rfl ?_
        refine zp rfl rfl ?_
        refine yc 0 (v := .int .u64 (kq x)) rfl rfl rfl (by kernel_rfl) rfl ?_
        refine zE rfl ?_
        refine zA ?_
        exact zM (zy (v := .int .u64 (kq x)) rfl rfl (fun w' hw => ⟨kq x, rfl, hw⟩))
    ·
      refine zU 5 rfl hw ?_
      refine yc 0 (v := .int .u64 (xs1 x)) rfl rfl rfl (by kernel_rfl) rfl ?_
      refine ze (fun w' hw => ?_)
      have hS := hw.sel [] rfl (by decide)
      refine ⟨hS, ?_⟩
      refine zm 6 rfl (by kernel_rfl) (by kernel_rfl) (by kernel_rfl) (zEW (c := zGD (xs1 x) 7) rfl rfl (by decide) rfl) rfl hS ?_
      refine yv 2 (by kernel_rfl) rfl hw ?_
      refine yc 0 (v := .int .u64 (xs1 x)) rfl rfl rfl (by kernel_rfl) rfl ?_
      refine ze (fun w' hw => ?_)
      have hS := hw.sel [] rfl (by decide)
      refine ⟨hS, ?_⟩
      refine zm 7 rfl (by kernel_rfl) (by kernel_rfl) (by kernel_rfl) (kQ (c := kY x) rfl rfl rfl) rfl hS ?_
      refine zm 8 rfl (by kernel_rfl) (by kernel_rfl) (by kernel_rfl) (zn rfl) rfl hS ?_
      refine yv 9 (by kernel_rfl) rfl hw ?_
      refine j8 (cs := [.int .u64 (xs1 x)]) 0 rfl rfl rfl (by kernel_rfl) rfl (Nat.le_of_ble_eq_true rfl) ?_
      refine ze (fun w' hw => ?_)
      have hS := hw.sel [] rfl (by decide)
      refine ⟨hS, ?_⟩
      refine xR (by kernel_rfl) ?_
      refine (?_ : C _ _ _ _ _ _ _ (Own w (x0 [Res.row o 175 [.int .u64 x]]) [Res.row o 175 [.int .u64 (kY x)]])) _ hw
      refine zK ?_
      refine zc [] rfl (by decide) (by kernel_rfl) (fun w' hw hS => ?_)
      refine zm 0 rfl (by kernel_rfl) (by kernel_rfl) (by kernel_rfl) (zL) rfl hS ?_
      refine zm 1 rfl (by kernel_rfl) (by kernel_rfl) (by kernel_rfl) (zn rfl) rfl hS ?_
      refine zm 3 rfl (by kernel_rfl) (by kernel_rfl) (by kernel_rfl) (zL) rfl hS ?_
      refine zm 4 rfl (by kernel_rfl) (by kernel_rfl) (by kernel_rfl) (zn rfl) rfl hS ?_
      refine kP (i := 2) (j := 5) (by kernel_rfl) ?_ ?_
      ·
        refine zU 2 rfl hw ?_
        refine yc 0 (v := .int .u64 (kY x)) rfl rfl rfl (by kernel_rfl) rfl ?_
        refine ze (fun w' hw => ?_)
        have hS := hw.sel [] rfl (by decide)
        refine ⟨hS, ?_⟩
        refine yv 5 (by kernel_rfl) rfl hw ?_
        refine yc 0 (v := .int .u64 (kY x)) rfl rfl rfl (by kernel_rfl) rfl ?_
        refine ze (fun w' hw => ?_)
        have hS := hw.sel [] rfl (by decide)
        refine ⟨hS, ?_⟩
        refine zm 6 rfl (by kernel_rfl) (by kernel_rfl) (by kernel_rfl) (jy (c := zA8 (kY x) 17) rfl rfl (by decide) rfl) rfl hS ?_
        refine zm 7 rfl (by kernel_rfl) (by kernel_rfl) (by kernel_rfl) (kQ (c := kq x) rfl rfl rfl) rfl hS ?_
        refine zm 8 rfl (by kernel_rfl) (by kernel_rfl) (by kernel_rfl) (zn rfl) rfl hS ?_
        refine yv 9 (by kernel_rfl) rfl hw ?_
        refine j8 (cs := [.int .u64 (kY x)]) 0 rfl rfl rfl (by kernel_rfl) rfl (Nat.le_of_ble_eq_true rfl) ?_
        refine ze (fun w' hw => ?_)
        have hS := hw.sel [] rfl (by decide)
        refine ⟨hS, ?_⟩
        refine xR (by kernel_rfl) ?_
        refine (?_ : C _ _ _ _ _ _ _ (Own w (x0 [Res.row o 175 [.int .u64 x]]) [Res.row o 175 [.int .u64 (kq x)]])) _ hw
        refine zB ?_
        refine zC rfl ?_
        refine zp rfl rfl ?_
        refine yc 0 (v := .int .u64 (kq x)) rfl rfl rfl (by kernel_rfl) rfl ?_
        refine zE rfl ?_
        refine zA ?_
        exact zM (zy (v := .int .u64 (kq x)) rfl rfl (fun w' hw => ⟨kq x, rfl, hw⟩))
      ·
        refine zU 5 rfl hw ?_
        refine yc 0 (v := .int .u64 (kY x)) rfl rfl rfl (by kernel_rfl) rfl ?_
        refine ze (fun w' hw => ?_)
        have hS := hw.sel [] rfl (by decide)
        refine ⟨hS, ?_⟩
        refine zm 6 rfl (by kernel_rfl) (by kernel_rfl) (by kernel_rfl) (jy (c := zA8 (kY x) 17) rfl rfl (by decide) rfl) rfl hS ?_
        refine yv 2 (by kernel_rfl) rfl hw ?_
        refine yc 0 (v := .int .u64 (kY x)) rfl rfl rfl (by kernel_rfl) rfl ?_
        refine ze (fun w' hw => ?_)
        have hS := hw.sel [] rfl (by decide)
        refine ⟨hS, ?_⟩
        refine zm 7 rfl (by kernel_rfl) (by kernel_rfl) (by kernel_rfl) (kQ (c := kq x) rfl rfl rfl) rfl hS ?_
        refine zm 8 rfl (by kernel_rfl) (by kernel_rfl) (by kernel_rfl) (zn rfl) rfl hS ?_
        refine yv 9 (by kernel_rfl) rfl hw ?_
        refine j8 (cs := [.int .u64 (kY x)]) 0 rfl rfl rfl (by kernel_rfl) rfl (Nat.le_of_ble_eq_true rfl) ?_
        refine ze (fun w' hw => ?_)
        have hS := hw.sel [] rfl (by decide)
        refine ⟨hS, ?_⟩
        refine xR (by kernel_rfl) ?_
        refine (?_ : C _ _ _ _ _ _ _ (Own w (x0 [Res.row o 175 [.int .u64 x]]) [Res.row o 175 [.int .u64 (kq x)]])) _ hw
        refine zB ?_
        refine zC rfl ?_
        refine zp rfl rfl ?_
        refine yc 0 (v := .int .u64 (kq x)) rfl rfl rfl (by kernel_rfl) rfl ?_
        refine zE rfl ?_
        refine zA ?_
        exact zM (zy (v := .int .u64 (kq x)) rfl rfl (fun w' hw => ⟨kq x, rfl, hw⟩))
  ·
    refine zU 5 rfl hw ?_
    refine yc 0 (v := .int .u64 x) rfl rfl rfl (by kernel_rfl) rfl ?_
    refine ze (fun w' hw => ?_)
    have hS := hw.sel [] rfl (by decide)
    refine ⟨hS, ?_⟩
    refine zm 6 rfl (by kernel_rfl) (by kernel_rfl) (by kernel_rfl) (jy (c := zA8 x 13) rfl rfl (by decide) rfl) rfl hS ?_
    refine yv 2 (by kernel_rfl) rfl hw ?_
    refine yc 0 (v := .int .u64 x) rfl rfl rfl (by kernel_rfl) rfl ?_
    refine ze (fun w' hw => ?_)
    have hS := hw.sel [] rfl (by decide)
    refine ⟨hS, ?_⟩
    refine zm 7 rfl (by kernel_rfl) (by kernel_rfl) (by kernel_rfl) (kQ (c := xs1 x) rfl rfl rfl) rfl hS ?_
    refine zm 8 rfl (by kernel_rfl) (by kernel_rfl) (by kernel_rfl) (zn rfl) rfl hS ?_
    refine yv 9 (by kernel_rfl) rfl hw ?_
    refine j8 (cs := [.int .u64 x]) 0 rfl rfl rfl (by kernel_rfl) rfl (Nat.le_of_ble_eq_true rfl) ?_
    refine ze (fun w' hw => ?_)
    have hS := hw.sel [] rfl (by decide)
    refine ⟨hS, ?_⟩
    refine xR (by kernel_rfl) ?_
    refine (?_ : C _ _ _ _ _ _ _ (Own w (x0 [Res.row o 175 [.int .u64 x]]) [Res.row o 175 [.int .u64 (xs1 x)]])) _ hw
    refine zK ?_
    refine zc [] rfl (by decide) (by kernel_rfl) (fun w' hw hS => ?_)
    refine zm 0 rfl (by kernel_rfl) (by kernel_rfl) (by kernel_rfl) (zL) rfl hS ?_
    refine zm 1 rfl (by kernel_rfl) (by kernel_rfl) (by kernel_rfl) (zn rfl) rfl hS ?_
    refine zm 3 rfl (by kernel_rfl) (by kernel_rfl) (by kernel_rfl) (zL) rfl hS ?_
    refine zm 4 rfl (by kernel_rfl) (by kernel_rfl) (by kernel_rfl) (zn rfl) rfl hS ?_
    refine kP (i := 2) (j := 5) (by kernel_rfl) ?_ ?_
    ·
      refine zU 2 rfl hw ?_
      refine yc 0 (v := .int .u64 (xs1 x)) rfl rfl rfl (by kernel_rfl) rfl ?_
      refine ze (fun w' hw => ?_)
      have hS := hw.sel [] rfl (by decide)
      refine ⟨hS, ?_⟩
      refine yv 5 (by kernel_rfl) rfl hw ?_
      refine yc 0 (v := .int .u64 (xs1 x)) rfl rfl rfl (by kernel_rfl) rfl ?_
      refine ze (fun w' hw => ?_)
      have hS := hw.sel [] rfl (by decide)
      refine ⟨hS, ?_⟩
      refine zm 6 rfl (by kernel_rfl) (by kernel_rfl) (by kernel_rfl) (zEW (c := zGD (xs1 x) 7) rfl rfl (by decide) rfl) rfl hS ?_
      refine zm 7 rfl (by kernel_rfl) (by kernel_rfl) (by kernel_rfl) (kQ (c := kY x) rfl rfl rfl) rfl hS ?_
      refine zm 8 rfl (by kernel_rfl) (by kernel_rfl) (by kernel_rfl) (zn rfl) rfl hS ?_
      refine yv 9 (by kernel_rfl) rfl hw ?_
      refine j8 (cs := [.int .u64 (xs1 x)]) 0 rfl rfl rfl (by kernel_rfl) rfl (Nat.le_of_ble_eq_true rfl) ?_
      refine ze (fun w' hw => ?_)
      have hS := hw.sel [] rfl (by decide)
      refine ⟨hS, ?_⟩
      refine xR (by kernel_rfl) ?_
      refine (?_ : C _ _ _ _ _ _ _ (Own w (x0 [Res.row o 175 [.int .u64 x]]) [Res.row o 175 [.int .u64 (kY x)]])) _ hw
      refine zK ?_
      refine zc [] rfl (by decide) (by kernel_rfl) (fun w' hw hS => ?_)
      refine zm 0 rfl (by kernel_rfl) (by kernel_rfl) (by kernel_rfl) (zL) rfl hS ?_
      refine zm 1 rfl (by kernel_rfl) (by kernel_rfl) (by kernel_rfl) (zn rfl) rfl hS ?_
      refine zm 3 rfl (by kernel_rfl) (by kernel_rfl) (by kernel_rfl) (zL) rfl hS ?_
      refine zm 4 rfl (by kernel_rfl) (by kernel_rfl) (by kernel_rfl) (zn rfl) rfl hS ?_
      refine kP (i := 2) (j := 5) (by kernel_rfl) ?_ ?_
      ·
        refine zU 2 rfl hw ?_
        refine yc 0 (v := .int .u64 (kY x)) rfl rfl rfl (by kernel_rfl) rfl ?_
        refine ze (fun w' hw => ?_)
        have hS := hw.sel [] rfl (by decide)
        refine ⟨hS, ?_⟩
        refine yv 5 (by kernel_rfl) rfl hw ?_
        refine yc 0 (v := .int .u64 (kY x)) rfl rfl rfl (by kernel_rfl) rfl ?_
        refine ze (fun w' hw => ?_)
        have hS := hw.sel [] rfl (by decide)
        refine ⟨hS, ?_⟩
        refine zm 6 rfl (by kernel_rfl) (by kernel_rfl) (by kernel_rfl) (jy (c := zA8 (kY x) 17) rfl rfl (by decide) rfl) rfl hS ?_
        refine zm 7 rfl (by kernel_rfl) (by kernel_rfl) (by kernel_rfl) (kQ (c := kq x) rfl rfl rfl) rfl hS ?_
        refine zm 8 rfl (by kernel_rfl) (by kernel_rfl) (by kernel_rfl) (zn rfl) rfl hS ?_
        refine yv 9 (by kernel_rfl) rfl hw ?_
        refine j8 (cs := [.int .u64 (kY x)]) 0 rfl rfl rfl (by kernel_rfl) rfl (Nat.le_of_ble_eq_true rfl) ?_
        refine ze (fun w' hw => ?_)
        have hS := hw.sel [] rfl (by decide)
        refine ⟨hS, ?_⟩
        refine xR (by kernel_rfl) ?_
        refine (?_ : C _ _ _ _ _ _ _ (Own w (x0 [Res.row o 175 [.int .u64 x]]) [Res.row o 175 [.int .u64 (kq x)]])) _ hw
        refine zB ?_
        refine zC rfl ?_
        refine zp rfl rfl ?_
        refine yc 0 (v := .int .u64 (kq x)) rfl rfl rfl (by kernel_rfl) rfl ?_
        refine zE rfl ?_
        refine zA ?_
        exact zM (zy (v := .int .u64 (kq x)) rfl rfl (fun w' hw => ⟨kq x, rfl, hw⟩))
      ·
        refine zU 5 rfl hw ?_
        refine yc 0 (v := .int .u64 (kY x)) rfl rfl rfl (by kernel_rfl) rfl ?_
        refine ze (fun w' hw => ?_)
        have hS := hw.sel [] rfl (by decide)
        refine ⟨hS, ?_⟩
        refine zm 6 rfl (by kernel_rfl) (by kernel_rfl) (by kernel_rfl) (jy (c := zA8 (kY x) 17) rfl rfl (by decide) rfl) rfl hS ?_
        refine yv 2 (by kernel_rfl) rfl hw ?_
        refine yc 0 (v := .int .u64 (kY x)) rfl rfl rfl (by kernel_rfl) rfl ?_
        refine ze (fun w' hw => ?_)
        have hS := hw.sel [] rfl (by decide)
        refine ⟨hS, ?_⟩
        refine zm 7 rfl (by kernel_rfl) (by kernel_rfl) (by kernel_rfl) (kQ (c := kq x) rfl rfl rfl) rfl hS ?_
        refine zm 8 rfl (by kernel_rfl) (by kernel_rfl) (by kernel_rfl) (zn rfl) rfl hS ?_
        refine yv 9 (by kernel_rfl) rfl hw ?_
        refine j8 (cs := [.int .u64 (kY x)]) 0 rfl rfl rfl (by kernel_rfl) rfl (Nat.le_of_ble_eq_true rfl) ?_
        refine ze (fun w' hw => ?_)
        have hS := hw.sel [] rfl (by decide)
        refine ⟨hS, ?_⟩
        refine xR (by kernel_rfl) ?_
        refine (?_ : C _ _ _ _ _ _ _ (Own w (x0 [Res.row o 175 [.int .u64 x]]) [Res.row o 175 [.int .u64 (kq x)]])) _ hw
        refine zB ?_
        refine zC rfl ?_
        refine zp rfl rfl ?_
        refine yc 0 (v := .int .u64 (kq x)) rfl rfl rfl (by kernel_rfl) rfl ?_
        refine zE rfl ?_
        refine zA ?_
        exact zM (zy (v := .int .u64 (kq x)) rfl rfl (fun w' hw => ⟨kq x, rfl, hw⟩))
    ·
      refine zU 5 rfl hw ?_
      refine yc 0 (v := .int .u64 (xs1 x)) rfl rfl rfl (by kernel_rfl) rfl ?_
      refine ze (fun w' hw => ?_)
      have hS := hw.sel [] rfl (by decide)
      refine ⟨hS, ?_⟩
      refine zm 6 rfl (by kernel_rfl) (by kernel_rfl) (by kernel_rfl) (zEW (c := zGD (xs1 x) 7) rfl rfl (by decide) rfl) rfl hS ?_
      refine yv 2 (by kernel_rfl) rfl hw ?_
      refine yc 0 (v := .int .u64 (xs1 x)) rfl rfl rfl (by kernel_rfl) rfl ?_
      refine ze (fun w' hw => ?_)
      have hS := hw.sel [] rfl (by decide)
      refine ⟨hS, ?_⟩
      refine zm 7 rfl (by kernel_rfl) (by kernel_rfl) (by kernel_rfl) (kQ (c := kY x) rfl rfl rfl) rfl hS ?_
      refine zm 8 rfl (by kernel_rfl) (by kernel_rfl) (by kernel_rfl) (zn rfl) rfl hS ?_
      refine yv 9 (by kernel_rfl) rfl hw ?_
      refine j8 (cs := [.int .u64 (xs1 x)]) 0 rfl rfl rfl (by kernel_rfl) rfl (Nat.le_of_ble_eq_true rfl) ?_
      refine ze (fun w' hw => ?_)
      have hS := hw.sel [] rfl (by decide)
      refine ⟨hS, ?_⟩
      refine xR (by kernel_rfl) ?_
      refine (?_ : C _ _ _ _ _ _ _ (Own w (x0 [Res.row o 175 [.int .u64 x]]) [Res.row o 175 [.int .u64 (kY x)]])) _ hw
      refine zK ?_
      refine zc [] rfl (by decide) (by kernel_rfl) (fun w' hw hS => ?_)
      refine zm 0 rfl (by kernel_rfl) (by kernel_rfl) (by kernel_rfl) (zL) rfl hS ?_
      refine zm 1 rfl (by kernel_rfl) (by kernel_rfl) (by kernel_rfl) (zn rfl) rfl hS ?_
      refine zm 3 rfl (by kernel_rfl) (by kernel_rfl) (by kernel_rfl) (zL) rfl hS ?_
      refine zm 4 rfl (by kernel_rfl) (by kernel_rfl) (by kernel_rfl) (zn rfl) rfl hS ?_
      refine kP (i := 2) (j := 5) (by kernel_rfl) ?_ ?_
      ·
        refine zU 2 rfl hw ?_
        refine yc 0 (v := .int .u64 (kY x)) rfl rfl rfl (by kernel_rfl) rfl ?_
        refine ze (fun w' hw => ?_)
        have hS := hw.sel [] rfl (by decide)
        refine ⟨hS, ?_⟩
        refine yv 5 (by kernel_rfl) rfl hw ?_
        refine yc 0 (v := .int .u64 (kY x)) rfl rfl rfl (by kernel_rfl) rfl ?_
        refine ze (fun w' hw => ?_)
        have hS := hw.sel [] rfl (by decide)
        refine ⟨hS, ?_⟩
        refine zm 6 rfl (by kernel_rfl) (by kernel_rfl) (by kernel_rfl) (jy (c := zA8 (kY x) 17) rfl rfl (by decide) rfl) rfl hS ?_
        refine zm 7 rfl (by kernel_rfl) (by kernel_rfl) (by kernel_rfl) (kQ (c := kq x) rfl rfl rfl) rfl hS ?_
        refine zm 8 rfl (by kernel_rfl) (by kernel_rfl) (by kernel_rfl) (zn rfl) rfl hS ?_
        refine yv 9 (by kernel_rfl) rfl hw ?_
        refine j8 (cs := [.int .u64 (kY x)]) 0 rfl rfl rfl (by kernel_rfl) rfl (Nat.le_of_ble_eq_true rfl) ?_
        refine ze (fun w' hw => ?_)
        have hS := hw.sel [] rfl (by decide)
        refine ⟨hS, ?_⟩
        refine xR (by kernel_rfl) ?_
        refine (?_ : C _ _ _ _ _ _ _ (Own w (x0 [Res.row o 175 [.int .u64 x]]) [Res.row o 175 [.int .u64 (kq x)]])) _ hw
        refine zB ?_
        refine zC rfl ?_
        refine zp rfl rfl ?_
        refine yc 0 (v := .int .u64 (kq x)) rfl rfl rfl (by kernel_rfl) rfl ?_
        refine zE rfl ?_
        refine zA ?_
        exact zM (zy (v := .int .u64 (kq x)) rfl rfl (fun w' hw => ⟨kq x, rfl, hw⟩))
      ·
        refine zU 5 rfl hw ?_
        refine yc 0 (v := .int .u64 (kY x)) rfl rfl rfl (by kernel_rfl) rfl ?_
        refine ze (fun w' hw => ?_)
        have hS := hw.sel [] rfl (by decide)
        refine ⟨hS, ?_⟩
        refine zm 6 rfl (by kernel_rfl) (by kernel_rfl) (by kernel_rfl) (jy (c := zA8 (kY x) 17) rfl rfl (by decide) rfl) rfl hS ?_
        refine yv 2 (by kernel_rfl) rfl hw ?_
        refine yc 0 (v := .int .u64 (kY x)) rfl rfl rfl (by kernel_rfl) rfl ?_
        refine ze (fun w' hw => ?_)
        have hS := hw.sel [] rfl (by decide)
        refine ⟨hS, ?_⟩
        refine zm 7 rfl (by kernel_rfl) (by kernel_rfl) (by kernel_rfl) (kQ (c := kq x) rfl rfl rfl) rfl hS ?_
        refine zm 8 rfl (by kernel_rfl) (by kernel_rfl) (by kernel_rfl) (zn rfl) rfl hS ?_
        refine yv 9 (by kernel_rfl) rfl hw ?_
        refine j8 (cs := [.int .u64 (kY x)]) 0 rfl rfl rfl (by kernel_rfl) rfl (Nat.le_of_ble_eq_true rfl) ?_
        refine ze (fun w' hw => ?_)
        have hS := hw.sel [] rfl (by decide)
        refine ⟨hS, ?_⟩
        refine xR (by kernel_rfl) ?_
        refine (?_ : C _ _ _ _ _ _ _ (Own w (x0 [Res.row o 175 [.int .u64 x]]) [Res.row o 175 [.int .u64 (kq x)]])) _ hw
        refine zB ?_
        refine zC rfl ?_
        refine zp rfl rfl ?_
        refine yc 0 (v := .int .u64 (kq x)) rfl rfl rfl (by kernel_rfl) rfl ?_
        refine zE rfl ?_
        refine zA ?_
        exact zM (zy (v := .int .u64 (kq x)) rfl rfl (fun w' hw => ⟨kq x, rfl, hw⟩))
end Go.Proofs.YtcdiehplbmkmeaaGreat
