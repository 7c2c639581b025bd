import Derived.Test.YtcdiehplbmkmeaaGreatSrt
import Derived.Test.YtcdiehplbmkmeaaGreatFwU
import Derived.Test.YtcdiehplbmkmeaaGreatCodec
import Derived.Test.YtcdiehplbmkmeaaGreatChecked
set_option linter.unusedSectionVars false
set_option linter.unusedSimpArgs false
set_option linter.unusedVariables false
set_option maxRecDepth 10000
namespace Go.Proofs.YtcdiehplbmkmeaaGreat
open Go Go.Sc Go.Proofs
theorem vi {a b : Int} (h : a = b) : Value.int .i64 a = Value.int .i64 b := by rw [h]
theorem wsi {a b : Nat} (h : b ≤ a) (h2 : a < 9223372036854775808) : IntKind.i64.wrap ((a : Int) - (b : Int)) = ((a - b : Nat) : Int) := by
  rw [show (a : Int) - (b : Int) = ((a - b : Nat) : Int) by omega]; exact zh (by omega)
theorem xi {a : Nat} (h : 1 ≤ a) (h2 : a < 9223372036854775808) : IntKind.i64.wrap ((a : Int) - 1) = ((a - 1 : Nat) : Int) := wsi (b := 1) h h2
theorem qui {a b : Nat} (h : a < 9223372036854775808) : IntKind.i64.wrap ((a : Int).tdiv (b : Int)) = ((a / b : Nat) : Int) := by
  have : (a : Int).tdiv (b : Int) = ((a / b : Nat) : Int) := rfl
  rw [this]
  have h2 := Nat.div_le_self a b
  generalize a / b = c at h2 ⊢
  exact zh (by omega)
theorem zKD {α : Type} [Inhabited α] [SO α] {m : List α} {f r hi : Nat} (h : olt (zH m (f + (2 * r + 1))) (zH m (f + (2 * r + 1) + 1))) : ∀ c', c' = 2 * r + 1 ∨ c' = 2 * r + 2 → c' < hi → x0 (zH m (f + c')) (zH m (f + (2 * r + 1 + 1))) := by
  intro c' h1 _
  rw [show f + (2 * r + 1) + 1 = f + (2 * r + 1 + 1) by omega] at h
  rcases h1 with rfl | rfl
  · exact xU h
  · exact kR _
theorem zGO {α : Type} [Inhabited α] [SO α] {m : List α} {f r hi : Nat} (h : 2 * r + 1 + 1 < hi → ¬ olt (zH m (f + (2 * r + 1))) (zH m (f + (2 * r + 1) + 1))) : ∀ c', c' = 2 * r + 1 ∨ c' = 2 * r + 2 → c' < hi → x0 (zH m (f + c')) (zH m (f + (2 * r + 1))) := by
  intro c' h1 h2
  rcases h1 with rfl | rfl
  · exact kR _
  · have := h (by omega)
    rw [show f + (2 * r + 1) + 1 = f + (2 * r + 2) by omega] at this
    exact this
def zKp (a b : Int) : Int := IntKind.u64.wrap (((a % 2 ^ IntKind.u64.bits).toNat ^^^ (b % 2 ^ IntKind.u64.bits).toNat : Nat) : Int)
def zBL (a b : Int) : Int := IntKind.u64.wrap (a * 2 ^ (min b.toNat IntKind.u64.bits))
def zHt (a b : Int) : Int := a.fdiv (2 ^ (min b.toNat IntKind.u64.bits))
def xs1 (x : Int) : Int := zKp x (zBL x 13)
def kn (x : Int) : Int := zKp (xs1 x) (zHt (xs1 x) 7)
def jF (x : Int) : Int := zKp (kn x) (zBL (kn x) 17)
theorem zC4 {n : Nat} (h : n ≤ 1000000000000) : zj n ≤ 40 := xS (by have : (2 : Nat) ^ 40 = 1099511627776 := rfl; omega)
theorem zIO {n : Nat} (h : n ≤ 1000000000000) : IntKind.u64.wrap ((1 : Int) * 2 ^ (min ((zj n : Nat) : Int).toNat IntKind.u64.bits)) = ((2 ^ zj n : Nat) : Int) := by
  have h1 := zC4 h
  have e : min ((zj n : Nat) : Int).toNat IntKind.u64.bits = zj n := by
    rw [Int.toNat_natCast]; show min _ 64 = _; omega
  have h2 : 2 ^ zj n ≤ 2 ^ 40 := Nat.pow_le_pow_right (by decide) h1
  have h3 : (2 : Nat) ^ 40 = 1099511627776 := rfl
  rw [e, Int.one_mul, show ((2 : Int) ^ zj n) = ((2 ^ zj n : Nat) : Int) by rw [Int.natCast_pow]; rfl]
  generalize 2 ^ zj n = z at h2 ⊢
  exact zA6 (by omega)
theorem zJh {n : Nat} (h : 0 < n) : 2 ^ zj n ≤ 2 * n ∧ 0 < 2 ^ zj n := by
  have h1 := jq h
  have h2 := zBy h
  refine ⟨?_, Nat.pow_pos (by decide)⟩
  rw [show zj n = (zj n - 1) + 1 by omega, Nat.pow_succ]
  omega
theorem zGw {y : Int} {m : Nat} (h : 0 < m) (hm : m ≤ 4000000000000) : ((y % 18446744073709551616).toNat &&& (m - 1)) < m := by
  have := Nat.and_le_right (n := (y % 18446744073709551616).toNat) (m := m - 1)
  omega
theorem zHQ {y : Int} {m : Nat} (h : 0 < m) (hm : m ≤ 4000000000000) : IntKind.u64.wrap (((y % 2 ^ IntKind.u64.bits).toNat &&& (((m - 1 : Nat) : Int) % 2 ^ IntKind.u64.bits).toNat : Nat) : Int) = (((y % 18446744073709551616).toNat &&& (m - 1) : Nat) : Int) := by
  have e : ((((m - 1 : Nat) : Int)) % 2 ^ IntKind.u64.bits).toNat = m - 1 := by
    show ((((m - 1 : Nat) : Int)) % 18446744073709551616).toNat = m - 1
    omega
  have e2 : (y % 2 ^ IntKind.u64.bits).toNat = (y % 18446744073709551616).toNat := rfl
  rw [e, e2]
  have := zGw (y := y) h hm
  exact zA6 (by omega)
theorem zIm (n : Nat) (w : World) (hn : n < 18446744073709551616) : Rets Tryz.prog 88 #[.int .u64 (n : Nat)] w fun u_ w' => u_ = .int .i64 ((zj n) : Nat) ∧ Own w [] [] w' := by
  exact zBq n hn w
theorem zJc (n : Nat) (w : World) (hn : n < 18446744073709551616) : Rets Tryz.prog 67 #[.int .u64 (n : Nat)] w fun u_ w' => u_ = .int .i64 ((zj n) : Nat) ∧ Own w [] [] w' := by
  refine xc (args := [.int .u64 (n : Nat)]) Tryz.func67 rfl Tryz.ntmps67 rfl (Own.start w) ?_
  refine zB ?_
  refine zG rfl ?_
  refine zA ?_
  refine zK ?_
  refine xy rfl ?_
  refine zJ ?_
  refine zB ?_
  refine zC rfl ?_
  refine j9 (by kernel_rfl) rfl rfl (fun w' hw => ?_)
  refine (zIm n w' (by first | assumption | omega | (simp <;> omega) | (constructor <;> (first | omega | (simp only [z6]; omega) | (simp <;> omega))))).mono ?_
  rintro _ w1 ⟨rfl, hO⟩
  refine (?_ : CL _ _ _ _ _ _ (Own w [] [])) w1 (hw.frame0 hO)
  refine zG rfl ?_
  refine zA ?_
  exact zN (z4 (v := .int .i64 ((zj n) : Nat)) rfl rfl (fun w' hw => ⟨rfl, hw.drop⟩))
theorem zLq (n : Nat) (w : World) (hn : n ≤ 1000000000000) : Rets Tryz.prog 100 #[.int .i64 (n : Nat)] w fun u_ w' => u_ = .int .u64 ((2 ^ zj n) : Nat) ∧ Own w [] [] w' := by
  refine xc (args := [.int .i64 (n : Nat)]) Tryz.func100 rfl Tryz.ntmps100 rfl (Own.start w) ?_
  refine zB ?_
  refine zG rfl ?_
  refine zA ?_
  refine zB ?_
  refine zC rfl ?_
  refine yx (by kernel_rfl) rfl (zA6 (by omega)) rfl ?_ (by kernel_rfl)
  refine j9 (by kernel_rfl) rfl rfl (fun w' hw => ?_)
  refine (zJc n w' (by first | assumption | omega | (simp <;> omega) | (constructor <;> (first | omega | (simp only [z6]; omega) | (simp <;> omega))))).mono ?_
  rintro _ w1 ⟨rfl, hO⟩
  refine (?_ : CL _ _ _ _ _ _ (Own w [] [])) w1 (hw.frame0 hO)
  refine zLm (c := ((2 ^ zj n : Nat) : Int)) rfl rfl (by omega) (zIO hn) rfl ?_
  refine zG rfl ?_
  refine zA ?_
  exact zN (z4 (v := .int .u64 (2 ^ zj n : Nat)) rfl rfl (fun w' hw => ⟨rfl, hw.drop⟩))
theorem zKG (o : Nat) (x : Int) (w : World) (hin : Own w (x7 [Res.row o 175 [.int .u64 x]]) [Res.row o 175 [.int .u64 x]] w) : Rets Tryz.prog 101 #[.pointer (some ⟨o, 0, none⟩)] w fun u_ w' => ∃ (y : Int), u_ = .int .u64 y ∧ Own w (x7 [Res.row o 175 [.int .u64 x]]) [Res.row o 175 [.int .u64 y]] w' := by
  refine xc (args := [.pointer (some ⟨o, 0, none⟩)]) Tryz.func101 rfl Tryz.ntmps101 rfl (show Own w (x7 [Res.row o 175 [.int .u64 x]]) [Res.row o 175 [.int .u64 x]] w from hin) ?_
  refine zB ?_
  refine zG rfl ?_
  refine zA ?_
  refine zK ?_
  refine zZ [] rfl (by decide) (by kernel_rfl) (fun w' hw hS => ?_)
  refine zo 0 rfl (by kernel_rfl) (by kernel_rfl) (by kernel_rfl) (zL) rfl hS ?_
  refine zo 1 rfl (by kernel_rfl) (by kernel_rfl) (by kernel_rfl) (zq rfl) rfl hS ?_
  refine zo 3 rfl (by kernel_rfl) (by kernel_rfl) (by kernel_rfl) (zL) rfl hS ?_
  refine zo 4 rfl (by kernel_rfl) (by kernel_rfl) (by kernel_rfl) (zq rfl) rfl hS ?_
  refine kV (i := 2) (j := 5) (by kernel_rfl) ?_ ?_
  ·
    refine zU 2 rfl hw ?_
    refine ya 0 (v := .int .u64 x) rfl rfl rfl (by kernel_rfl) rfl ?_
    refine zd (fun w' hw => ?_)
    have hS := hw.sel [] rfl (by decide)
    refine ⟨hS, ?_⟩
    refine y0 5 (by kernel_rfl) rfl hw ?_
    refine ya 0 (v := .int .u64 x) rfl rfl rfl (by kernel_rfl) rfl ?_
    refine zd (fun w' hw => ?_)
    have hS := hw.sel [] rfl (by decide)
    refine ⟨hS, ?_⟩
    refine zo 6 rfl (by kernel_rfl) (by kernel_rfl) (by kernel_rfl) (j6 (c := zBL x 13) rfl rfl (by decide) rfl) rfl hS ?_
    refine zo 7 rfl (by kernel_rfl) (by kernel_rfl) (by kernel_rfl) (kd (c := xs1 x) rfl rfl rfl) rfl hS ?_
    refine zo 8 rfl (by kernel_rfl) (by kernel_rfl) (by kernel_rfl) (zq rfl) rfl hS ?_
    refine y0 9 (by kernel_rfl) rfl hw ?_
    refine zAH (cs := [.int .u64 x]) 0 rfl rfl rfl (by kernel_rfl) rfl (Nat.le_of_ble_eq_true rfl) ?_
    refine zd (fun w' hw => ?_)
    have hS := hw.sel [] rfl (by decide)
    refine ⟨hS, ?_⟩
    refine xV (by kernel_rfl) ?_
    refine (?_ : C _ _ _ _ _ _ _ (Own w (x7 [Res.row o 175 [.int .u64 x]]) [Res.row o 175 [.int .u64 (xs1 x)]])) _ hw
    refine zK ?_
    refine zZ [] rfl (by decide) (by kernel_rfl) (fun w' hw hS => ?_)
    refine zo 0 rfl (by kernel_rfl) (by kernel_rfl) (by kernel_rfl) (zL) rfl hS ?_
    refine zo 1 rfl (by kernel_rfl) (by kernel_rfl) (by kernel_rfl) (zq rfl) rfl hS ?_
    refine zo 3 rfl (by kernel_rfl) (by kernel_rfl) (by kernel_rfl) (zL) rfl hS ?_
    refine zo 4 rfl (by kernel_rfl) (by kernel_rfl) (by kernel_rfl) (zq rfl) rfl hS ?_
    refine kV (i := 2) (j := 5) (by kernel_rfl) ?_ ?_
    ·
      refine zU 2 rfl hw ?_
      refine ya 0 (v := .int .u64 (xs1 x)) rfl rfl rfl (by kernel_rfl) rfl ?_
      refine zd (fun w' hw => ?_)
      have hS := hw.sel [] rfl (by decide)
      refine ⟨hS, ?_⟩
      refine y0 5 (by kernel_rfl) rfl hw ?_
      refine ya 0 (v := .int .u64 (xs1 x)) rfl rfl rfl (by kernel_rfl) rfl ?_
      refine zd (fun w' hw => ?_)
      have hS := hw.sel [] rfl (by decide)
      refine ⟨hS, ?_⟩
      refine zo 6 rfl (by kernel_rfl) (by kernel_rfl) (by kernel_rfl) (zFT (c := zHt (xs1 x) 7) rfl rfl (by decide) rfl) rfl hS ?_
      refine zo 7 rfl (by kernel_rfl) (by kernel_rfl) (by kernel_rfl) (kd (c := kn x) rfl rfl rfl) rfl hS ?_
      refine zo 8 rfl (by kernel_rfl) (by kernel_rfl) (by kernel_rfl) (zq rfl) rfl hS ?_
      refine y0 9 (by kernel_rfl) rfl hw ?_
      refine zAH (cs := [.int .u64 (xs1 x)]) 0 rfl rfl rfl (by kernel_rfl) rfl (Nat.le_of_ble_eq_true rfl) ?_
      refine zd (fun w' hw => ?_)
      have hS := hw.sel [] rfl (by decide)
      refine ⟨hS, ?_⟩
      refine xV (by kernel_rfl) ?_
      refine (?_ : C _ _ _ _ _ _ _ (Own w (x7 [Res.row o 175 [.int .u64 x]]) [Res.row o 175 [.int .u64 (kn x)]])) _ hw
      refine zK ?_
      refine zZ [] rfl (by decide) (by kernel_rfl) (fun w' hw hS => ?_)
      refine zo 0 rfl (by kernel_rfl) (by kernel_rfl) (by kernel_rfl) (zL) rfl hS ?_
      refine zo 1 rfl (by kernel_rfl) (by kernel_rfl) (by kernel_rfl) (zq rfl) rfl hS ?_
      refine zo 3 rfl (by kernel_rfl) (by kernel_rfl) (by kernel_rfl) (zL) rfl hS ?_
      refine zo 4 rfl (by kernel_rfl) (by kernel_rfl) (by kernel_rfl) (zq rfl) rfl hS ?_
      refine kV (i := 2) (j := 5) (by kernel_rfl) ?_ ?_
      ·
        refine zU 2 rfl hw ?_
        refine ya 0 (v := .int .u64 (kn x)) rfl rfl rfl (by kernel_rfl) rfl ?_
        refine zd (fun w' hw => ?_)
        have hS := hw.sel [] rfl (by decide)
        refine ⟨hS, ?_⟩
        refine y0 5 (by kernel_rfl) rfl hw ?_
        refine ya 0 (v := .int .u64 (kn x)) rfl rfl rfl (by kernel_rfl) rfl ?_
        refine zd (fun w' hw => ?_)
        have hS := hw.sel [] rfl (by decide)
        refine ⟨hS, ?_⟩
        refine zo 6 rfl (by kernel_rfl) (by kernel_rfl) (by kernel_rfl) (j6 (c := zBL (kn x) 17) rfl rfl (by decide) rfl) rfl hS ?_
        refine zo 7 rfl (by kernel_rfl) (by kernel_rfl) (by kernel_rfl) (kd (c := jF x) rfl rfl rfl) rfl hS ?_
        refine zo 8 rfl (by kernel_rfl) (by kernel_rfl) (by kernel_rfl) (zq rfl) rfl hS ?_
        refine y0 9 (by kernel_rfl) rfl hw ?_
        refine zAH (cs := [.int .u64 (kn x)]) 0 rfl rfl rfl (by kernel_rfl) rfl (Nat.le_of_ble_eq_true rfl) ?_
        refine zd (fun w' hw => ?_)
        have hS := hw.sel [] rfl (by decide)
        refine ⟨hS, ?_⟩
        refine xV (by kernel_rfl) ?_
        refine (?_ : C _ _ _ _ _ _ _ (Own w (x7 [Res.row o 175 [.int .u64 x]]) [Res.row o 175 [.int .u64 (jF x)]])) _ hw
        refine zB ?_
        refine zC rfl ?_
        refine zt rfl rfl ?_
        refine ya 0 (v := .int .u64 (jF x)) rfl rfl rfl (by kernel_rfl) rfl ?_
        refine zG rfl ?_
        refine zA ?_
        exact zN (z4 (v := .int .u64 (jF x)) rfl rfl (fun w' hw => ⟨jF x, rfl, hw⟩))
      ·
        refine zU 5 rfl hw ?_
        refine ya 0 (v := .int .u64 (kn x)) rfl rfl rfl (by kernel_rfl) rfl ?_
        refine zd (fun w' hw => ?_)
        have hS := hw.sel [] rfl (by decide)
        refine ⟨hS, ?_⟩
        refine zo 6 rfl (by kernel_rfl) (by kernel_rfl) (by kernel_rfl) (j6 (c := zBL (kn x) 17) rfl rfl (by decide) rfl) rfl hS ?_
        refine y0 2 (by kernel_rfl) rfl hw ?_
        refine ya 0 (v := .int .u64 (kn x)) rfl rfl rfl (by kernel_rfl) rfl ?_
        refine zd (fun w' hw => ?_)
        have hS := hw.sel [] rfl (by decide)
        refine ⟨hS, ?_⟩
        refine zo 7 rfl (by kernel_rfl) (by kernel_rfl) (by kernel_rfl) (kd (c := jF x) rfl rfl rfl) rfl hS ?_
        refine zo 8 rfl (by kernel_rfl) (by kernel_rfl) (by kernel_rfl) (zq rfl) rfl hS ?_
        refine y0 9 (by kernel_rfl) rfl hw ?_
        refine zAH (cs := [.int .u64 (kn x)]) 0 rfl rfl rfl (by kernel_rfl) rfl (Nat.le_of_ble_eq_true rfl) ?_
        refine zd (fun w' hw => ?_)
        have hS := hw.sel [] rfl (by decide)
        refine ⟨hS, ?_⟩
        refine xV (by kernel_rfl) ?_
        refine (?_ : C _ _ _ _ _ _ _ (Own w (x7 [Res.row o 175 [.int .u64 x]]) [Res.row o 175 [.int .u64 (jF x)]])) _ hw
        refine zB ?_
        refine zC rfl ?_
        refine zt rfl rfl ?_
        refine ya 0 (v := .int .u64 (jF x)) rfl rfl rfl (by kernel_rfl) rfl ?_
        refine zG rfl ?_
        refine zA ?_
        exact zN (z4 (v := .int .u64 (jF x)) rfl rfl (fun w' hw => ⟨jF x, rfl, hw⟩))
    ·
      refine zU 5 rfl hw ?_
      refine ya 0 (v := .int .u64 (xs1 x)) rfl rfl rfl (by kernel_rfl) rfl ?_
      refine zd (fun w' hw => ?_)
      have hS := hw.sel [] rfl (by decide)
      refine ⟨hS, ?_⟩
      refine zo 6 rfl (by kernel_rfl) (by kernel_rfl) (by kernel_rfl) (zFT (c := zHt (xs1 x) 7) rfl rfl (by decide) rfl) rfl hS ?_
      refine y0 2 (by kernel_rfl) rfl hw ?_
      refine ya 0 (v := .int .u64 (xs1 x)) rfl rfl rfl (by kernel_rfl) rfl ?_
      refine zd (fun w' hw => ?_)
      have hS := hw.sel [] rfl (by decide)
      refine ⟨hS, ?_⟩
      refine zo 7 rfl (by kernel_rfl) (by kernel_rfl) (by kernel_rfl) (kd (c := kn x) rfl rfl rfl) rfl hS ?_
      refine zo 8 rfl (by kernel_rfl) (by kernel_rfl) (by kernel_rfl) (zq rfl) rfl hS ?_
      refine y0 9 (by kernel_rfl) rfl hw ?_
      refine zAH (cs := [.int .u64 (xs1 x)]) 0 rfl rfl rfl (by kernel_rfl) rfl (Nat.le_of_ble_eq_true rfl) ?_
      refine zd (fun w' hw => ?_)
      have hS := hw.sel [] rfl (by decide)
      refine ⟨hS, ?_⟩
      refine xV (by kernel_rfl) ?_
      refine (?_ : C _ _ _ _ _ _ _ (Own w (x7 [Res.row o 175 [.int .u64 x]]) [Res.row o 175 [.int .u64 (kn x)]])) _ hw
      refine zK ?_
      refine zZ [] rfl (by decide) (by kernel_rfl) (fun w' hw hS => ?_)
      refine zo 0 rfl (by kernel_rfl) (by kernel_rfl) (by kernel_rfl) (zL) rfl hS ?_
      refine zo 1 rfl (by kernel_rfl) (by kernel_rfl) (by kernel_rfl) (zq rfl) rfl hS ?_
      refine zo 3 rfl (by kernel_rfl) (by kernel_rfl) (by kernel_rfl) (zL) rfl hS ?_
      refine zo 4 rfl (by kernel_rfl) (by kernel_rfl) (by kernel_rfl) (zq rfl) rfl hS ?_
      refine kV (i := 2) (j := 5) (by kernel_rfl) ?_ ?_
      ·
        refine zU 2 rfl hw ?_
        refine ya 0 (v := .int .u64 (kn x)) rfl rfl rfl (by kernel_rfl) rfl ?_
        refine zd (fun w' hw => ?_)
        have hS := hw.sel [] rfl (by decide)
        refine ⟨hS, ?_⟩
        refine y0 5 (by kernel_rfl) rfl hw ?_
        refine ya 0 (v := .int .u64 (kn x)) rfl rfl rfl (by kernel_rfl) rfl ?_
        refine zd (fun w' hw => ?_)
        have hS := hw.sel [] rfl (by decide)
        refine ⟨hS, ?_⟩
        refine zo 6 rfl (by kernel_rfl) (by kernel_rfl) (by kernel_rfl) (j6 (c := zBL (kn x) 17) rfl rfl (by decide) rfl) rfl hS ?_
        refine zo 7 rfl (by kernel_rfl) (by kernel_rfl) (by kernel_rfl) (kd (c := jF x) rfl rfl rfl) rfl hS ?_
        refine zo 8 rfl (by kernel_rfl) (by kernel_rfl) (by kernel_rfl) (zq rfl) rfl hS ?_
        refine y0 9 (by kernel_rfl) rfl hw ?_
        refine zAH (cs := [.int .u64 (kn x)]) 0 rfl rfl rfl (by kernel_rfl) rfl (Nat.le_of_ble_eq_true rfl) ?_
        refine zd (fun w' hw => ?_)
        have hS := hw.sel [] rfl (by decide)
        refine ⟨hS, ?_⟩
        refine xV (by kernel_rfl) ?_
        refine (?_ : C _ _ _ _ _ _ _ (Own w (x7 [Res.row o 175 [.int .u64 x]]) [Res.row o 175 [.int .u64 (jF x)]])) _ hw
        refine zB ?_
        refine zC rfl ?_
        refine zt rfl rfl ?_
        refine ya 0 (v := .int .u64 (jF x)) rfl rfl rfl (by kernel_rfl) rfl ?_
        refine zG rfl ?_
        refine zA ?_
        exact zN (z4 (v := .int .u64 (jF x)) rfl rfl (fun w' hw => ⟨jF x, rfl, hw⟩))
      ·
        refine zU 5 rfl hw ?_
        refine ya 0 (v := .int .u64 (kn x)) rfl rfl rfl (by kernel_rfl) rfl ?_
        refine zd (fun w' hw => ?_)
        have hS := hw.sel [] rfl (by decide)
        refine ⟨hS, ?_⟩
        refine zo 6 rfl (by kernel_rfl) (by kernel_rfl) (by kernel_rfl) (j6 (c := zBL (kn x) 17) rfl rfl (by decide) rfl) rfl hS ?_
        refine y0 2 (by kernel_rfl) rfl hw ?_
        refine ya 0 (v := .int .u64 (kn x)) rfl rfl rfl (by kernel_rfl) rfl ?_
        refine zd (fun w' hw => ?_)
        have hS := hw.sel [] rfl (by decide)
        refine ⟨hS, ?_⟩
        refine zo 7 rfl (by kernel_rfl) (by kernel_rfl) (by kernel_rfl) (kd (c := jF x) rfl rfl rfl) rfl hS ?_
        refine zo 8 rfl (by kernel_rfl) (by kernel_rfl) (by kernel_rfl) (zq rfl) rfl hS ?_
        refine y0 9 (by kernel_rfl) rfl hw ?_
        refine zAH (cs := [.int .u64 (kn x)]) 0 rfl rfl rfl (by kernel_rfl) rfl (Nat.le_of_ble_eq_true rfl) ?_
        refine zd (fun w' hw => ?_)
        have hS := hw.sel [] rfl (by decide)
        refine ⟨hS, ?_⟩
        refine xV (by kernel_rfl) ?_
        refine (?_ : C _ _ _ _ _ _ _ (Own w (x7 [Res.row o 175 [.int .u64 x]]) [Res.row o 175 [.int .u64 (jF x)]])) _ hw
        refine zB ?_
        refine zC rfl ?_
        refine zt rfl rfl ?_
        refine ya 0 (v := .int .u64 (jF x)) rfl rfl rfl (by kernel_rfl) rfl ?_
        refine zG rfl ?_
        refine zA ?_
        exact zN (z4 (v := .int .u64 (jF x)) rfl rfl (fun w' hw => ⟨jF x, rfl, hw⟩))
  ·
    refine zU 5 rfl hw ?_
    refine ya 0 (v := .int .u64 x) rfl rfl rfl (by kernel_rfl) rfl ?_
    refine zd (fun w' hw => ?_)
    have hS := hw.sel [] rfl (by decide)
    refine ⟨hS, ?_⟩
    refine zo 6 rfl (by kernel_rfl) (by kernel_rfl) (by kernel_rfl) (j6 (c := zBL x 13) rfl rfl (by decide) rfl) rfl hS ?_
    refine y0 2 (by kernel_rfl) rfl hw ?_
    refine ya 0 (v := .int .u64 x) rfl rfl rfl (by kernel_rfl) rfl ?_
    refine zd (fun w' hw => ?_)
    have hS := hw.sel [] rfl (by decide)
    refine ⟨hS, ?_⟩
    refine zo 7 rfl (by kernel_rfl) (by kernel_rfl) (by kernel_rfl) (kd (c := xs1 x) rfl rfl rfl) rfl hS ?_
    refine zo 8 rfl (by kernel_rfl) (by kernel_rfl) (by kernel_rfl) (zq rfl) rfl hS ?_
    refine y0 9 (by kernel_rfl) rfl hw ?_
    refine zAH (cs := [.int .u64 x]) 0 rfl rfl rfl (by kernel_rfl) rfl (Nat.le_of_ble_eq_true rfl) ?_
    refine zd (fun w' hw => ?_)
    have hS := hw.sel [] rfl (by decide)
    refine ⟨hS, ?_⟩
    refine xV (by kernel_rfl) ?_
    refine (?_ : C _ _ _ _ _ _ _ (Own w (x7 [Res.row o 175 [.int .u64 x]]) [Res.row o 175 [.int .u64 (xs1 x)]])) _ hw
    refine zK ?_
    refine zZ [] rfl (by decide) (by kernel_rfl) (fun w' hw hS => ?_)
    refine zo 0 rfl (by kernel_rfl) (by kernel_rfl) (by kernel_rfl) (zL) rfl hS ?_
    refine zo 1 rfl (by kernel_rfl) (by kernel_rfl) (by kernel_rfl) (zq rfl) rfl hS ?_
    refine zo 3 rfl (by kernel_rfl) (by kernel_rfl) (by kernel_rfl) (zL) rfl hS ?_
    refine zo 4 rfl (by kernel_rfl) (by kernel_rfl) (by kernel_rfl) (zq rfl) rfl hS ?_
    refine kV (i := 2) (j := 5) (by kernel_rfl) ?_ ?_
    ·
      refine zU 2 rfl hw ?_
      refine ya 0 (v := .int .u64 (xs1 x)) rfl rfl rfl (by kernel_rfl) rfl ?_
      refine zd (fun w' hw => ?_)
      have hS := hw.sel [] rfl (by decide)
      refine ⟨hS, ?_⟩
      refine y0 5 (by kernel_rfl) rfl hw ?_
      refine ya 0 (v := .int .u64 (xs1 x)) rfl rfl rfl (by kernel_rfl) rfl ?_
      refine zd (fun w' hw => ?_)
      have hS := hw.sel [] rfl (by decide)
      refine ⟨hS, ?_⟩
      refine zo 6 rfl (by kernel_rfl) (by kernel_rfl) (by kernel_rfl) (zFT (c := zHt (xs1 x) 7) rfl rfl (by decide) rfl) rfl hS ?_
      refine zo 7 rfl (by kernel_rfl) (by kernel_rfl) (by kernel_rfl) (kd (c := kn x) rfl rfl rfl) rfl hS ?_
      refine zo 8 rfl (by kernel_rfl) (by kernel_rfl) (by kernel_rfl) (zq rfl) rfl hS ?_
      refine y0 9 (by kernel_rfl) rfl hw ?_
      refine zAH (cs := [.int .u64 (xs1 x)]) 0 rfl rfl rfl (by kernel_rfl) rfl (Nat.le_of_ble_eq_true rfl) ?_
      refine zd (fun w' hw => ?_)
      have hS := hw.sel [] rfl (by decide)
      refine ⟨hS, ?_⟩
      refine xV (by kernel_rfl) ?_
      refine (?_ : C _ _ _ _ _ _ _ (Own w (x7 [Res.row o 175 [.int .u64 x]]) [Res.row o 175 [.int .u64 (kn x)]])) _ hw
      refine zK ?_
      refine zZ [] rfl (by decide) (by kernel_rfl) (fun w' hw hS => ?_)
      refine zo 0 rfl (by kernel_rfl) (by kernel_rfl) (by kernel_rfl) (zL) rfl hS ?_
      refine zo 1 rfl (by kernel_rfl) (by kernel_rfl) (by kernel_rfl) (zq rfl) rfl hS ?_
      refine zo 3 rfl (by kernel_rfl) (by kernel_rfl) (by kernel_rfl) (zL) rfl hS ?_
      refine zo 4 rfl (by kernel_rfl) (by kernel_rfl) (by kernel_rfl) (zq rfl) rfl hS ?_
      refine kV (i := 2) (j := 5) (by kernel_rfl) ?_ ?_
      ·
        refine zU 2 rfl hw ?_
        refine ya 0 (v := .int .u64 (kn x)) rfl rfl rfl (by kernel_rfl) rfl ?_
        refine zd (fun w' hw => ?_)
        have hS := hw.sel [] rfl (by decide)
        refine ⟨hS, ?_⟩
        refine y0 5 (by kernel_rfl) rfl hw ?_
        refine ya 0 (v := .int .u64 (kn x)) rfl rfl rfl (by kernel_rfl) rfl ?_
        refine zd (fun w' hw => ?_)
        have hS := hw.sel [] rfl (by decide)
        refine ⟨hS, ?_⟩
        refine zo 6 rfl (by kernel_rfl) (by kernel_rfl) (by kernel_rfl) (j6 (c := zBL (kn x) 17) rfl rfl (by decide) rfl) rfl hS ?_
        refine zo 7 rfl (by kernel_rfl) (by kernel_rfl) (by kernel_rfl) (kd (c := jF x) rfl rfl rfl) rfl hS ?_
        refine zo 8 rfl (by kernel_rfl) (by kernel_rfl) (by kernel_rfl) (zq rfl) rfl hS ?_
        refine y0 9 (by kernel_rfl) rfl hw ?_
        refine zAH (cs := [.int .u64 (kn x)]) 0 rfl rfl rfl (by kernel_rfl) rfl (Nat.le_of_ble_eq_true rfl) ?_
        refine zd (fun w' hw => ?_)
        have hS := hw.sel [] rfl (by decide)
        refine ⟨hS, ?_⟩
        refine xV (by kernel_rfl) ?_
        refine (?_ : C _ _ _ _ _ _ _ (Own w (x7 [Res.row o 175 [.int .u64 x]]) [Res.row o 175 [.int .u64 (jF x)]])) _ hw
        refine zB ?_
        refine zC rfl ?_
        refine zt rfl rfl ?_
        refine ya 0 (v := .int .u64 (jF x)) rfl rfl rfl (by kernel_rfl) rfl ?_
        refine zG rfl ?_
        refine zA ?_
        exact zN (z4 (v := .int .u64 (jF x)) rfl rfl (fun w' hw => ⟨jF x, rfl, hw⟩))
      ·
        refine zU 5 rfl hw ?_
        refine ya 0 (v := .int .u64 (kn x)) rfl rfl rfl (by kernel_rfl) rfl ?_
        refine zd (fun w' hw => ?_)
        have hS := hw.sel [] rfl (by decide)
        refine ⟨hS, ?_⟩
        refine zo 6 rfl (by kernel_rfl) (by kernel_rfl) (by kernel_rfl) (j6 (c := zBL (kn x) 17) rfl rfl (by decide) rfl) rfl hS ?_
        refine y0 2 (by kernel_rfl) rfl hw ?_
        refine ya 0 (v := .int .u64 (kn x)) rfl rfl rfl (by kernel_rfl) rfl ?_
        refine zd (fun w' hw => ?_)
        have hS := hw.sel [] rfl (by decide)
        refine ⟨hS, ?_⟩
        refine zo 7 rfl (by kernel_rfl) (by kernel_rfl) (by kernel_rfl) (kd (c := jF x) rfl rfl rfl) rfl hS ?_
        refine zo 8 rfl (by kernel_rfl) (by kernel_rfl) (by kernel_rfl) (zq rfl) rfl hS ?_
        refine y0 9 (by kernel_rfl) rfl hw ?_
        refine zAH (cs := [.int .u64 (kn x)]) 0 rfl rfl rfl (by kernel_rfl) rfl (Nat.le_of_ble_eq_true rfl) ?_
        refine zd (fun w' hw => ?_)
        have hS := hw.sel [] rfl (by decide)
        refine ⟨hS, ?_⟩
        refine xV (by kernel_rfl) ?_
        refine (?_ : C _ _ _ _ _ _ _ (Own w (x7 [Res.row o 175 [.int .u64 x]]) [Res.row o 175 [.int .u64 (jF x)]])) _ hw
        refine zB ?_
        refine zC rfl ?_
        refine zt rfl rfl ?_
        refine ya 0 (v := .int .u64 (jF x)) rfl rfl rfl (by kernel_rfl) rfl ?_
        refine zG rfl ?_
        refine zA ?_
        exact zN (z4 (v := .int .u64 (jF x)) rfl rfl (fun w' hw => ⟨jF x, rfl, hw⟩))
    ·
      refine zU 5 rfl hw ?_
      refine ya 0 (v := .int .u64 (xs1 x)) rfl rfl rfl (by kernel_rfl) rfl ?_
      refine zd (fun w' hw => ?_)
      have hS := hw.sel [] rfl (by decide)
      refine ⟨hS, ?_⟩
      refine zo 6 rfl (by kernel_rfl) (by kernel_rfl) (by kernel_rfl) (zFT (c := zHt (xs1 x) 7) rfl rfl (by decide) rfl) rfl hS ?_
      refine y0 2 (by kernel_rfl) rfl hw ?_
      refine ya 0 (v := .int .u64 (xs1 x)) rfl rfl rfl (by kernel_rfl) rfl ?_
      refine zd (fun w' hw => ?_)
      have hS := hw.sel [] rfl (by decide)
      refine ⟨hS, ?_⟩
      refine zo 7 rfl (by kernel_rfl) (by kernel_rfl) (by kernel_rfl) (kd (c := kn x) rfl rfl rfl) rfl hS ?_
      refine zo 8 rfl (by kernel_rfl) (by kernel_rfl) (by kernel_rfl) (zq rfl) rfl hS ?_
      refine y0 9 (by kernel_rfl) rfl hw ?_
      refine zAH (cs := [.int .u64 (xs1 x)]) 0 rfl rfl rfl (by kernel_rfl) rfl (Nat.le_of_ble_eq_true rfl) ?_
      refine zd (fun w' hw => ?_)
      have hS := hw.sel [] rfl (by decide)
      refine ⟨hS, ?_⟩
      refine xV (by kernel_rfl) ?_
      refine (?_ : C _ _ _ _ _ _ _ (Own w (x7 [Res.row o 175 [.int .u64 x]]) [Res.row o 175 [.int .u64 (kn x)]])) _ hw
      refine zK ?_
      refine zZ [] rfl (by decide) (by kernel_rfl) (fun w' hw hS => ?_)
      refine zo 0 rfl (by kernel_rfl) (by kernel_rfl) (by kernel_rfl) (zL) rfl hS ?_
      refine zo 1 rfl (by kernel_rfl) (by kernel_rfl) (by kernel_rfl) (zq rfl) rfl hS ?_
      refine zo 3 rfl (by kernel_rfl) (by kernel_rfl) (by kernel_rfl) (zL) rfl hS ?_
      refine zo 4 rfl (by kernel_rfl) (by kernel_rfl) (by kernel_rfl) (zq rfl) rfl hS ?_
      refine kV (i := 2) (j := 5) (by kernel_rfl) ?_ ?_
      ·
        refine zU 2 rfl hw ?_
        refine ya 0 (v := .int .u64 (kn x)) rfl rfl rfl (by kernel_rfl) rfl ?_
        refine zd (fun w' hw => ?_)
        have hS := hw.sel [] rfl (by decide)
        refine ⟨hS, ?_⟩
        refine y0 5 (by kernel_rfl) rfl hw ?_
        refine ya 0 (v := .int .u64 (kn x)) rfl rfl rfl (by kernel_rfl) rfl ?_
        refine zd (fun w' hw => ?_)
        have hS := hw.sel [] rfl (by decide)
        refine ⟨hS, ?_⟩
        refine zo 6 rfl (by kernel_rfl) (by kernel_rfl) (by kernel_rfl) (j6 (c := zBL (kn x) 17) rfl rfl (by decide) rfl) rfl hS ?_
        refine zo 7 rfl (by kernel_rfl) (by kernel_rfl) (by kernel_rfl) (kd (c := jF x) rfl rfl rfl) rfl hS ?_
        refine zo 8 rfl (by kernel_rfl) (by kernel_rfl) (by kernel_rfl) (zq rfl) rfl hS ?_
        refine y0 9 (by kernel_rfl) rfl hw ?_
        refine zAH (cs := [.int .u64 (kn x)]) 0 rfl rfl rfl (by kernel_rfl) rfl (Nat.le_of_ble_eq_true rfl) ?_
        refine zd (fun w' hw => ?_)
        have hS := hw.sel [] rfl (by decide)
        refine ⟨hS, ?_⟩
        refine xV (by kernel_rfl) ?_
        refine (?_ : C _ _ _ _ _ _ _ (Own w (x7 [Res.row o 175 [.int .u64 x]]) [Res.row o 175 [.int .u64 (jF x)]])) _ hw
        refine zB ?_
        refine zC rfl ?_
        refine zt rfl rfl ?_
        refine ya 0 (v := .int .u64 (jF x)) rfl rfl rfl (by kernel_rfl) rfl ?_
        refine zG rfl ?_
        refine zA ?_
        exact zN (z4 (v := .int .u64 (jF x)) rfl rfl (fun w' hw => ⟨jF x, rfl, hw⟩))
      ·
        refine zU 5 rfl hw ?_
        refine ya 0 (v := .int .u64 (kn x)) rfl rfl rfl (by kernel_rfl) rfl ?_
        refine zd (fun w' hw => ?_)
        have hS := hw.sel [] rfl (by decide)
        refine ⟨hS, ?_⟩
        refine zo 6 rfl (by kernel_rfl) (by kernel_rfl) (by kernel_rfl) (j6 (c := zBL (kn x) 17) rfl rfl (by decide) rfl) rfl hS ?_
        refine y0 2 (by kernel_rfl) rfl hw ?_
        refine ya 0 (v := .int .u64 (kn x)) rfl rfl rfl (by kernel_rfl) rfl ?_
        refine zd (fun w' hw => ?_)
        have hS := hw.sel [] rfl (by decide)
        refine ⟨hS, ?_⟩
        refine zo 7 rfl (by kernel_rfl) (by kernel_rfl) (by kernel_rfl) (kd (c := jF x) rfl rfl rfl) rfl hS ?_
        refine zo 8 rfl (by kernel_rfl) (by kernel_rfl) (by kernel_rfl) (zq rfl) rfl hS ?_
        refine y0 9 (by kernel_rfl) rfl hw ?_
        refine zAH (cs := [.int .u64 (kn x)]) 0 rfl rfl rfl (by kernel_rfl) rfl (Nat.le_of_ble_eq_true rfl) ?_
        refine zd (fun w' hw => ?_)
        have hS := hw.sel [] rfl (by decide)
        refine ⟨hS, ?_⟩
        refine xV (by kernel_rfl) ?_
        refine (?_ : C _ _ _ _ _ _ _ (Own w (x7 [Res.row o 175 [.int .u64 x]]) [Res.row o 175 [.int .u64 (jF x)]])) _ hw
        refine zB ?_
        refine zC rfl ?_
        refine zt rfl rfl ?_
        refine ya 0 (v := .int .u64 (jF x)) rfl rfl rfl (by kernel_rfl) rfl ?_
        refine zG rfl ?_
        refine zA ?_
        exact zN (z4 (v := .int .u64 (jF x)) rfl rfl (fun w' hw => ⟨jF x, rfl, hw⟩))
end Go.Proofs.YtcdiehplbmkmeaaGreat
