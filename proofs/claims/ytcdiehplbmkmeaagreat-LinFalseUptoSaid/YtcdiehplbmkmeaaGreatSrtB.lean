import Derived.Test.YtcdiehplbmkmeaaGreatSrt
import Derived.Test.YtcdiehplbmkmeaaGreatFwU
import Derived.Test.YtcdiehplbmkmeaaGreatCodec
import Derived.Test.YtcdiehplbmkmeaaGreatChecked
set_option linter.unusedSectionVars false
set_option linter.unusedSimpArgs false
set_option linter.unusedVariables false
set_option maxRecDepth 10000
namespace Go.Proofs.YtcdiehplbmkmeaaGreat
open Go Go.Sc Go.Proofs
theorem vi {a b : Int} (h : a = b) : Value.int .i64 a = Value.int .i64 b := by rw [h]
theorem wsi {a b : Nat} (h : b ≤ a) (h2 : a < 9223372036854775808) : IntKind.i64.wrap ((a : Int) - (b : Int)) = ((a - b : Nat) : Int) := by
  rw [show (a : Int) - (b : Int) = ((a - b : Nat) : Int) by omega]; exact zh (by omega)
theorem xg {a : Nat} (h : 1 ≤ a) (h2 : a < 9223372036854775808) : IntKind.i64.wrap ((a : Int) - 1) = ((a - 1 : Nat) : Int) := wsi (b := 1) h h2
theorem qui {a b : Nat} (h : a < 9223372036854775808) : IntKind.i64.wrap ((a : Int).tdiv (b : Int)) = ((a / b : Nat) : Int) := by
  have : (a : Int).tdiv (b : Int) = ((a / b : Nat) : Int) := rfl
  rw [this]
  have h2 := Nat.div_le_self a b
  generalize a / b = c at h2 ⊢
  exact zh (by omega)
theorem zJf {α : Type} [Inhabited α] [SO α] {m : List α} {f r hi : Nat} (h : olt (zG m (f + (2 * r + 1))) (zG m (f + (2 * r + 1) + 1))) : ∀ c', c' = 2 * r + 1 ∨ c' = 2 * r + 2 → c' < hi → xy (zG m (f + c')) (zG m (f + (2 * r + 1 + 1))) := by
  intro c' h1 _
  rw [show f + (2 * r + 1) + 1 = f + (2 * r + 1 + 1) by omega] at h
  rcases h1 with rfl | rfl
  · exact xR h
  · exact kN _
theorem zHE {α : Type} [Inhabited α] [SO α] {m : List α} {f r hi : Nat} (h : 2 * r + 1 + 1 < hi → ¬ olt (zG m (f + (2 * r + 1))) (zG m (f + (2 * r + 1) + 1))) : ∀ c', c' = 2 * r + 1 ∨ c' = 2 * r + 2 → c' < hi → xy (zG m (f + c')) (zG m (f + (2 * r + 1))) := by
  intro c' h1 h2
  rcases h1 with rfl | rfl
  · exact kN _
  · have := h (by omega)
    rw [show f + (2 * r + 1) + 1 = f + (2 * r + 2) by omega] at this
    exact this
def zJp (a b : Int) : Int := IntKind.u64.wrap (((a % 2 ^ IntKind.u64.bits).toNat ^^^ (b % 2 ^ IntKind.u64.bits).toNat : Nat) : Int)
def zBH (a b : Int) : Int := IntKind.u64.wrap (a * 2 ^ (min b.toNat IntKind.u64.bits))
def zHX (a b : Int) : Int := a.fdiv (2 ^ (min b.toNat IntKind.u64.bits))
def xs1 (x : Int) : Int := zJp x (zBH x 13)
def kf (x : Int) : Int := zJp (xs1 x) (zHX (xs1 x) 7)
def k9 (x : Int) : Int := zJp (kf x) (zBH (kf x) 17)
theorem zC8 {n : Nat} (h : n ≤ 1000000000000) : zi n ≤ 40 := xO (by have : (2 : Nat) ^ 40 = 1099511627776 := rfl; omega)
theorem zI6 {n : Nat} (h : n ≤ 1000000000000) : IntKind.u64.wrap ((1 : Int) * 2 ^ (min ((zi n : Nat) : Int).toNat IntKind.u64.bits)) = ((2 ^ zi n : Nat) : Int) := by
  have h1 := zC8 h
  have e : min ((zi n : Nat) : Int).toNat IntKind.u64.bits = zi n := by
    rw [Int.toNat_natCast]; show min _ 64 = _; omega
  have h2 : 2 ^ zi n ≤ 2 ^ 40 := Nat.pow_le_pow_right (by decide) h1
  have h3 : (2 : Nat) ^ 40 = 1099511627776 := rfl
  rw [e, Int.one_mul, show ((2 : Int) ^ zi n) = ((2 ^ zi n : Nat) : Int) by rw [Int.natCast_pow]; rfl]
  generalize 2 ^ zi n = z at h2 ⊢
  exact zAt (by omega)
theorem zKY {n : Nat} (h : 0 < n) : 2 ^ zi n ≤ 2 * n ∧ 0 < 2 ^ zi n := by
  have h1 := jg h
  have h2 := zBa h
  refine ⟨?_, Nat.pow_pos (by decide)⟩
  rw [show zi n = (zi n - 1) + 1 by omega, Nat.pow_succ]
  omega
theorem zGU {y : Int} {m : Nat} (h : 0 < m) (hm : m ≤ 4000000000000) : ((y % 18446744073709551616).toNat &&& (m - 1)) < m := by
  have := Nat.and_le_right (n := (y % 18446744073709551616).toNat) (m := m - 1)
  omega
theorem zGz {y : Int} {m : Nat} (h : 0 < m) (hm : m ≤ 4000000000000) : IntKind.u64.wrap (((y % 2 ^ IntKind.u64.bits).toNat &&& (((m - 1 : Nat) : Int) % 2 ^ IntKind.u64.bits).toNat : Nat) : Int) = (((y % 18446744073709551616).toNat &&& (m - 1) : Nat) : Int) := by
  have e : ((((m - 1 : Nat) : Int)) % 2 ^ IntKind.u64.bits).toNat = m - 1 := by
    show ((((m - 1 : Nat) : Int)) % 18446744073709551616).toNat = m - 1
    omega
  have e2 : (y % 2 ^ IntKind.u64.bits).toNat = (y % 18446744073709551616).toNat := rfl
  rw [e, e2]
  have := zGU (y := y) h hm
  exact zAt (by omega)
theorem zIq (n : Nat) (w : World) (hn : n < 18446744073709551616) : Rets Tryz.prog 88 #[.int .u64 (n : Nat)] w fun u_ w' => u_ = .int .i64 ((zi n) : Nat) ∧ Own w [] [] w' := by
  exact zBc n hn w
theorem zJN (n : Nat) (w : World) (hn : n < 18446744073709551616) : Rets Tryz.prog 67 #[.int .u64 (n : Nat)] w fun u_ w' => u_ = .int .i64 ((zi n) : Nat) ∧ Own w [] [] w' := by
  refine xe (args := [.int .u64 (n : Nat)]) Tryz.func67 rfl Tryz.ntmps67 rfl (Own.start w) ?_
  refine zB ?_
  refine zH rfl ?_
  refine zA ?_
  refine zL ?_
  refine xt rfl ?_
  refine zJ ?_
  refine zB ?_
  refine zC rfl ?_
  refine j7 (by kernel_rfl) rfl rfl (fun w' hw => ?_)
  refine (zIq n w' (by first | assumption | omega | (simp <;> omega) | (constructor <;> (first | omega | (simp only [z6]; omega) | (simp <;> omega))))).mono ?_
  rintro _ w1 ⟨rfl, hO⟩
  refine (?_ : CL _ _ _ _ _ _ (Own w [] [])) w1 (hw.frame0 hO)
  refine zH rfl ?_
  refine zA ?_
  exact zN (z4 (v := .int .i64 ((zi n) : Nat)) rfl rfl (fun w' hw => ⟨rfl, hw.drop⟩))
theorem zLL (n : Nat) (w : World) (hn : n ≤ 1000000000000) : Rets Tryz.prog 100 #[.int .i64 (n : Nat)] w fun u_ w' => u_ = .int .u64 ((2 ^ zi n) : Nat) ∧ Own w [] [] w' := by
  refine xe (args := [.int .i64 (n : Nat)]) Tryz.func100 rfl Tryz.ntmps100 rfl (Own.start w) ?_
  refine zB ?_
  refine zH rfl ?_
  refine zA ?_
  refine zB ?_
  refine zC rfl ?_
  refine yp (by kernel_rfl) rfl (zAt (by omega)) rfl ?_ (by kernel_rfl)
  refine j7 (by kernel_rfl) rfl rfl (fun w' hw => ?_)
  refine (zJN n w' (by first | assumption | omega | (simp <;> omega) | (constructor <;> (first | omega | (simp only [z6]; omega) | (simp <;> omega))))).mono ?_
  rintro _ w1 ⟨rfl, hO⟩
  refine (?_ : CL _ _ _ _ _ _ (Own w [] [])) w1 (hw.frame0 hO)
  refine zLg (c := ((2 ^ zi n : Nat) : Int)) rfl rfl (by omega) (zI6 hn) rfl ?_
  refine zH rfl ?_
  refine zA ?_
  exact zN (z4 (v := .int .u64 (2 ^ zi n : Nat)) rfl rfl (fun w' hw => ⟨rfl, hw.drop⟩))
theorem zKe (o : Nat) (x : Int) (w : World) (hin : Own w (x6 [Res.row o 175 [.int .u64 x]]) [Res.row o 175 [.int .u64 x]] w) : Rets Tryz.prog 101 #[.pointer (some ⟨o, 0, none⟩)] w fun u_ w' => ∃ (y : Int), u_ = .int .u64 y ∧ Own w (x6 [Res.row o 175 [.int .u64 x]]) [Res.row o 175 [.int .u64 y]] w' := by
  refine xe (args := [.pointer (some ⟨o, 0, none⟩)]) Tryz.func101 rfl Tryz.ntmps101 rfl (show Own w (x6 [Res.row o 175 [.int .u64 x]]) [Res.row o 175 [.int .u64 x]] w from hin) ?_
  refine zB ?_
  refine zH rfl ?_
  refine zA ?_
  refine zL ?_
  refine zZ [] rfl (by decide) (by kernel_rfl) (fun w' hw hS => ?_)
  refine zo 0 rfl (by kernel_rfl) (by kernel_rfl) (by kernel_rfl) (zK) rfl hS ?_
  refine zo 1 rfl (by kernel_rfl) (by kernel_rfl) (by kernel_rfl) (zq rfl) rfl hS ?_
  refine zo 3 rfl (by kernel_rfl) (by kernel_rfl) (by kernel_rfl) (zK) rfl hS ?_
  refine zo 4 rfl (by kernel_rfl) (by kernel_rfl) (by kernel_rfl) (zq rfl) rfl hS ?_
  refine kR (i := 2) (j := 5) (by kernel_rfl) ?_ ?_
  ·
    refine zT 2 rfl hw ?_
    refine yX 0 (v := .int .u64 x) rfl rfl rfl (by kernel_rfl) rfl ?_
    refine zd (fun w' hw => ?_)
    have hS := hw.sel [] rfl (by decide)
    refine ⟨hS, ?_⟩
    refine yw 5 (by kernel_rfl) rfl hw ?_
    refine yX 0 (v := .int .u64 x) rfl rfl rfl (by kernel_rfl) rfl ?_
    refine zd (fun w' hw => ?_)
    have hS := hw.sel [] rfl (by decide)
    refine ⟨hS, ?_⟩
    refine zo 6 rfl (by kernel_rfl) (by kernel_rfl) (by kernel_rfl) (jq (c := zBH x 13) rfl rfl (by decide) rfl) rfl hS ?_
    refine zo 7 rfl (by kernel_rfl) (by kernel_rfl) (by kernel_rfl) (kX (c := xs1 x) rfl rfl rfl) rfl hS ?_
    refine zo 8 rfl (by kernel_rfl) (by kernel_rfl) (by kernel_rfl) (zq rfl) rfl hS ?_
    refine yw 9 (by kernel_rfl) rfl hw ?_
    refine j5 (cs := [.int .u64 x]) 0 rfl rfl rfl (by kernel_rfl) rfl (Nat.le_of_ble_eq_true rfl) ?_
    refine zd (fun w' hw => ?_)
    have hS := hw.sel [] rfl (by decide)
    refine ⟨hS, ?_⟩
    refine xU (by kernel_rfl) ?_
    refine (?_ : C _ _ _ _ _ _ _ (Own w (x6 [Res.row o 175 [.int .u64 x]]) [Res.row o 175 [.int .u64 (xs1 x)]])) _ hw
    refine zL ?_
    refine zZ [] rfl (by decide) (by kernel_rfl) (fun w' hw hS => ?_)
    refine zo 0 rfl (by kernel_rfl) (by kernel_rfl) (by kernel_rfl) (zK) rfl hS ?_
    refine zo 1 rfl (by kernel_rfl) (by kernel_rfl) (by kernel_rfl) (zq rfl) rfl hS ?_
    refine zo 3 rfl (by kernel_rfl) (by kernel_rfl) (by kernel_rfl) (zK) rfl hS ?_
    refine zo 4 rfl (by kernel_rfl) (by kernel_rfl) (by kernel_rfl) (zq rfl) rfl hS ?_
    refine kR (i := 2) (j := 5) (by kernel_rfl) ?_ ?_
    ·
      refine zT 2 rfl hw ?_
      refine yX 0 (v := .int .u64 (xs1 x)) rfl rfl rfl (by kernel_rfl) rfl ?_
      refine zd (fun w' hw => ?_)
      have hS := hw.sel [] rfl (by decide)
      refine ⟨hS, ?_⟩
      refine yw 5 (by kernel_rfl) rfl hw ?_
      refine yX 0 (v := .int .u64 (xs1 x)) rfl rfl rfl (by kernel_rfl) rfl ?_
      refine zd (fun w' hw => ?_)
      have hS := hw.sel [] rfl (by decide)
      refine ⟨hS, ?_⟩
      refine zo 6 rfl (by kernel_rfl) (by kernel_rfl) (by kernel_rfl) (zEq (c := zHX (xs1 x) 7) rfl rfl (by decide) rfl) rfl hS ?_
      refine zo 7 rfl (by kernel_rfl) (by kernel_rfl) (by kernel_rfl) (kX (c := kf x) rfl rfl rfl) rfl hS ?_
      refine zo 8 rfl (by kernel_rfl) (by kernel_rfl) (by kernel_rfl) (zq rfl) rfl hS ?_
      refine yw 9 (by kernel_rfl) rfl hw ?_
      refine j5 (cs := [.int .u64 (xs1 x)]) 0 rfl rfl rfl (by kernel_rfl) rfl (Nat.le_of_ble_eq_true rfl) ?_
      refine zd (fun w' hw => ?_)
      have hS := hw.sel [] rfl (by decide)
      refine ⟨hS, ?_⟩
      refine xU (by kernel_rfl) ?_
      refine (?_ : C _ _ _ _ _ _ _ (Own w (x6 [Res.row o 175 [.int .u64 x]]) [Res.row o 175 [.int .u64 (kf x)]])) _ hw
      refine zL ?_
      refine zZ [] rfl (by decide) (by kernel_rfl) (fun w' hw hS => ?_)
      refine zo 0 rfl (by kernel_rfl) (by kernel_rfl) (by kernel_rfl) (zK) rfl hS ?_
      refine zo 1 rfl (by kernel_rfl) (by kernel_rfl) (by kernel_rfl) (zq rfl) rfl hS ?_
      refine zo 3 rfl (by kernel_rfl) (by kernel_rfl) (by kernel_rfl) (zK) rfl hS ?_
      refine zo 4 rfl (by kernel_rfl) (by kernel_rfl) (by kernel_rfl) (zq rfl) rfl hS ?_
      refine kR (i := 2) (j := 5) (by kernel_rfl) ?_ ?_
      ·
        refine zT 2 rfl hw ?_
        refine yX 0 (v := .int .u64 (kf x)) rfl rfl rfl (by kernel_rfl) rfl ?_
        refine zd (fun w' hw => ?_)
        have hS := hw.sel [] rfl (by decide)
        refine ⟨hS, ?_⟩
        refine yw 5 (by kernel_rfl) rfl hw ?_
        refine yX 0 (v := .int .u64 (kf x)) rfl rfl rfl (by kernel_rfl) rfl ?_
        refine zd (fun w' hw => ?_)
        have hS := hw.sel [] rfl (by decide)
        refine ⟨hS, ?_⟩
        refine zo 6 rfl (by kernel_rfl) (by kernel_rfl) (by kernel_rfl) (jq (c := zBH (kf x) 17) rfl rfl (by decide) rfl) rfl hS ?_
        refine zo 7 rfl (by kernel_rfl) (by kernel_rfl) (by kernel_rfl) (kX (c := k9 x) rfl rfl rfl) rfl hS ?_
        refine zo 8 rfl (by kernel_rfl) (by kernel_rfl) (by kernel_rfl) (zq rfl) rfl hS ?_
        refine yw 9 (by kernel_rfl) rfl hw ?_
        refine j5 (cs := [.int .u64 (kf x)]) 0 rfl rfl rfl (by kernel_rfl) rfl (Nat.le_of_ble_eq_true rfl) ?_
        refine zd (fun w' hw => ?_)
        have hS := hw.sel [] rfl (by decide)
        refine ⟨hS, ?_⟩
        refine xU (by kernel_rfl) ?_
        refine (?_ : C _ _ _ _ _ _ _ (Own w (x6 [Res.row o 175 [.int .u64 x]]) [Res.row o 175 [.int .u64 (k9 x)]])) _ hw
        refine zB ?_
        refine zC rfl ?_
        refine zt rfl rfl ?_
        refine yX 0 (v := .int .u64 (k9 x)) rfl rfl rfl (by kernel_rfl) rfl ?_
        refine zH rfl ?_
        refine zA ?_
        exact zN (z4 (v := .int .u64 (k9 x)) rfl rfl (fun w' hw => ⟨k9 x, rfl, hw⟩))
      ·
        refine zT 5 rfl hw ?_
        refine yX 0 (v := .int .u64 (kf x)) rfl rfl rfl (by kernel_rfl) rfl ?_
        refine zd (fun w' hw => ?_)
        have hS := hw.sel [] rfl (by decide)
        refine ⟨hS, ?_⟩
        refine zo 6 rfl (by kernel_rfl) (by kernel_rfl) (by kernel_rfl) (jq (c := zBH (kf x) 17) rfl rfl (by decide) rfl) rfl hS ?_
        refine yw 2 (by kernel_rfl) rfl hw ?_
        refine yX 0 (v := .int .u64 (kf x)) rfl rfl rfl (by kernel_rfl) rfl ?_
        refine zd (fun w' hw => ?_)
        have hS := hw.sel [] rfl (by decide)
        refine ⟨hS, ?_⟩
        refine zo 7 rfl (by kernel_rfl) (by kernel_rfl) (by kernel_rfl) (kX (c := k9 x) rfl rfl rfl) rfl hS ?_
        refine zo 8 rfl (by kernel_rfl) (by kernel_rfl) (by kernel_rfl) (zq rfl) rfl hS ?_
        refine yw 9 (by kernel_rfl) rfl hw ?_
        refine j5 (cs := [.int .u64 (kf x)]) 0 rfl rfl rfl (by kernel_rfl) rfl (Nat.le_of_ble_eq_true rfl) ?_
        refine zd (fun w' hw => ?_)
        have hS := hw.sel [] rfl (by decide)
        refine ⟨hS, ?_⟩
        refine xU (by kernel_rfl) ?_
        refine (?_ : C _ _ _ _ _ _ _ (Own w (x6 [Res.row o 175 [.int .u64 x]]) [Res.row o 175 [.int .u64 (k9 x)]])) _ hw
        refine zB ?_
        refine zC rfl ?_
        refine zt rfl rfl ?_
        refine yX 0 (v := .int .u64 (k9 x)) rfl rfl rfl (by kernel_rfl) rfl ?_
        refine zH rfl ?_
        refine zA ?_
        exact zN (z4 (v := .int .u64 (k9 x)) rfl rfl (fun w' hw => ⟨k9 x, rfl, hw⟩))
    ·
      refine zT 5 rfl hw ?_
      refine yX 0 (v := .int .u64 (xs1 x)) rfl rfl rfl (by kernel_rfl) rfl ?_
      refine zd (fun w' hw => ?_)
      have hS := hw.sel [] rfl (by decide)
      refine ⟨hS, ?_⟩
      refine zo 6 rfl (by kernel_rfl) (by kernel_rfl) (by kernel_rfl) (zEq (c := zHX (xs1 x) 7) rfl rfl (by decide) rfl) rfl hS ?_
      refine yw 2 (by kernel_rfl) rfl hw ?_
      refine yX 0 (v := .int .u64 (xs1 x)) rfl rfl rfl (by kernel_rfl) rfl ?_
      refine zd (fun w' hw => ?_)
      have hS := hw.sel [] rfl (by decide)
      refine ⟨hS, ?_⟩
      refine zo 7 rfl (by kernel_rfl) (by kernel_rfl) (by kernel_rfl) (kX (c := kf x) rfl rfl rfl) rfl hS ?_
      refine zo 8 rfl (by kernel_rfl) (by kernel_rfl) (by kernel_rfl) (zq rfl) rfl hS ?_
      refine yw 9 (by kernel_rfl) rfl hw ?_
      refine j5 (cs := [.int .u64 (xs1 x)]) 0 rfl rfl rfl (by kernel_rfl) rfl (Nat.le_of_ble_eq_true rfl) ?_
      refine zd (fun w' hw => ?_)
      have hS := hw.sel [] rfl (by decide)
      refine ⟨hS, ?_⟩
      refine xU (by kernel_rfl) ?_
      refine (?_ : C _ _ _ _ _ _ _ (Own w (x6 [Res.row o 175 [.int .u64 x]]) [Res.row o 175 [.int .u64 (kf x)]])) _ hw
      refine zL ?_
      refine zZ [] rfl (by decide) (by kernel_rfl) (fun w' hw hS => ?_)
      refine zo 0 rfl (by kernel_rfl) (by kernel_rfl) (by kernel_rfl) (zK) rfl hS ?_
      refine zo 1 rfl (by kernel_rfl) (by kernel_rfl) (by kernel_rfl) (zq rfl) rfl hS ?_
      refine zo 3 rfl (by kernel_rfl) (by kernel_rfl) (by kernel_rfl) (zK) rfl hS ?_
      refine zo 4 rfl (by kernel_rfl) (by kernel_rfl) (by kernel_rfl) (zq rfl) rfl hS ?_
      refine kR (i := 2) (j := 5) (by kernel_rfl) ?_ ?_
      ·
        refine zT 2 rfl hw ?_
        refine yX 0 (v := .int .u64 (kf x)) rfl rfl rfl (by kernel_rfl) rfl ?_
        refine zd (fun w' hw => ?_)
        have hS := hw.sel [] rfl (by decide)
        refine ⟨hS, ?_⟩
        refine yw 5 (by kernel_rfl) rfl hw ?_
        refine yX 0 (v := .int .u64 (kf x)) rfl rfl rfl (by kernel_rfl) rfl ?_
        refine zd (fun w' hw => ?_)
        have hS := hw.sel [] rfl (by decide)
        refine ⟨hS, ?_⟩
        refine zo 6 rfl (by kernel_rfl) (by kernel_rfl) (by kernel_rfl) (jq (c := zBH (kf x) 17) rfl rfl (by decide) rfl) rfl hS ?_
        refine zo 7 rfl (by kernel_rfl) (by kernel_rfl) (by kernel_rfl) (kX (c := k9 x) rfl rfl rfl) rfl hS ?_
        refine zo 8 rfl (by kernel_rfl) (by kernel_rfl) (by kernel_rfl) (zq rfl) rfl hS ?_
        refine yw 9 (by kernel_rfl) rfl hw ?_
        refine j5 (cs := [.int .u64 (kf x)]) 0 rfl rfl rfl (by kernel_rfl) rfl (Nat.le_of_ble_eq_true rfl) ?_
        refine zd (fun w' hw => ?_)
        have hS := hw.sel [] rfl (by decide)
        refine ⟨hS, ?_⟩
        refine xU (by kernel_rfl) ?_
        refine (?_ : C _ _ _ _ _ _ _ (Own w (x6 [Res.row o 175 [.int .u64 x]]) [Res.row o 175 [.int .u64 (k9 x)]])) _ hw
        refine zB ?_
        refine zC rfl ?_
        refine zt rfl rfl ?_
        refine yX 0 (v := .int .u64 (k9 x)) rfl rfl rfl (by kernel_rfl) rfl ?_
        refine zH rfl ?_
        refine zA ?_
        exact zN (z4 (v := .int .u64 (k9 x)) rfl rfl (fun w' hw => ⟨k9 x, rfl, hw⟩))
      ·
        refine zT 5 rfl hw ?_
        refine yX 0 (v := .int .u64 (kf x)) rfl rfl rfl (by kernel_rfl) rfl ?_
        refine zd (fun w' hw => ?_)
        have hS := hw.sel [] rfl (by decide)
        refine ⟨hS, ?_⟩
        refine zo 6 rfl (by kernel_rfl) (by kernel_rfl) (by kernel_rfl) (jq (c := zBH (kf x) 17) rfl rfl (by decide) rfl) rfl hS ?_
        refine yw 2 (by kernel_rfl) rfl hw ?_
        refine yX 0 (v := .int .u64 (kf x)) rfl rfl rfl (by kernel_rfl) rfl ?_
        refine zd (fun w' hw => ?_)
        have hS := hw.sel [] rfl (by decide)
        refine ⟨hS, ?_⟩
        refine zo 7 rfl (by kernel_rfl) (by kernel_rfl) (by kernel_rfl) (kX (c := k9 x) rfl rfl rfl) rfl hS ?_
        refine zo 8 rfl (by kernel_rfl) (by kernel_rfl) (by kernel_rfl) (zq rfl) rfl hS ?_
        refine yw 9 (by kernel_rfl) rfl hw ?_
        refine j5 (cs := [.int .u64 (kf x)]) 0 rfl rfl rfl (by kernel_rfl) rfl (Nat.le_of_ble_eq_true rfl) ?_
        refine zd (fun w' hw => ?_)
        have hS := hw.sel [] rfl (by decide)
        refine ⟨hS, ?_⟩
        refine xU (by kernel_rfl) ?_
        refine (?_ : C _ _ _ _ _ _ _ (Own w (x6 [Res.row o 175 [.int .u64 x]]) [Res.row o 175 [.int .u64 (k9 x)]])) _ hw
        refine zB ?_
        refine zC rfl ?_
        refine zt rfl rfl ?_
        refine yX 0 (v := .int .u64 (k9 x)) rfl rfl rfl (by kernel_rfl) rfl ?_
        refine zH rfl ?_
        refine zA ?_
        exact zN (z4 (v := .int .u64 (k9 x)) rfl rfl (fun w' hw => ⟨k9 x, rfl, hw⟩))
  ·
    refine zT 5 rfl hw ?_
    refine yX 0 (v := .int .u64 x) rfl rfl rfl (by kernel_rfl) rfl ?_
    refine zd (fun w' hw => ?_)
    have hS := hw.sel [] rfl (by decide)
    refine ⟨hS, ?_⟩
    refine zo 6 rfl (by kernel_rfl) (by kernel_rfl) (by kernel_rfl) (jq (c := zBH x 13) rfl rfl (by decide) rfl) rfl hS ?_
    refine yw 2 (by kernel_rfl) rfl hw ?_
    refine yX 0 (v := .int .u64 x) rfl rfl rfl (by kernel_rfl) rfl ?_
    refine zd (fun w' hw => ?_)
    have hS := hw.sel [] rfl (by decide)
    refine ⟨hS, ?_⟩
    refine zo 7 rfl (by kernel_rfl) (by kernel_rfl) (by kernel_rfl) (kX (c := xs1 x) rfl rfl rfl) rfl hS ?_
    refine zo 8 rfl (by kernel_rfl) (by kernel_rfl) (by kernel_rfl) (zq rfl) rfl hS ?_
    refine yw 9 (by kernel_rfl) rfl hw ?_
    refine j5 (cs := [.int .u64 x]) 0 rfl rfl rfl (by kernel_rfl) rfl (Nat.le_of_ble_eq_true rfl) ?_
    refine zd (fun w' hw => ?_)
    have hS := hw.sel [] rfl (by decide)
    refine ⟨hS, ?_⟩
    refine xU (by kernel_rfl) ?_
    refine (?_ : C _ _ _ _ _ _ _ (Own w (x6 [Res.row o 175 [.int .u64 x]]) [Res.row o 175 [.int .u64 (xs1 x)]])) _ hw
    refine zL ?_
    refine zZ [] rfl (by decide) (by kernel_rfl) (fun w' hw hS => ?_)
    refine zo 0 rfl (by kernel_rfl) (by kernel_rfl) (by kernel_rfl) (zK) rfl hS ?_
    refine zo 1 rfl (by kernel_rfl) (by kernel_rfl) (by kernel_rfl) (zq rfl) rfl hS ?_
    refine zo 3 rfl (by kernel_rfl) (by kernel_rfl) (by kernel_rfl) (zK) rfl hS ?_
    refine zo 4 rfl (by kernel_rfl) (by kernel_rfl) (by kernel_rfl) (zq rfl) rfl hS ?_
    refine kR (i := 2) (j := 5) (by kernel_rfl) ?_ ?_
    ·
      refine zT 2 rfl hw ?_
      refine yX 0 (v := .int .u64 (xs1 x)) rfl rfl rfl (by kernel_rfl) rfl ?_
      refine zd (fun w' hw => ?_)
      have hS := hw.sel [] rfl (by decide)
      refine ⟨hS, ?_⟩
      refine yw 5 (by kernel_rfl) rfl hw ?_
      refine yX 0 (v := .int .u64 (xs1 x)) rfl rfl rfl (by kernel_rfl) rfl ?_
      refine zd (fun w' hw => ?_)
      have hS := hw.sel [] rfl (by decide)
      refine ⟨hS, ?_⟩
      refine zo 6 rfl (by kernel_rfl) (by kernel_rfl) (by kernel_rfl) (zEq (c := zHX (xs1 x) 7) rfl rfl (by decide) rfl) rfl hS ?_
      refine zo 7 rfl (by kernel_rfl) (by kernel_rfl) (by kernel_rfl) (kX (c := kf x) rfl rfl rfl) rfl hS ?_
      refine zo 8 rfl (by kernel_rfl) (by kernel_rfl) (by kernel_rfl) (zq rfl) rfl hS ?_
      refine yw 9 (by kernel_rfl) rfl hw ?_
      refine j5 (cs := [.int .u64 (xs1 x)]) 0 rfl rfl rfl (by kernel_rfl) rfl (Nat.le_of_ble_eq_true rfl) ?_
      refine zd (fun w' hw => ?_)
      have hS := hw.sel [] rfl (by decide)
      refine ⟨hS, ?_⟩
      refine xU (by kernel_rfl) ?_
      refine (?_ : C _ _ _ _ _ _ _ (Own w (x6 [Res.row o 175 [.int .u64 x]]) [Res.row o 175 [.int .u64 (kf x)]])) _ hw
      refine zL ?_
      refine zZ [] rfl (by decide) (by kernel_rfl) (fun w' hw hS => ?_)
      refine zo 0 rfl (by kernel_rfl) (by kernel_rfl) (by kernel_rfl) (zK) rfl hS ?_
      refine zo 1 rfl (by kernel_rfl) (by kernel_rfl) (by kernel_rfl) (zq rfl) rfl hS ?_
      refine zo 3 rfl (by kernel_rfl) (by kernel_rfl) (by kernel_rfl) (zK) rfl hS ?_
      refine zo 4 rfl (by kernel_rfl) (by kernel_rfl) (by kernel_rfl) (zq rfl) rfl hS ?_
      refine kR (i := 2) (j := 5) (by kernel_rfl) ?_ ?_
      ·
        refine zT 2 rfl hw ?_
        refine yX 0 (v := .int .u64 (kf x)) rfl rfl rfl (by kernel_rfl) rfl ?_
        refine zd (fun w' hw => ?_)
        have hS := hw.sel [] rfl (by decide)
        refine ⟨hS, ?_⟩
        refine yw 5 (by kernel_rfl) rfl hw ?_
        refine yX 0 (v := .int .u64 (kf x)) rfl rfl rfl (by kernel_rfl) rfl ?_
        refine zd (fun w' hw => ?_)
        have hS := hw.sel [] rfl (by decide)
        refine ⟨hS, ?_⟩
        refine zo 6 rfl (by kernel_rfl) (by kernel_rfl) (by kernel_rfl) (jq (c := zBH (kf x) 17) rfl rfl (by decide) rfl) rfl hS ?_
        refine zo 7 rfl (by kernel_rfl) (by kernel_rfl) (by kernel_rfl) (kX (c := k9 x) rfl rfl rfl) rfl hS ?_
        refine zo 8 rfl (by kernel_rfl) (by kernel_rfl) (by kernel_rfl) (zq rfl) rfl hS ?_
        refine yw 9 (by kernel_rfl) rfl hw ?_
        refine j5 (cs := [.int .u64 (kf x)]) 0 rfl rfl rfl (by kernel_rfl) rfl (Nat.le_of_ble_eq_true rfl) ?_
        refine zd (fun w' hw => ?_)
        have hS := hw.sel [] rfl (by decide)
        refine ⟨hS, ?_⟩
        refine xU (by kernel_rfl) ?_
        refine (?_ : C _ _ _ _ _ _ _ (Own w (x6 [Res.row o 175 [.int .u64 x]]) [Res.row o 175 [.int .u64 (k9 x)]])) _ hw
        refine zB ?_
        refine zC rfl ?_
        refine zt rfl rfl ?_
        refine yX 0 (v := .int .u64 (k9 x)) rfl rfl rfl (by kernel_rfl) rfl ?_
        refine zH rfl ?_
        refine zA ?_
        exact zN (z4 (v := .int .u64 (k9 x)) rfl rfl (fun w' hw => ⟨k9 x, rfl, hw⟩))
      ·
        refine zT 5 rfl hw ?_
        refine yX 0 (v := .int .u64 (kf x)) rfl rfl rfl (by kernel_rfl) rfl ?_
        refine zd (fun w' hw => ?_)
        have hS := hw.sel [] rfl (by decide)
        refine ⟨hS, ?_⟩
        refine zo 6 rfl (by kernel_rfl) (by kernel_rfl) (by kernel_rfl) (jq (c := zBH (kf x) 17) rfl rfl (by decide) rfl) rfl hS ?_
        refine yw 2 (by kernel_rfl) rfl hw ?_
        refine yX 0 (v := .int .u64 (kf x)) rfl rfl rfl (by kernel_rfl) rfl ?_
        refine zd (fun w' hw => ?_)
        have hS := hw.sel [] rfl (by decide)
        refine ⟨hS, ?_⟩
        refine zo 7 rfl (by kernel_rfl) (by kernel_rfl) (by kernel_rfl) (kX (c := k9 x) rfl rfl rfl) rfl hS ?_
        refine zo 8 rfl (by kernel_rfl) (by kernel_rfl) (by kernel_rfl) (zq rfl) rfl hS ?_
        refine yw 9 (by kernel_rfl) rfl hw ?_
        refine j5 (cs := [.int .u64 (kf x)]) 0 rfl rfl rfl (by kernel_rfl) rfl (Nat.le_of_ble_eq_true rfl) ?_
        refine zd (fun w' hw => ?_)
        have hS := hw.sel [] rfl (by decide)
        refine ⟨hS, ?_⟩
        refine xU (by kernel_rfl) ?_
        refine (?_ : C _ _ _ _ _ _ _ (Own w (x6 [Res.row o 175 [.int .u64 x]]) [Res.row o 175 [.int .u64 (k9 x)]])) _ hw
        refine zB ?_
        refine zC rfl ?_
        refine zt rfl rfl ?_
        refine yX 0 (v := .int .u64 (k9 x)) rfl rfl rfl (by kernel_rfl) rfl ?_
        refine zH rfl ?_
        refine zA ?_
        exact zN (z4 (v := .int .u64 (k9 x)) rfl rfl (fun w' hw => ⟨k9 x, rfl, hw⟩))
    ·
      refine zT 5 rfl hw ?_
      refine yX 0 (v := .int .u64 (xs1 x)) rfl rfl rfl (by kernel_rfl) rfl ?_
      refine zd (fun w' hw => ?_)
      have hS := hw.sel [] rfl (by decide)
      refine ⟨hS, ?_⟩
      refine zo 6 rfl (by kernel_rfl) (by kernel_rfl) (by kernel_rfl) (zEq (c := zHX (xs1 x) 7) rfl rfl (by decide) rfl) rfl hS ?_
      refine yw 2 (by kernel_rfl) rfl hw ?_
      refine yX 0 (v := .int .u64 (xs1 x)) rfl rfl rfl (by kernel_rfl) rfl ?_
      refine zd (fun w' hw => ?_)
      have hS := hw.sel [] rfl (by decide)
      refine ⟨hS, ?_⟩
      refine zo 7 rfl (by kernel_rfl) (by kernel_rfl) (by kernel_rfl) (kX (c := kf x) rfl rfl rfl) rfl hS ?_
      refine zo 8 rfl (by kernel_rfl) (by kernel_rfl) (by kernel_rfl) (zq rfl) rfl hS ?_
      refine yw 9 (by kernel_rfl) rfl hw ?_
      refine j5 (cs := [.int .u64 (xs1 x)]) 0 rfl rfl rfl (by kernel_rfl) rfl (Nat.le_of_ble_eq_true rfl) ?_
      refine zd (fun w' hw => ?_)
      have hS := hw.sel [] rfl (by decide)
      refine ⟨hS, ?_⟩
      refine xU (by kernel_rfl) ?_
      refine (?_ : C _ _ _ _ _ _ _ (Own w (x6 [Res.row o 175 [.int .u64 x]]) [Res.row o 175 [.int .u64 (kf x)]])) _ hw
      refine zL ?_
      refine zZ [] rfl (by decide) (by kernel_rfl) (fun w' hw hS => ?_)
      refine zo 0 rfl (by kernel_rfl) (by kernel_rfl) (by kernel_rfl) (zK) rfl hS ?_
      refine zo 1 rfl (by kernel_rfl) (by kernel_rfl) (by kernel_rfl) (zq rfl) rfl hS ?_
      refine zo 3 rfl (by kernel_rfl) (by kernel_rfl) (by kernel_rfl) (zK) rfl hS ?_
      refine zo 4 rfl (by kernel_rfl) (by kernel_rfl) (by kernel_rfl) (zq rfl) rfl hS ?_
      refine kR (i := 2) (j := 5) (by kernel_rfl) ?_ ?_
      ·
        refine zT 2 rfl hw ?_
        refine yX 0 (v := .int .u64 (kf x)) rfl rfl rfl (by kernel_rfl) rfl ?_
        refine zd (fun w' hw => ?_)
        have hS := hw.sel [] rfl (by decide)
        refine ⟨hS, ?_⟩
        refine yw 5 (by kernel_rfl) rfl hw ?_
        refine yX 0 (v := .int .u64 (kf x)) rfl rfl rfl (by kernel_rfl) rfl ?_
        refine zd (fun w' hw => ?_)
        have hS := hw.sel [] rfl (by decide)
        refine ⟨hS, ?_⟩
        refine zo 6 rfl (by kernel_rfl) (by kernel_rfl) (by kernel_rfl) (jq (c := zBH (kf x) 17) rfl rfl (by decide) rfl) rfl hS ?_
        refine zo 7 rfl (by kernel_rfl) (by kernel_rfl) (by kernel_rfl) (kX (c := k9 x) rfl rfl rfl) rfl hS ?_
        refine zo 8 rfl (by kernel_rfl) (by kernel_rfl) (by kernel_rfl) (zq rfl) rfl hS ?_
        refine yw 9 (by kernel_rfl) rfl hw ?_
        refine j5 (cs := [.int .u64 (kf x)]) 0 rfl rfl rfl (by kernel_rfl) rfl (Nat.le_of_ble_eq_true rfl) ?_
        refine zd (fun w' hw => ?_)
        have hS := hw.sel [] rfl (by decide)
        refine ⟨hS, ?_⟩
        refine xU (by kernel_rfl) ?_
        refine (?_ : C _ _ _ _ _ _ _ (Own w (x6 [Res.row o 175 [.int .u64 x]]) [Res.row o 175 [.int .u64 (k9 x)]])) _ hw
        refine zB ?_
        refine zC rfl ?_
        refine zt rfl rfl ?_
        refine yX 0 (v := .int .u64 (k9 x)) rfl rfl rfl (by kernel_rfl) rfl ?_
        refine zH rfl ?_
        refine zA ?_
        exact zN (z4 (v := .int .u64 (k9 x)) rfl rfl (fun w' hw => ⟨k9 x, rfl, hw⟩))
      ·
        refine zT 5 rfl hw ?_
        refine yX 0 (v := .int .u64 (kf x)) rfl rfl rfl (by kernel_rfl) rfl ?_
        refine zd (fun w' hw => ?_)
        have hS := hw.sel [] rfl (by decide)
        refine ⟨hS, ?_⟩
        refine zo 6 rfl (by kernel_rfl) (by kernel_rfl) (by kernel_rfl) (jq (c := zBH (kf x) 17) rfl rfl (by decide) rfl) rfl hS ?_
        refine yw 2 (by kernel_rfl) rfl hw ?_
        refine yX 0 (v := .int .u64 (kf x)) rfl rfl rfl (by kernel_rfl) rfl ?_
        refine zd (fun w' hw => ?_)
        have hS := hw.sel [] rfl (by decide)
        refine ⟨hS, ?_⟩
        refine zo 7 rfl (by kernel_rfl) (by kernel_rfl) (by kernel_rfl) (kX (c := k9 x) rfl rfl rfl) rfl hS ?_
        refine zo 8 rfl (by kernel_rfl) (by kernel_rfl) (by kernel_rfl) (zq rfl) rfl hS ?_
        refine yw 9 (by kernel_rfl) rfl hw ?_
        refine j5 (cs := [.int .u64 (kf x)]) 0 rfl rfl rfl (by kernel_rfl) rfl (Nat.le_of_ble_eq_true rfl) ?_
        refine zd (fun w' hw => ?_)
        have hS := hw.sel [] rfl (by decide)
        refine ⟨hS, ?_⟩
        refine xU (by kernel_rfl) ?_
        refine (?_ : C _ _ _ _ _ _ _ (Own w (x6 [Res.row o 175 [.int .u64 x]]) [Res.row o 175 [.int .u64 (k9 x)]])) _ hw
        refine zB ?_
        refine zC rfl ?_
        refine zt rfl rfl ?_
        refine yX 0 (v := .int .u64 (k9 x)) rfl rfl rfl (by kernel_rfl) rfl ?_
        refine zH rfl ?_
        refine zA ?_
        exact zN (z4 (v := .int .u64 (k9 x)) rfl rfl (fun w' hw => ⟨k9 x, rfl, hw⟩))
end Go.Proofs.YtcdiehplbmkmeaaGreat
