import Derived.Test.YtcdiehplbmkmeaaSrt
import Derived.Test.YtcdiehplbmkmeaaFwU
import Derived.Test.YtcdiehplbmkmeaaCodec
import Derived.Test.YtcdiehplbmkmeaaChecked
set_option linter.unusedSectionVars false
set_option linter.unusedSimpArgs false
set_option linter.unusedVariables false
set_option maxRecDepth 10000
namespace Go.Proofs.Ytcdiehplbmkmeaa
open Go Go.Sc Go.Proofs
theorem vi {a b : Int} (h : a = b) : Value.int .i64 a = Value.int .i64 b := by rw [h]
theorem wsi {a b : Nat} (h : b ≤ a) (h2 : a < 9223372036854775808) : IntKind.i64.wrap ((a : Int) - (b : Int)) = ((a - b : Nat) : Int) := by
  rw [show (a : Int) - (b : Int) = ((a - b : Nat) : Int) by omega]; exact zr (by omega)
theorem xL {a : Nat} (h : 1 ≤ a) (h2 : a < 9223372036854775808) : IntKind.i64.wrap ((a : Int) - 1) = ((a - 1 : Nat) : Int) := wsi (b := 1) h h2
theorem qui {a b : Nat} (h : a < 9223372036854775808) : IntKind.i64.wrap ((a : Int).tdiv (b : Int)) = ((a / b : Nat) : Int) := by
  have : (a : Int).tdiv (b : Int) = ((a / b : Nat) : Int) := rfl
  rw [this]
  have h2 := Nat.div_le_self a b
  generalize a / b = c at h2 ⊢
  exact zr (by omega)
theorem zIC {α : Type} [Inhabited α] [SO α] {m : List α} {f r hi : Nat} (h : jy (zG m (f + (2 * r + 1))) (zG m (f + (2 * r + 1) + 1))) : ∀ c', c' = 2 * r + 1 ∨ c' = 2 * r + 2 → c' < hi → xX (zG m (f + c')) (zG m (f + (2 * r + 1 + 1))) := by
  intro c' h1 _
  rw [show f + (2 * r + 1) + 1 = f + (2 * r + 1 + 1) by omega] at h
  rcases h1 with rfl | rfl
  · exact y8 h
  · exact xz _
theorem zE6 {α : Type} [Inhabited α] [SO α] {m : List α} {f r hi : Nat} (h : 2 * r + 1 + 1 < hi → ¬ jy (zG m (f + (2 * r + 1))) (zG m (f + (2 * r + 1) + 1))) : ∀ c', c' = 2 * r + 1 ∨ c' = 2 * r + 2 → c' < hi → xX (zG m (f + c')) (zG m (f + (2 * r + 1))) := by
  intro c' h1 h2
  rcases h1 with rfl | rfl
  · exact xz _
  · have := h (by omega)
    rw [show f + (2 * r + 1) + 1 = f + (2 * r + 2) by omega] at this
    exact this
def zIi (a b : Int) : Int := IntKind.u64.wrap (((a % 2 ^ IntKind.u64.bits).toNat ^^^ (b % 2 ^ IntKind.u64.bits).toNat : Nat) : Int)
def zAX (a b : Int) : Int := IntKind.u64.wrap (a * 2 ^ (min b.toNat IntKind.u64.bits))
def zFx (a b : Int) : Int := a.fdiv (2 ^ (min b.toNat IntKind.u64.bits))
def xs1 (x : Int) : Int := zIi x (zAX x 13)
def kG (x : Int) : Int := zIi (xs1 x) (zFx (xs1 x) 7)
def kQ (x : Int) : Int := zIi (kG x) (zAX (kG x) 17)
theorem zCC {n : Nat} (h : n ≤ 1000000000000) : za n ≤ 40 := y3 (by have : (2 : Nat) ^ 40 = 1099511627776 := rfl; omega)
theorem zGy {n : Nat} (h : n ≤ 1000000000000) : IntKind.u64.wrap ((1 : Int) * 2 ^ (min ((za n : Nat) : Int).toNat IntKind.u64.bits)) = ((2 ^ za n : Nat) : Int) := by
  have h1 := zCC h
  have e : min ((za n : Nat) : Int).toNat IntKind.u64.bits = za n := by
    rw [Int.toNat_natCast]; show min _ 64 = _; omega
  have h2 : 2 ^ za n ≤ 2 ^ 40 := Nat.pow_le_pow_right (by decide) h1
  have h3 : (2 : Nat) ^ 40 = 1099511627776 := rfl
  rw [e, Int.one_mul, show ((2 : Int) ^ za n) = ((2 ^ za n : Nat) : Int) by rw [Int.natCast_pow]; rfl]
  generalize 2 ^ za n = z at h2 ⊢
  exact zC1 (by omega)
theorem zIX {n : Nat} (h : 0 < n) : 2 ^ za n ≤ 2 * n ∧ 0 < 2 ^ za n := by
  have h1 := jF h
  have h2 := zAk h
  refine ⟨?_, Nat.pow_pos (by decide)⟩
  rw [show za n = (za n - 1) + 1 by omega, Nat.pow_succ]
  omega
theorem zGE {y : Int} {m : Nat} (h : 0 < m) (hm : m ≤ 4000000000000) : ((y % 18446744073709551616).toNat &&& (m - 1)) < m := by
  have := Nat.and_le_right (n := (y % 18446744073709551616).toNat) (m := m - 1)
  omega
theorem zFr {y : Int} {m : Nat} (h : 0 < m) (hm : m ≤ 4000000000000) : IntKind.u64.wrap (((y % 2 ^ IntKind.u64.bits).toNat &&& (((m - 1 : Nat) : Int) % 2 ^ IntKind.u64.bits).toNat : Nat) : Int) = (((y % 18446744073709551616).toNat &&& (m - 1) : Nat) : Int) := by
  have e : ((((m - 1 : Nat) : Int)) % 2 ^ IntKind.u64.bits).toNat = m - 1 := by
    show ((((m - 1 : Nat) : Int)) % 18446744073709551616).toNat = m - 1
    omega
  have e2 : (y % 2 ^ IntKind.u64.bits).toNat = (y % 18446744073709551616).toNat := rfl
  rw [e, e2]
  have := zGE (y := y) h hm
  exact zC1 (by omega)
theorem zGr (n : Nat) (w : World) (hn : n < 18446744073709551616) : Rets Try.prog 56 #[.int .u64 (n : Nat)] w fun u_ w' => u_ = .int .i64 ((za n) : Nat) ∧ Own w [] [] w' := by
  exact zAn n hn w
theorem zHu (n : Nat) (w : World) (hn : n < 18446744073709551616) : Rets Try.prog 30 #[.int .u64 (n : Nat)] w fun u_ w' => u_ = .int .i64 ((za n) : Nat) ∧ Own w [] [] w' := by
  refine xD (args := [.int .u64 (n : Nat)]) Try.func30 rfl Try.ntmps30 rfl (Own.start w) ?_
  refine zB ?_
  refine zH rfl ?_
  refine zA ?_
  refine zO ?_
  refine xf rfl ?_
  refine zM ?_
  refine zB ?_
  refine zC rfl ?_
  refine jf (by kernel_rfl) rfl rfl (fun w' hw => ?_)
  refine (zGr n w' (by first | assumption | omega | (simp <;> omega) | (constructor <;> (first | omega | (simp only [zu]; omega) | (simp <;> omega))))).mono ?_
  rintro _ w1 ⟨rfl, hO⟩
  refine (?_ : CL _ _ _ _ _ _ (Own w [] [])) w1 (hw.frame0 hO)
  refine zH rfl ?_
  refine zA ?_
  exact zR (z6 (v := .int .i64 ((za n) : Nat)) rfl rfl (fun w' hw => ⟨rfl, hw.drop⟩))
theorem zI5 (n : Nat) (w : World) (hn : n ≤ 1000000000000) : Rets Try.prog 72 #[.int .i64 (n : Nat)] w fun u_ w' => u_ = .int .u64 ((2 ^ za n) : Nat) ∧ Own w [] [] w' := by
  refine xD (args := [.int .i64 (n : Nat)]) Try.func72 rfl Try.ntmps72 rfl (Own.start w) ?_
  refine zB ?_
  refine zH rfl ?_
  refine zA ?_
  refine zB ?_
  refine zC rfl ?_
  refine xZ (by kernel_rfl) rfl (zC1 (by omega)) rfl ?_ (by kernel_rfl)
  refine jf (by kernel_rfl) rfl rfl (fun w' hw => ?_)
  refine (zHu n w' (by first | assumption | omega | (simp <;> omega) | (constructor <;> (first | omega | (simp only [zu]; omega) | (simp <;> omega))))).mono ?_
  rintro _ w1 ⟨rfl, hO⟩
  refine (?_ : CL _ _ _ _ _ _ (Own w [] [])) w1 (hw.frame0 hO)
  refine zJY (c := ((2 ^ za n : Nat) : Int)) rfl rfl (by omega) (zGy hn) rfl ?_
  refine zH rfl ?_
  refine zA ?_
  exact zR (z6 (v := .int .u64 (2 ^ za n : Nat)) rfl rfl (fun w' hw => ⟨rfl, hw.drop⟩))
theorem zIr (o : Nat) (x : Int) (w : World) (hin : Own w (xk [Res.row o 140 [.int .u64 x]]) [Res.row o 140 [.int .u64 x]] w) : Rets Try.prog 73 #[.pointer (some ⟨o, 0, none⟩)] w fun u_ w' => ∃ (y : Int), u_ = .int .u64 y ∧ Own w (xk [Res.row o 140 [.int .u64 x]]) [Res.row o 140 [.int .u64 y]] w' := by
  refine xD (args := [.pointer (some ⟨o, 0, none⟩)]) Try.func73 rfl Try.ntmps73 rfl (show Own w (xk [Res.row o 140 [.int .u64 x]]) [Res.row o 140 [.int .u64 x]] w from hin) ?_
  refine zB ?_
  refine zH rfl ?_
  refine zA ?_
  refine zO ?_
  refine zW [] rfl (by decide) (by kernel_rfl) (fun w' hw hS => ?_)
  refine zh 0 rfl (by kernel_rfl) (by kernel_rfl) (by kernel_rfl) (zJ) rfl hS ?_
  refine zh 1 rfl (by kernel_rfl) (by kernel_rfl) (by kernel_rfl) (zo rfl) rfl hS ?_
  refine zh 3 rfl (by kernel_rfl) (by kernel_rfl) (by kernel_rfl) (zJ) rfl hS ?_
  refine zh 4 rfl (by kernel_rfl) (by kernel_rfl) (by kernel_rfl) (zo rfl) rfl hS ?_
  refine x8 (i := 2) (j := 5) (by kernel_rfl) ?_ ?_
  ·
    refine zP 2 rfl hw ?_
    refine yD 0 (v := .int .u64 x) rfl rfl rfl (by kernel_rfl) rfl ?_
    refine zf (fun w' hw => ?_)
    have hS := hw.sel [] rfl (by decide)
    refine ⟨hS, ?_⟩
    refine yZ 5 (by kernel_rfl) rfl hw ?_
    refine yD 0 (v := .int .u64 x) rfl rfl rfl (by kernel_rfl) rfl ?_
    refine zf (fun w' hw => ?_)
    have hS := hw.sel [] rfl (by decide)
    refine ⟨hS, ?_⟩
    refine zh 6 rfl (by kernel_rfl) (by kernel_rfl) (by kernel_rfl) (jP (c := zAX x 13) rfl rfl (by decide) rfl) rfl hS ?_
    refine zh 7 rfl (by kernel_rfl) (by kernel_rfl) (by kernel_rfl) (x0 (c := xs1 x) rfl rfl rfl) rfl hS ?_
    refine zh 8 rfl (by kernel_rfl) (by kernel_rfl) (by kernel_rfl) (zo rfl) rfl hS ?_
    refine yZ 9 (by kernel_rfl) rfl hw ?_
    refine jV (cs := [.int .u64 x]) 0 rfl rfl rfl (by kernel_rfl) rfl (Nat.le_of_ble_eq_true rfl) ?_
    refine zf (fun w' hw => ?_)
    have hS := hw.sel [] rfl (by decide)
    refine ⟨hS, ?_⟩
    refine y7 (by kernel_rfl) ?_
    refine (?_ : C _ _ _ _ _ _ _ (Own w (xk [Res.row o 140 [.int .u64 x]]) [Res.row o 140 [.int .u64 (xs1 x)]])) _ hw
    refine zO ?_
    refine zW [] rfl (by decide) (by kernel_rfl) (fun w' hw hS => ?_)
    refine zh 0 rfl (by kernel_rfl) (by kernel_rfl) (by kernel_rfl) (zJ) rfl hS ?_
    refine zh 1 rfl (by kernel_rfl) (by kernel_rfl) (by kernel_rfl) (zo rfl) rfl hS ?_
    refine zh 3 rfl (by kernel_rfl) (by kernel_rfl) (by kernel_rfl) (zJ) rfl hS ?_
    refine zh 4 rfl (by kernel_rfl) (by kernel_rfl) (by kernel_rfl) (zo rfl) rfl hS ?_
    refine x8 (i := 2) (j := 5) (by kernel_rfl) ?_ ?_
    ·
      refine zP 2 rfl hw ?_
      refine yD 0 (v := .int .u64 (xs1 x)) rfl rfl rfl (by kernel_rfl) rfl ?_
      refine zf (fun w' hw => ?_)
      have hS := hw.sel [] rfl (by decide)
      refine ⟨hS, ?_⟩
      refine yZ 5 (by kernel_rfl) rfl hw ?_
      refine yD 0 (v := .int .u64 (xs1 x)) rfl rfl rfl (by kernel_rfl) rfl ?_
      refine zf (fun w' hw => ?_)
      have hS := hw.sel [] rfl (by decide)
      refine ⟨hS, ?_⟩
      refine zh 6 rfl (by kernel_rfl) (by kernel_rfl) (by kernel_rfl) (zD2 (c := zFx (xs1 x) 7) rfl rfl (by decide) rfl) rfl hS ?_
      refine zh 7 rfl (by kernel_rfl) (by kernel_rfl) (by kernel_rfl) (x0 (c := kG x) rfl rfl rfl) rfl hS ?_
      refine zh 8 rfl (by kernel_rfl) (by kernel_rfl) (by kernel_rfl) (zo rfl) rfl hS ?_
      refine yZ 9 (by kernel_rfl) rfl hw ?_
      refine jV (cs := [.int .u64 (xs1 x)]) 0 rfl rfl rfl (by kernel_rfl) rfl (Nat.le_of_ble_eq_true rfl) ?_
      refine zf (fun w' hw => ?_)
      have hS := hw.sel [] rfl (by decide)
      refine ⟨hS, ?_⟩
      refine y7 (by kernel_rfl) ?_
      refine (?_ : C _ _ _ _ _ _ _ (Own w (xk [Res.row o 140 [.int .u64 x]]) [Res.row o 140 [.int .u64 (kG x)]])) _ hw
      refine zO ?_
      refine zW [] rfl (by decide) (by kernel_rfl) (fun w' hw hS => ?_)
      refine zh 0 rfl (by kernel_rfl) (by kernel_rfl) (by kernel_rfl) (zJ) rfl hS ?_
      refine zh 1 rfl (by kernel_rfl) (by kernel_rfl) (by kernel_rfl) (zo rfl) rfl hS ?_
      refine zh 3 rfl (by kernel_rfl) (by kernel_rfl) (by kernel_rfl) (zJ) rfl hS ?_
      refine zh 4 rfl (by kernel_rfl) (by kernel_rfl) (by kernel_rfl) (zo rfl) rfl hS ?_
      refine x8 (i := 2) (j := 5) (by kernel_rfl) ?_ ?_
      ·
        refine zP 2 rfl hw ?_
        refine yD 0 (v := .int .u64 (kG x)) rfl rfl rfl (by kernel_rfl) rfl ?_
        refine zf (fun w' hw => ?_)
        have hS := hw.sel [] rfl (by decide)
        refine ⟨hS, ?_⟩
        refine yZ 5 (by kernel_rfl) rfl hw ?_
        refine yD 0 (v := .int .u64 (kG x)) rfl rfl rfl (by kernel_rfl) rfl ?_
        refine zf (fun w' hw => ?_)
        have hS := hw.sel [] rfl (by decide)
        refine ⟨hS, ?_⟩
        refine zh 6 rfl (by kernel_rfl) (by kernel_rfl) (by kernel_rfl) (jP (c := zAX (kG x) 17) rfl rfl (by decide) rfl) rfl hS ?_
        refine zh 7 rfl (by kernel_rfl) (by kernel_rfl) (by kernel_rfl) (x0 (c := kQ x) rfl rfl rfl) rfl hS ?_
        refine zh 8 rfl (by kernel_rfl) (by kernel_rfl) (by kernel_rfl) (zo rfl) rfl hS ?_
        refine yZ 9 (by kernel_rfl) rfl hw ?_
        refine jV (cs := [.int .u64 (kG x)]) 0 rfl rfl rfl (by kernel_rfl) rfl (Nat.le_of_ble_eq_true rfl) ?_
        refine zf (fun w' hw => ?_)
        have hS := hw.sel [] rfl (by decide)
        refine ⟨hS, ?_⟩
        refine y7 (by kernel_rfl) ?_
        refine (?_ : C _ _ _ _ _ _ _ (Own w (xk [Res.row o 140 [.int .u64 x]]) [Res.row o 140 [.int .u64 (kQ x)]])) _ hw
        refine zB ?_
        refine zC rfl ?_
        refine yA rfl rfl ?_
        refine yD 0 (v := .int .u64 (kQ x)) rfl rfl rfl (by kernel_rfl) rfl ?_
        refine zH rfl ?_
        refine zA ?_
        exact zR (z6 (v := .int .u64 (kQ x)) rfl rfl (fun w' hw => ⟨kQ x, rfl, hw⟩))
      ·
        refine zP 5 rfl hw ?_
        refine yD 0 (v := .int .u64 (kG x)) rfl rfl rfl (by kernel_rfl) rfl ?_
        refine zf (fun w' hw => ?_)
        have hS := hw.sel [] rfl (by decide)
        refine ⟨hS, ?_⟩
        refine zh 6 rfl (by kernel_rfl) (by kernel_rfl) (by kernel_rfl) (jP (c := zAX (kG x) 17) rfl rfl (by decide) rfl) rfl hS ?_
        refine yZ 2 (by kernel_rfl) rfl hw ?_
        refine yD 0 (v := .int .u64 (kG x)) rfl rfl rfl (by kernel_rfl) rfl ?_
        refine zf (fun w' hw => ?_)
        have hS := hw.sel [] rfl (by decide)
        refine ⟨hS, ?_⟩
        refine zh 7 rfl (by kernel_rfl) (by kernel_rfl) (by kernel_rfl) (x0 (c := kQ x) rfl rfl rfl) rfl hS ?_
        refine zh 8 rfl (by kernel_rfl) (by kernel_rfl) (by kernel_rfl) (zo rfl) rfl hS ?_
        refine yZ 9 (by kernel_rfl) rfl hw ?_
        refine jV (cs := [.int .u64 (kG x)]) 0 rfl rfl rfl (by kernel_rfl) rfl (Nat.le_of_ble_eq_true rfl) ?_
        refine zf (fun w' hw => ?_)
        have hS := hw.sel [] rfl (by decide)
        refine ⟨hS, ?_⟩
        refine y7 (by kernel_rfl) ?_
        refine (?_ : C _ _ _ _ _ _ _ (Own w (xk [Res.row o 140 [.int .u64 x]]) [Res.row o 140 [.int .u64 (kQ x)]])) _ hw
        refine zB ?_
        refine zC rfl ?_
        refine yA rfl rfl ?_
        refine yD 0 (v := .int .u64 (kQ x)) rfl rfl rfl (by kernel_rfl) rfl ?_
        refine zH rfl ?_
        refine zA ?_
        exact zR (z6 (v := .int .u64 (kQ x)) rfl rfl (fun w' hw => ⟨kQ x, rfl, hw⟩))
    ·
      refine zP 5 rfl hw ?_
      refine yD 0 (v := .int .u64 (xs1 x)) rfl rfl rfl (by kernel_rfl) rfl ?_
      refine zf (fun w' hw => ?_)
      have hS := hw.sel [] rfl (by decide)
      refine ⟨hS, ?_⟩
      refine zh 6 rfl (by kernel_rfl) (by kernel_rfl) (by kernel_rfl) (zD2 (c := zFx (xs1 x) 7) rfl rfl (by decide) rfl) rfl hS ?_
      refine yZ 2 (by kernel_rfl) rfl hw ?_
      refine yD 0 (v := .int .u64 (xs1 x)) rfl rfl rfl (by kernel_rfl) rfl ?_
      refine zf (fun w' hw => ?_)
      have hS := hw.sel [] rfl (by decide)
      refine ⟨hS, ?_⟩
      refine zh 7 rfl (by kernel_rfl) (by kernel_rfl) (by kernel_rfl) (x0 (c := kG x) rfl rfl rfl) rfl hS ?_
      refine zh 8 rfl (by kernel_rfl) (by kernel_rfl) (by kernel_rfl) (zo rfl) rfl hS ?_
      refine yZ 9 (by kernel_rfl) rfl hw ?_
      refine jV (cs := [.int .u64 (xs1 x)]) 0 rfl rfl rfl (by kernel_rfl) rfl (Nat.le_of_ble_eq_true rfl) ?_
      refine zf (fun w' hw => ?_)
      have hS := hw.sel [] rfl (by decide)
      refine ⟨hS, ?_⟩
      refine y7 (by kernel_rfl) ?_
      refine (?_ : C _ _ _ _ _ _ _ (Own w (xk [Res.row o 140 [.int .u64 x]]) [Res.row o 140 [.int .u64 (kG x)]])) _ hw
      refine zO ?_
      refine zW [] rfl (by decide) (by kernel_rfl) (fun w' hw hS => ?_)
      refine zh 0 rfl (by kernel_rfl) (by kernel_rfl) (by kernel_rfl) (zJ) rfl hS ?_
      refine zh 1 rfl (by kernel_rfl) (by kernel_rfl) (by kernel_rfl) (zo rfl) rfl hS ?_
      refine zh 3 rfl (by kernel_rfl) (by kernel_rfl) (by kernel_rfl) (zJ) rfl hS ?_
      refine zh 4 rfl (by kernel_rfl) (by kernel_rfl) (by kernel_rfl) (zo rfl) rfl hS ?_
      refine x8 (i := 2) (j := 5) (by kernel_rfl) ?_ ?_
      ·
        refine zP 2 rfl hw ?_
        refine yD 0 (v := .int .u64 (kG x)) rfl rfl rfl (by kernel_rfl) rfl ?_
        refine zf (fun w' hw => ?_)
        have hS := hw.sel [] rfl (by decide)
        refine ⟨hS, ?_⟩
        refine yZ 5 (by kernel_rfl) rfl hw ?_
        refine yD 0 (v := .int .u64 (kG x)) rfl rfl rfl (by kernel_rfl) rfl ?_
        refine zf (fun w' hw => ?_)
        have hS := hw.sel [] rfl (by decide)
        refine ⟨hS, ?_⟩
        refine zh 6 rfl (by kernel_rfl) (by kernel_rfl) (by kernel_rfl) (jP (c := zAX (kG x) 17) rfl rfl (by decide) rfl) rfl hS ?_
        refine zh 7 rfl (by kernel_rfl) (by kernel_rfl) (by kernel_rfl) (x0 (c := kQ x) rfl rfl rfl) rfl hS ?_
        refine zh 8 rfl (by kernel_rfl) (by kernel_rfl) (by kernel_rfl) (zo rfl) rfl hS ?_
        refine yZ 9 (by kernel_rfl) rfl hw ?_
        refine jV (cs := [.int .u64 (kG x)]) 0 rfl rfl rfl (by kernel_rfl) rfl (Nat.le_of_ble_eq_true rfl) ?_
        refine zf (fun w' hw => ?_)
        have hS := hw.sel [] rfl (by decide)
        refine ⟨hS, ?_⟩
        refine y7 (by kernel_rfl) ?_
        refine (?_ : C _ _ _ _ _ _ _ (Own w (xk [Res.row o 140 [.int .u64 x]]) [Res.row o 140 [.int .u64 (kQ x)]])) _ hw
        refine zB ?_
        refine zC rfl ?_
        refine yA rfl rfl ?_
        refine yD 0 (v := .int .u64 (kQ x)) rfl rfl rfl (by kernel_rfl) rfl ?_
        refine zH rfl ?_
        refine zA ?_
        exact zR (z6 (v := .int .u64 (kQ x)) rfl rfl (fun w' hw => ⟨kQ x, rfl, hw⟩))
      ·
        refine zP 5 rfl hw ?_
        refine yD 0 (v := .int .u64 (kG x)) rfl rfl rfl (by kernel_rfl) rfl ?_
        refine zf (fun w' hw => ?_)
        have hS := hw.sel [] rfl (by decide)
        refine ⟨hS, ?_⟩
        refine zh 6 rfl (by kernel_rfl) (by kernel_rfl) (by kernel_rfl) (jP (c := zAX (kG x) 17) rfl rfl (by decide) rfl) rfl hS ?_
        refine yZ 2 (by kernel_rfl) rfl hw ?_
        refine yD 0 (v := .int .u64 (kG x)) rfl rfl rfl (by kernel_rfl) rfl ?_
        refine zf (fun w' hw => ?_)
        have hS := hw.sel [] rfl (by decide)
        refine ⟨hS, ?_⟩
        refine zh 7 rfl (by kernel_rfl) (by kernel_rfl) (by kernel_rfl) (x0 (c := kQ x) rfl rfl rfl) rfl hS ?_
        refine zh 8 rfl (by kernel_rfl) (by kernel_rfl) (by kernel_rfl) (zo rfl) rfl hS ?_
        refine yZ 9 (by kernel_rfl) rfl hw ?_
        refine jV (cs := [.int .u64 (kG x)]) 0 rfl rfl rfl (by kernel_rfl) rfl (Nat.le_of_ble_eq_true rfl) ?_
        refine zf (fun w' hw => ?_)
        have hS := hw.sel [] rfl (by decide)
        refine ⟨hS, ?_⟩
        refine y7 (by kernel_rfl) ?_
        refine (?_ : C _ _ _ _ _ _ _ (Own w (xk [Res.row o 140 [.int .u64 x]]) [Res.row o 140 [.int .u64 (kQ x)]])) _ hw
        refine zB ?_
        refine zC rfl ?_
        refine yA rfl rfl ?_
        refine yD 0 (v := .int .u64 (kQ x)) rfl rfl rfl (by kernel_rfl) rfl ?_
        refine zH rfl ?_
        refine zA ?_
        exact zR (z6 (v := .int .u64 (kQ x)) rfl rfl (fun w' hw => ⟨kQ x, rfl, hw⟩))
  ·
    refine zP 5 rfl hw ?_
    refine yD 0 (v := .int .u64 x) rfl rfl rfl (by kernel_rfl) rfl ?_
    refine zf (fun w' hw => ?_)
    have hS := hw.sel [] rfl (by decide)
    refine ⟨hS, ?_⟩
    refine zh 6 rfl (by kernel_rfl) (by kernel_rfl) (by kernel_rfl) (jP (c := zAX x 13) rfl rfl (by decide) rfl) rfl hS ?_
    refine yZ 2 (by kernel_rfl) rfl hw ?_
    refine yD 0 (v := .int .u64 x) rfl rfl rfl (by kernel_rfl) rfl ?_
    refine zf (fun w' hw => ?_)
    have hS := hw.sel [] rfl (by decide)
    refine ⟨hS, ?_⟩
    refine zh 7 rfl (by kernel_rfl) (by kernel_rfl) (by kernel_rfl) (x0 (c := xs1 x) rfl rfl rfl) rfl hS ?_
    refine zh 8 rfl (by kernel_rfl) (by kernel_rfl) (by kernel_rfl) (zo rfl) rfl hS ?_
    refine yZ 9 (by kernel_rfl) rfl hw ?_
    refine jV (cs := [.int .u64 x]) 0 rfl rfl rfl (by kernel_rfl) rfl (Nat.le_of_ble_eq_true rfl) ?_
    refine zf (fun w' hw => ?_)
    have hS := hw.sel [] rfl (by decide)
    refine ⟨hS, ?_⟩
    refine y7 (by kernel_rfl) ?_
    refine (?_ : C _ _ _ _ _ _ _ (Own w (xk [Res.row o 140 [.int .u64 x]]) [Res.row o 140 [.int .u64 (xs1 x)]])) _ hw
    refine zO ?_
    refine zW [] rfl (by decide) (by kernel_rfl) (fun w' hw hS => ?_)
    refine zh 0 rfl (by kernel_rfl) (by kernel_rfl) (by kernel_rfl) (zJ) rfl hS ?_
    refine zh 1 rfl (by kernel_rfl) (by kernel_rfl) (by kernel_rfl) (zo rfl) rfl hS ?_
    refine zh 3 rfl (by kernel_rfl) (by kernel_rfl) (by kernel_rfl) (zJ) rfl hS ?_
    refine zh 4 rfl (by kernel_rfl) (by kernel_rfl) (by kernel_rfl) (zo rfl) rfl hS ?_
    refine x8 (i := 2) (j := 5) (by kernel_rfl) ?_ ?_
    ·
      refine zP 2 rfl hw ?_
      refine yD 0 (v := .int .u64 (xs1 x)) rfl rfl rfl (by kernel_rfl) rfl ?_
      refine zf (fun w' hw => ?_)
      have hS := hw.sel [] rfl (by decide)
      refine ⟨hS, ?_⟩
      refine yZ 5 (by kernel_rfl) rfl hw ?_
      refine yD 0 (v := .int .u64 (xs1 x)) rfl rfl rfl (by kernel_rfl) rfl ?_
      refine zf (fun w' hw => ?_)
      have hS := hw.sel [] rfl (by decide)
      refine ⟨hS, ?_⟩
      refine zh 6 rfl (by kernel_rfl) (by kernel_rfl) (by kernel_rfl) (zD2 (c := zFx (xs1 x) 7) rfl rfl (by decide) rfl) rfl hS ?_
      refine zh 7 rfl (by kernel_rfl) (by kernel_rfl) (by kernel_rfl) (x0 (c := kG x) rfl rfl rfl) rfl hS ?_
      refine zh 8 rfl (by kernel_rfl) (by kernel_rfl) (by kernel_rfl) (zo rfl) rfl hS ?_
      refine yZ 9 (by kernel_rfl) rfl hw ?_
      refine jV (cs := [.int .u64 (xs1 x)]) 0 rfl rfl rfl (by kernel_rfl) rfl (Nat.le_of_ble_eq_true rfl) ?_
      refine zf (fun w' hw => ?_)
      have hS := hw.sel [] rfl (by decide)
      refine ⟨hS, ?_⟩
      refine y7 (by kernel_rfl) ?_
      refine (?_ : C _ _ _ _ _ _ _ (Own w (xk [Res.row o 140 [.int .u64 x]]) [Res.row o 140 [.int .u64 (kG x)]])) _ hw
      refine zO ?_
      refine zW [] rfl (by decide) (by kernel_rfl) (fun w' hw hS => ?_)
      refine zh 0 rfl (by kernel_rfl) (by kernel_rfl) (by kernel_rfl) (zJ) rfl hS ?_
      refine zh 1 rfl (by kernel_rfl) (by kernel_rfl) (by kernel_rfl) (zo rfl) rfl hS ?_
      refine zh 3 rfl (by kernel_rfl) (by kernel_rfl) (by kernel_rfl) (zJ) rfl hS ?_
      refine zh 4 rfl (by kernel_rfl) (by kernel_rfl) (by kernel_rfl) (zo rfl) rfl hS ?_
      refine x8 (i := 2) (j := 5) (by kernel_rfl) ?_ ?_
      ·
        refine zP 2 rfl hw ?_
        refine yD 0 (v := .int .u64 (kG x)) rfl rfl rfl (by kernel_rfl) rfl ?_
        refine zf (fun w' hw => ?_)
        have hS := hw.sel [] rfl (by decide)
        refine ⟨hS, ?_⟩
        refine yZ 5 (by kernel_rfl) rfl hw ?_
        refine yD 0 (v := .int .u64 (kG x)) rfl rfl rfl (by kernel_rfl) rfl ?_
        refine zf (fun w' hw => ?_)
        have hS := hw.sel [] rfl (by decide)
        refine ⟨hS, ?_⟩
        refine zh 6 rfl (by kernel_rfl) (by kernel_rfl) (by kernel_rfl) (jP (c := zAX (kG x) 17) rfl rfl (by decide) rfl) rfl hS ?_
        refine zh 7 rfl (by kernel_rfl) (by kernel_rfl) (by kernel_rfl) (x0 (c := kQ x) rfl rfl rfl) rfl hS ?_
        refine zh 8 rfl (by kernel_rfl) (by kernel_rfl) (by kernel_rfl) (zo rfl) rfl hS ?_
        refine yZ 9 (by kernel_rfl) rfl hw ?_
        refine jV (cs := [.int .u64 (kG x)]) 0 rfl rfl rfl (by kernel_rfl) rfl (Nat.le_of_ble_eq_true rfl) ?_
        refine zf (fun w' hw => ?_)
        have hS := hw.sel [] rfl (by decide)
        refine ⟨hS, ?_⟩
        refine y7 (by kernel_rfl) ?_
        refine (?_ : C _ _ _ _ _ _ _ (Own w (xk [Res.row o 140 [.int .u64 x]]) [Res.row o 140 [.int .u64 (kQ x)]])) _ hw
        refine zB ?_
        refine zC rfl ?_
        refine yA rfl rfl ?_
        refine yD 0 (v := .int .u64 (kQ x)) rfl rfl rfl (by kernel_rfl) rfl ?_
        refine zH rfl ?_
        refine zA ?_
        exact zR (z6 (v := .int .u64 (kQ x)) rfl rfl (fun w' hw => ⟨kQ x, rfl, hw⟩))
      ·
        refine zP 5 rfl hw ?_
        refine yD 0 (v := .int .u64 (kG x)) rfl rfl rfl (by kernel_rfl) rfl ?_
        refine zf (fun w' hw => ?_)
        have hS := hw.sel [] rfl (by decide)
        refine ⟨hS, ?_⟩
        refine zh 6 rfl (by kernel_rfl) (by kernel_rfl) (by kernel_rfl) (jP (c := zAX (kG x) 17) rfl rfl (by decide) rfl) rfl hS ?_
        refine yZ 2 (by kernel_rfl) rfl hw ?_
        refine yD 0 (v := .int .u64 (kG x)) rfl rfl rfl (by kernel_rfl) rfl ?_
        refine zf (fun w' hw => ?_)
        have hS := hw.sel [] rfl (by decide)
        refine ⟨hS, ?_⟩
        refine zh 7 rfl (by kernel_rfl) (by kernel_rfl) (by kernel_rfl) (x0 (c := kQ x) rfl rfl rfl) rfl hS ?_
        refine zh 8 rfl (by kernel_rfl) (by kernel_rfl) (by kernel_rfl) (zo rfl) rfl hS ?_
        refine yZ 9 (by kernel_rfl) rfl hw ?_
        refine jV (cs := [.int .u64 (kG x)]) 0 rfl rfl rfl (by kernel_rfl) rfl (Nat.le_of_ble_eq_true rfl) ?_
        refine zf (fun w' hw => ?_)
        have hS := hw.sel [] rfl (by decide)
        refine ⟨hS, ?_⟩
        refine y7 (by kernel_rfl) ?_
        refine (?_ : C _ _ _ _ _ _ _ (Own w (xk [Res.row o 140 [.int .u64 x]]) [Res.row o 140 [.int .u64 (kQ x)]])) _ hw
        refine zB ?_
        refine zC rfl ?_
        refine yA rfl rfl ?_
        refine yD 0 (v := .int .u64 (kQ x)) rfl rfl rfl (by kernel_rfl) rfl ?_
        refine zH rfl ?_
        refine zA ?_
        exact zR (z6 (v := .int .u64 (kQ x)) rfl rfl (fun w' hw => ⟨kQ x, rfl, hw⟩))
    ·
      refine zP 5 rfl hw ?_
      refine yD 0 (v := .int .u64 (xs1 x)) rfl rfl rfl (by kernel_rfl) rfl ?_
      refine zf (fun w' hw => ?_)
      have hS := hw.sel [] rfl (by decide)
      refine ⟨hS, ?_⟩
      refine zh 6 rfl (by kernel_rfl) (by kernel_rfl) (by kernel_rfl) (zD2 (c := zFx (xs1 x) 7) rfl rfl (by decide) rfl) rfl hS ?_
      refine yZ 2 (by kernel_rfl) rfl hw ?_
      refine yD 0 (v := .int .u64 (xs1 x)) rfl rfl rfl (by kernel_rfl) rfl ?_
      refine zf (fun w' hw => ?_)
      have hS := hw.sel [] rfl (by decide)
      refine ⟨hS, ?_⟩
      refine zh 7 rfl (by kernel_rfl) (by kernel_rfl) (by kernel_rfl) (x0 (c := kG x) rfl rfl rfl) rfl hS ?_
      refine zh 8 rfl (by kernel_rfl) (by kernel_rfl) (by kernel_rfl) (zo rfl) rfl hS ?_
      refine yZ 9 (by kernel_rfl) rfl hw ?_
      refine jV (cs := [.int .u64 (xs1 x)]) 0 rfl rfl rfl (by kernel_rfl) rfl (Nat.le_of_ble_eq_true rfl) ?_
      refine zf (fun w' hw => ?_)
      have hS := hw.sel [] rfl (by decide)
      refine ⟨hS, ?_⟩
      refine y7 (by kernel_rfl) ?_
      refine (?_ : C _ _ _ _ _ _ _ (Own w (xk [Res.row o 140 [.int .u64 x]]) [Res.row o 140 [.int .u64 (kG x)]])) _ hw
      refine zO ?_
      refine zW [] rfl (by decide) (by kernel_rfl) (fun w' hw hS => ?_)
      refine zh 0 rfl (by kernel_rfl) (by kernel_rfl) (by kernel_rfl) (zJ) rfl hS ?_
      refine zh 1 rfl (by kernel_rfl) (by kernel_rfl) (by kernel_rfl) (zo rfl) rfl hS ?_
      refine zh 3 rfl (by kernel_rfl) (by kernel_rfl) (by kernel_rfl) (zJ) rfl hS ?_
      refine zh 4 rfl (by kernel_rfl) (by kernel_rfl) (by kernel_rfl) (zo rfl) rfl hS ?_
      refine x8 (i := 2) (j := 5) (by kernel_rfl) ?_ ?_
      ·
        refine zP 2 rfl hw ?_
        refine yD 0 (v := .int .u64 (kG x)) rfl rfl rfl (by kernel_rfl) rfl ?_
        refine zf (fun w' hw => ?_)
        have hS := hw.sel [] rfl (by decide)
        refine ⟨hS, ?_⟩
        refine yZ 5 (by kernel_rfl) rfl hw ?_
        refine yD 0 (v := .int .u64 (kG x)) rfl rfl rfl (by kernel_rfl) rfl ?_
        refine zf (fun w' hw => ?_)
        have hS := hw.sel [] rfl (by decide)
        refine ⟨hS, ?_⟩
        refine zh 6 rfl (by kernel_rfl) (by kernel_rfl) (by kernel_rfl) (jP (c := zAX (kG x) 17) rfl rfl (by decide) rfl) rfl hS ?_
        refine zh 7 rfl (by kernel_rfl) (by kernel_rfl) (by kernel_rfl) (x0 (c := kQ x) rfl rfl rfl) rfl hS ?_
        refine zh 8 rfl (by kernel_rfl) (by kernel_rfl) (by kernel_rfl) (zo rfl) rfl hS ?_
        refine yZ 9 (by kernel_rfl) rfl hw ?_
        refine jV (cs := [.int .u64 (kG x)]) 0 rfl rfl rfl (by kernel_rfl) rfl (Nat.le_of_ble_eq_true rfl) ?_
        refine zf (fun w' hw => ?_)
        have hS := hw.sel [] rfl (by decide)
        refine ⟨hS, ?_⟩
        refine y7 (by kernel_rfl) ?_
        refine (?_ : C _ _ _ _ _ _ _ (Own w (xk [Res.row o 140 [.int .u64 x]]) [Res.row o 140 [.int .u64 (kQ x)]])) _ hw
        refine zB ?_
        refine zC rfl ?_
        refine yA rfl rfl ?_
        refine yD 0 (v := .int .u64 (kQ x)) rfl rfl rfl (by kernel_rfl) rfl ?_
        refine zH rfl ?_
        refine zA ?_
        exact zR (z6 (v := .int .u64 (kQ x)) rfl rfl (fun w' hw => ⟨kQ x, rfl, hw⟩))
      ·
        refine zP 5 rfl hw ?_
        refine yD 0 (v := .int .u64 (kG x)) rfl rfl rfl (by kernel_rfl) rfl ?_
        refine zf (fun w' hw => ?_)
        have hS := hw.sel [] rfl (by decide)
        refine ⟨hS, ?_⟩
        refine zh 6 rfl (by kernel_rfl) (by kernel_rfl) (by kernel_rfl) (jP (c := zAX (kG x) 17) rfl rfl (by decide) rfl) rfl hS ?_
        refine yZ 2 (by kernel_rfl) rfl hw ?_
        refine yD 0 (v := .int .u64 (kG x)) rfl rfl rfl (by kernel_rfl) rfl ?_
        refine zf (fun w' hw => ?_)
        have hS := hw.sel [] rfl (by decide)
        refine ⟨hS, ?_⟩
        refine zh 7 rfl (by kernel_rfl) (by kernel_rfl) (by kernel_rfl) (x0 (c := kQ x) rfl rfl rfl) rfl hS ?_
        refine zh 8 rfl (by kernel_rfl) (by kernel_rfl) (by kernel_rfl) (zo rfl) rfl hS ?_
        refine yZ 9 (by kernel_rfl) rfl hw ?_
        refine jV (cs := [.int .u64 (kG x)]) 0 rfl rfl rfl (by kernel_rfl) rfl (Nat.le_of_ble_eq_true rfl) ?_
        refine zf (fun w' hw => ?_)
        have hS := hw.sel [] rfl (by decide)
        refine ⟨hS, ?_⟩
        refine y7 (by kernel_rfl) ?_
        refine (?_ : C _ _ _ _ _ _ _ (Own w (xk [Res.row o 140 [.int .u64 x]]) [Res.row o 140 [.int .u64 (kQ x)]])) _ hw
        refine zB ?_
        refine zC rfl ?_
        refine yA rfl rfl ?_
        refine yD 0 (v := .int .u64 (kQ x)) rfl rfl rfl (by kernel_rfl) rfl ?_
        refine zH rfl ?_
        refine zA ?_
        exact zR (z6 (v := .int .u64 (kQ x)) rfl rfl (fun w' hw => ⟨kQ x, rfl, hw⟩))
end Go.Proofs.Ytcdiehplbmkmeaa
