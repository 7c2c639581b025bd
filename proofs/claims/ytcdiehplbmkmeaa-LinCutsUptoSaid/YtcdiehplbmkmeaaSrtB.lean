import Derived.Test.YtcdiehplbmkmeaaSrt
import Derived.Test.YtcdiehplbmkmeaaFwU
import Derived.Test.YtcdiehplbmkmeaaCodec
import Derived.Test.YtcdiehplbmkmeaaChecked
set_option linter.unusedSectionVars false
set_option linter.unusedSimpArgs false
set_option linter.unusedVariables false
set_option maxRecDepth 10000
namespace Go.Proofs.Ytcdiehplbmkmeaa
open Go Go.Sc Go.Proofs
theorem vi {a b : Int} (h : a = b) : Value.int .i64 a = Value.int .i64 b := by rw [h]
theorem wsi {a b : Nat} (h : b ≤ a) (h2 : a < 9223372036854775808) : IntKind.i64.wrap ((a : Int) - (b : Int)) = ((a - b : Nat) : Int) := by
  rw [show (a : Int) - (b : Int) = ((a - b : Nat) : Int) by omega]; exact zt (by omega)
theorem xV {a : Nat} (h : 1 ≤ a) (h2 : a < 9223372036854775808) : IntKind.i64.wrap ((a : Int) - 1) = ((a - 1 : Nat) : Int) := wsi (b := 1) h h2
theorem qui {a b : Nat} (h : a < 9223372036854775808) : IntKind.i64.wrap ((a : Int).tdiv (b : Int)) = ((a / b : Nat) : Int) := by
  have : (a : Int).tdiv (b : Int) = ((a / b : Nat) : Int) := rfl
  rw [this]
  have h2 := Nat.div_le_self a b
  generalize a / b = c at h2 ⊢
  exact zt (by omega)
theorem zJQ {α : Type} [Inhabited α] [SO α] {m : List α} {f r hi : Nat} (h : olt (zG m (f + (2 * r + 1))) (zG m (f + (2 * r + 1) + 1))) : ∀ c', c' = 2 * r + 1 ∨ c' = 2 * r + 2 → c' < hi → xl (zG m (f + c')) (zG m (f + (2 * r + 1 + 1))) := by
  intro c' h1 _
  rw [show f + (2 * r + 1) + 1 = f + (2 * r + 1 + 1) by omega] at h
  rcases h1 with rfl | rfl
  · exact xD h
  · exact x4 _
theorem zFo {α : Type} [Inhabited α] [SO α] {m : List α} {f r hi : Nat} (h : 2 * r + 1 + 1 < hi → ¬ olt (zG m (f + (2 * r + 1))) (zG m (f + (2 * r + 1) + 1))) : ∀ c', c' = 2 * r + 1 ∨ c' = 2 * r + 2 → c' < hi → xl (zG m (f + c')) (zG m (f + (2 * r + 1))) := by
  intro c' h1 h2
  rcases h1 with rfl | rfl
  · exact x4 _
  · have := h (by omega)
    rw [show f + (2 * r + 1) + 1 = f + (2 * r + 2) by omega] at this
    exact this
def zIe (a b : Int) : Int := IntKind.u64.wrap (((a % 2 ^ IntKind.u64.bits).toNat ^^^ (b % 2 ^ IntKind.u64.bits).toNat : Nat) : Int)
def zAn (a b : Int) : Int := IntKind.u64.wrap (a * 2 ^ (min b.toNat IntKind.u64.bits))
def zGo (a b : Int) : Int := a.fdiv (2 ^ (min b.toNat IntKind.u64.bits))
def xs1 (x : Int) : Int := zIe x (zAn x 13)
def kN (x : Int) : Int := zIe (xs1 x) (zGo (xs1 x) 7)
def kW (x : Int) : Int := zIe (kN x) (zAn (kN x) 17)
theorem zCj {n : Nat} (h : n ≤ 1000000000000) : zb n ≤ 40 := xC (by have : (2 : Nat) ^ 40 = 1099511627776 := rfl; omega)
theorem zHY {n : Nat} (h : n ≤ 1000000000000) : IntKind.u64.wrap ((1 : Int) * 2 ^ (min ((zb n : Nat) : Int).toNat IntKind.u64.bits)) = ((2 ^ zb n : Nat) : Int) := by
  have h1 := zCj h
  have e : min ((zb n : Nat) : Int).toNat IntKind.u64.bits = zb n := by
    rw [Int.toNat_natCast]; show min _ 64 = _; omega
  have h2 : 2 ^ zb n ≤ 2 ^ 40 := Nat.pow_le_pow_right (by decide) h1
  have h3 : (2 : Nat) ^ 40 = 1099511627776 := rfl
  rw [e, Int.one_mul, show ((2 : Int) ^ zb n) = ((2 ^ zb n : Nat) : Int) by rw [Int.natCast_pow]; rfl]
  generalize 2 ^ zb n = z at h2 ⊢
  exact zCq (by omega)
theorem zJM {n : Nat} (h : 0 < n) : 2 ^ zb n ≤ 2 * n ∧ 0 < 2 ^ zb n := by
  have h1 := jK h
  have h2 := zBP h
  refine ⟨?_, Nat.pow_pos (by decide)⟩
  rw [show zb n = (zb n - 1) + 1 by omega, Nat.pow_succ]
  omega
theorem zGG {y : Int} {m : Nat} (h : 0 < m) (hm : m ≤ 4000000000000) : ((y % 18446744073709551616).toNat &&& (m - 1)) < m := by
  have := Nat.and_le_right (n := (y % 18446744073709551616).toNat) (m := m - 1)
  omega
theorem zGS {y : Int} {m : Nat} (h : 0 < m) (hm : m ≤ 4000000000000) : IntKind.u64.wrap (((y % 2 ^ IntKind.u64.bits).toNat &&& (((m - 1 : Nat) : Int) % 2 ^ IntKind.u64.bits).toNat : Nat) : Int) = (((y % 18446744073709551616).toNat &&& (m - 1) : Nat) : Int) := by
  have e : ((((m - 1 : Nat) : Int)) % 2 ^ IntKind.u64.bits).toNat = m - 1 := by
    show ((((m - 1 : Nat) : Int)) % 18446744073709551616).toNat = m - 1
    omega
  have e2 : (y % 2 ^ IntKind.u64.bits).toNat = (y % 18446744073709551616).toNat := rfl
  rw [e, e2]
  have := zGG (y := y) h hm
  exact zCq (by omega)
theorem zH5 (n : Nat) (w : World) (hn : n < 18446744073709551616) : Rets Try.prog 56 #[.int .u64 (n : Nat)] w fun u_ w' => u_ = .int .i64 ((zb n) : Nat) ∧ Own w [] [] w' := by
  exact zA5 n hn w
theorem zIT (n : Nat) (w : World) (hn : n < 18446744073709551616) : Rets Try.prog 30 #[.int .u64 (n : Nat)] w fun u_ w' => u_ = .int .i64 ((zb n) : Nat) ∧ Own w [] [] w' := by
  refine xK (args := [.int .u64 (n : Nat)]) Try.func30 rfl Try.ntmps30 rfl (Own.start w) ?_
  refine zB ?_
  refine zH rfl ?_
  refine zA ?_
  refine zM ?_
  refine xm rfl ?_
  refine zL ?_
  refine zB ?_
  refine zC rfl ?_
  refine jj (by kernel_rfl) rfl rfl (fun w' hw => ?_)
  refine (zH5 n w' (by first | assumption | omega | (simp <;> omega) | (constructor <;> (first | omega | (simp only [zx]; omega) | (simp <;> omega))))).mono ?_
  rintro _ w1 ⟨rfl, hO⟩
  refine (?_ : CL _ _ _ _ _ _ (Own w [] [])) w1 (hw.frame0 hO)
  refine zH rfl ?_
  refine zA ?_
  exact zR (z3 (v := .int .i64 ((zb n) : Nat)) rfl rfl (fun w' hw => ⟨rfl, hw.drop⟩))
theorem zJg (n : Nat) (w : World) (hn : n ≤ 1000000000000) : Rets Try.prog 72 #[.int .i64 (n : Nat)] w fun u_ w' => u_ = .int .u64 ((2 ^ zb n) : Nat) ∧ Own w [] [] w' := by
  refine xK (args := [.int .i64 (n : Nat)]) Try.func72 rfl Try.ntmps72 rfl (Own.start w) ?_
  refine zB ?_
  refine zH rfl ?_
  refine zA ?_
  refine zB ?_
  refine zC rfl ?_
  refine xU (by kernel_rfl) rfl (zCq (by omega)) rfl ?_ (by kernel_rfl)
  refine jj (by kernel_rfl) rfl rfl (fun w' hw => ?_)
  refine (zIT n w' (by first | assumption | omega | (simp <;> omega) | (constructor <;> (first | omega | (simp only [zx]; omega) | (simp <;> omega))))).mono ?_
  rintro _ w1 ⟨rfl, hO⟩
  refine (?_ : CL _ _ _ _ _ _ (Own w [] [])) w1 (hw.frame0 hO)
  refine zKa (c := ((2 ^ zb n : Nat) : Int)) rfl rfl (by omega) (zHY hn) rfl ?_
  refine zH rfl ?_
  refine zA ?_
  exact zR (z3 (v := .int .u64 (2 ^ zb n : Nat)) rfl rfl (fun w' hw => ⟨rfl, hw.drop⟩))
theorem zJW (o : Nat) (x : Int) (w : World) (hin : Own w (xr [Res.row o 140 [.int .u64 x]]) [Res.row o 140 [.int .u64 x]] w) : Rets Try.prog 73 #[.pointer (some ⟨o, 0, none⟩)] w fun u_ w' => ∃ (y : Int), u_ = .int .u64 y ∧ Own w (xr [Res.row o 140 [.int .u64 x]]) [Res.row o 140 [.int .u64 y]] w' := by
  refine xK (args := [.pointer (some ⟨o, 0, none⟩)]) Try.func73 rfl Try.ntmps73 rfl (show Own w (xr [Res.row o 140 [.int .u64 x]]) [Res.row o 140 [.int .u64 x]] w from hin) ?_
  refine zB ?_
  refine zH rfl ?_
  refine zA ?_
  refine zM ?_
  refine zX [] rfl (by decide) (by kernel_rfl) (fun w' hw hS => ?_)
  refine zi 0 rfl (by kernel_rfl) (by kernel_rfl) (by kernel_rfl) (zJ) rfl hS ?_
  refine zi 1 rfl (by kernel_rfl) (by kernel_rfl) (by kernel_rfl) (zr rfl) rfl hS ?_
  refine zi 3 rfl (by kernel_rfl) (by kernel_rfl) (by kernel_rfl) (zJ) rfl hS ?_
  refine zi 4 rfl (by kernel_rfl) (by kernel_rfl) (by kernel_rfl) (zr rfl) rfl hS ?_
  refine kF (i := 2) (j := 5) (by kernel_rfl) ?_ ?_
  ·
    refine zP 2 rfl hw ?_
    refine yE 0 (v := .int .u64 x) rfl rfl rfl (by kernel_rfl) rfl ?_
    refine zf (fun w' hw => ?_)
    have hS := hw.sel [] rfl (by decide)
    refine ⟨hS, ?_⟩
    refine yc 5 (by kernel_rfl) rfl hw ?_
    refine yE 0 (v := .int .u64 x) rfl rfl rfl (by kernel_rfl) rfl ?_
    refine zf (fun w' hw => ?_)
    have hS := hw.sel [] rfl (by decide)
    refine ⟨hS, ?_⟩
    refine zi 6 rfl (by kernel_rfl) (by kernel_rfl) (by kernel_rfl) (jf (c := zAn x 13) rfl rfl (by decide) rfl) rfl hS ?_
    refine zi 7 rfl (by kernel_rfl) (by kernel_rfl) (by kernel_rfl) (kL (c := xs1 x) rfl rfl rfl) rfl hS ?_
    refine zi 8 rfl (by kernel_rfl) (by kernel_rfl) (by kernel_rfl) (zr rfl) rfl hS ?_
    refine yc 9 (by kernel_rfl) rfl hw ?_
    refine jm (cs := [.int .u64 x]) 0 rfl rfl rfl (by kernel_rfl) rfl (Nat.le_of_ble_eq_true rfl) ?_
    refine zf (fun w' hw => ?_)
    have hS := hw.sel [] rfl (by decide)
    refine ⟨hS, ?_⟩
    refine xI (by kernel_rfl) ?_
    refine (?_ : C _ _ _ _ _ _ _ (Own w (xr [Res.row o 140 [.int .u64 x]]) [Res.row o 140 [.int .u64 (xs1 x)]])) _ hw
    refine zM ?_
    refine zX [] rfl (by decide) (by kernel_rfl) (fun w' hw hS => ?_)
    refine zi 0 rfl (by kernel_rfl) (by kernel_rfl) (by kernel_rfl) (zJ) rfl hS ?_
    refine zi 1 rfl (by kernel_rfl) (by kernel_rfl) (by kernel_rfl) (zr rfl) rfl hS ?_
    refine zi 3 rfl (by kernel_rfl) (by kernel_rfl) (by kernel_rfl) (zJ) rfl hS ?_
    refine zi 4 rfl (by kernel_rfl) (by kernel_rfl) (by kernel_rfl) (zr rfl) rfl hS ?_
    refine kF (i := 2) (j := 5) (by kernel_rfl) ?_ ?_
    ·
      refine zP 2 rfl hw ?_
      refine yE 0 (v := .int .u64 (xs1 x)) rfl rfl rfl (by kernel_rfl) rfl ?_
      refine zf (fun w' hw => ?_)
      have hS := hw.sel [] rfl (by decide)
      refine ⟨hS, ?_⟩
      refine yc 5 (by kernel_rfl) rfl hw ?_
      refine yE 0 (v := .int .u64 (xs1 x)) rfl rfl rfl (by kernel_rfl) rfl ?_
      refine zf (fun w' hw => ?_)
      have hS := hw.sel [] rfl (by decide)
      refine ⟨hS, ?_⟩
      refine zi 6 rfl (by kernel_rfl) (by kernel_rfl) (by kernel_rfl) (zEm (c := zGo (xs1 x) 7) rfl rfl (by decide) rfl) rfl hS ?_
      refine zi 7 rfl (by kernel_rfl) (by kernel_rfl) (by kernel_rfl) (kL (c := kN x) rfl rfl rfl) rfl hS ?_
      refine zi 8 rfl (by kernel_rfl) (by kernel_rfl) (by kernel_rfl) (zr rfl) rfl hS ?_
      refine yc 9 (by kernel_rfl) rfl hw ?_
      refine jm (cs := [.int .u64 (xs1 x)]) 0 rfl rfl rfl (by kernel_rfl) rfl (Nat.le_of_ble_eq_true rfl) ?_
      refine zf (fun w' hw => ?_)
      have hS := hw.sel [] rfl (by decide)
      refine ⟨hS, ?_⟩
      refine xI (by kernel_rfl) ?_
      refine (?_ : C _ _ _ _ _ _ _ (Own w (xr [Res.row o 140 [.int .u64 x]]) [Res.row o 140 [.int .u64 (kN x)]])) _ hw
      refine zM ?_
      refine zX [] rfl (by decide) (by kernel_rfl) (fun w' hw hS => ?_)
      refine zi 0 rfl (by kernel_rfl) (by kernel_rfl) (by kernel_rfl) (zJ) rfl hS ?_
      refine zi 1 rfl (by kernel_rfl) (by kernel_rfl) (by kernel_rfl) (zr rfl) rfl hS ?_
      refine zi 3 rfl (by kernel_rfl) (by kernel_rfl) (by kernel_rfl) (zJ) rfl hS ?_
      refine zi 4 rfl (by kernel_rfl) (by kernel_rfl) (by kernel_rfl) (zr rfl) rfl hS ?_
      refine kF (i := 2) (j := 5) (by kernel_rfl) ?_ ?_
      ·
        refine zP 2 rfl hw ?_
        refine yE 0 (v := .int .u64 (kN x)) rfl rfl rfl (by kernel_rfl) rfl ?_
        refine zf (fun w' hw => ?_)
        have hS := hw.sel [] rfl (by decide)
        refine ⟨hS, ?_⟩
        refine yc 5 (by kernel_rfl) rfl hw ?_
        refine yE 0 (v := .int .u64 (kN x)) rfl rfl rfl (by kernel_rfl) rfl ?_
        refine zf (fun w' hw => ?_)
        have hS := hw.sel [] rfl (by decide)
        refine ⟨hS, ?_⟩
        refine zi 6 rfl (by kernel_rfl) (by kernel_rfl) (by kernel_rfl) (jf (c := zAn (kN x) 17) rfl rfl (by decide) rfl) rfl hS ?_
        refine zi 7 rfl (by kernel_rfl) (by kernel_rfl) (by kernel_rfl) (kL (c := kW x) rfl rfl rfl) rfl hS ?_
        refine zi 8 rfl (by kernel_rfl) (by kernel_rfl) (by kernel_rfl) (zr rfl) rfl hS ?_
        refine yc 9 (by kernel_rfl) rfl hw ?_
        refine jm (cs := [.int .u64 (kN x)]) 0 rfl rfl rfl (by kernel_rfl) rfl (Nat.le_of_ble_eq_true rfl) ?_
        refine zf (fun w' hw => ?_)
        have hS := hw.sel [] rfl (by decide)
        refine ⟨hS, ?_⟩
        refine xI (by kernel_rfl) ?_
        refine (?_ : C _ _ _ _ _ _ _ (Own w (xr [Res.row o 140 [.int .u64 x]]) [Res.row o 140 [.int .u64 (kW x)]])) _ hw
        refine zB ?_
        refine zC rfl ?_
        refine yB rfl rfl ?_
        refine yE 0 (v := .int .u64 (kW x)) rfl rfl rfl (by kernel_rfl) rfl ?_
        refine zH rfl ?_
        refine zA ?_
        exact zR (z3 (v := .int .u64 (kW x)) rfl rfl (fun w' hw => ⟨kW x, rfl, hw⟩))
      ·
        refine zP 5 rfl hw ?_
        refine yE 0 (v := .int .u64 (kN x)) rfl rfl rfl (by kernel_rfl) rfl ?_
        refine zf (fun w' hw => ?_)
        have hS := hw.sel [] rfl (by decide)
        refine ⟨hS, ?_⟩
        refine zi 6 rfl (by kernel_rfl) (by kernel_rfl) (by kernel_rfl) (jf (c := zAn (kN x) 17) rfl rfl (by decide) rfl) rfl hS ?_
        refine yc 2 (by kernel_rfl) rfl hw ?_
        refine yE 0 (v := .int .u64 (kN x)) rfl rfl rfl (by kernel_rfl) rfl ?_
        refine zf (fun w' hw => ?_)
        have hS := hw.sel [] rfl (by decide)
        refine ⟨hS, ?_⟩
        refine zi 7 rfl (by kernel_rfl) (by kernel_rfl) (by kernel_rfl) (kL (c := kW x) rfl rfl rfl) rfl hS ?_
        refine zi 8 rfl (by kernel_rfl) (by kernel_rfl) (by kernel_rfl) (zr rfl) rfl hS ?_
        refine yc 9 (by kernel_rfl) rfl hw ?_
        refine jm (cs := [.int .u64 (kN x)]) 0 rfl rfl rfl (by kernel_rfl) rfl (Nat.le_of_ble_eq_true rfl) ?_
        refine zf (fun w' hw => ?_)
        have hS := hw.sel [] rfl (by decide)
        refine ⟨hS, ?_⟩
        refine xI (by kernel_rfl) ?_
        refine (?_ : C _ _ _ _ _ _ _ (Own w (xr [Res.row o 140 [.int .u64 x]]) [Res.row o 140 [.int .u64 (kW x)]])) _ hw
        refine zB ?_
        refine zC rfl ?_
        refine yB rfl rfl ?_
        refine yE 0 (v := .int .u64 (kW x)) rfl rfl rfl (by kernel_rfl) rfl ?_
        refine zH rfl ?_
        refine zA ?_
        exact zR (z3 (v := .int .u64 (kW x)) rfl rfl (fun w' hw => ⟨kW x, rfl, hw⟩))
    ·
      refine zP 5 rfl hw ?_
      refine yE 0 (v := .int .u64 (xs1 x)) rfl rfl rfl (by kernel_rfl) rfl ?_
      refine zf (fun w' hw => ?_)
      have hS := hw.sel [] rfl (by decide)
      refine ⟨hS, ?_⟩
      refine zi 6 rfl (by kernel_rfl) (by kernel_rfl) (by kernel_rfl) (zEm (c := zGo (xs1 x) 7) rfl rfl (by decide) rfl) rfl hS ?_
      refine yc 2 (by kernel_rfl) rfl hw ?_
      refine yE 0 (v := .int .u64 (xs1 x)) rfl rfl rfl (by kernel_rfl) rfl ?_
      refine zf (fun w' hw => ?_)
      have hS := hw.sel [] rfl (by decide)
      refine ⟨hS, ?_⟩
      refine zi 7 rfl (by kernel_rfl) (by kernel_rfl) (by kernel_rfl) (kL (c := kN x) rfl rfl rfl) rfl hS ?_
      refine zi 8 rfl (by kernel_rfl) (by kernel_rfl) (by kernel_rfl) (zr rfl) rfl hS ?_
      refine yc 9 (by kernel_rfl) rfl hw ?_
      refine jm (cs := [.int .u64 (xs1 x)]) 0 rfl rfl rfl (by kernel_rfl) rfl (Nat.le_of_ble_eq_true rfl) ?_
      refine zf (fun w' hw => ?_)
      have hS := hw.sel [] rfl (by decide)
      refine ⟨hS, ?_⟩
      refine xI (by kernel_rfl) ?_
      refine (?_ : C _ _ _ _ _ _ _ (Own w (xr [Res.row o 140 [.int .u64 x]]) [Res.row o 140 [.int .u64 (kN x)]])) _ hw
      refine zM ?_
      refine zX [] rfl (by decide) (by kernel_rfl) (fun w' hw hS => ?_)
      refine zi 0 rfl (by kernel_rfl) (by kernel_rfl) (by kernel_rfl) (zJ) rfl hS ?_
      refine zi 1 rfl (by kernel_rfl) (by kernel_rfl) (by kernel_rfl) (zr rfl) rfl hS ?_
      refine zi 3 rfl (by kernel_rfl) (by kernel_rfl) (by kernel_rfl) (zJ) rfl hS ?_
      refine zi 4 rfl (by kernel_rfl) (by kernel_rfl) (by kernel_rfl) (zr rfl) rfl hS ?_
      refine kF (i := 2) (j := 5) (by kernel_rfl) ?_ ?_
      ·
        refine zP 2 rfl hw ?_
        refine yE 0 (v := .int .u64 (kN x)) rfl rfl rfl (by kernel_rfl) rfl ?_
        refine zf (fun w' hw => ?_)
        have hS := hw.sel [] rfl (by decide)
        refine ⟨hS, ?_⟩
        refine yc 5 (by kernel_rfl) rfl hw ?_
        refine yE 0 (v := .int .u64 (kN x)) rfl rfl rfl (by kernel_rfl) rfl ?_
        refine zf (fun w' hw => ?_)
        have hS := hw.sel [] rfl (by decide)
        refine ⟨hS, ?_⟩
        refine zi 6 rfl (by kernel_rfl) (by kernel_rfl) (by kernel_rfl) (jf (c := zAn (kN x) 17) rfl rfl (by decide) rfl) rfl hS ?_
        refine zi 7 rfl (by kernel_rfl) (by kernel_rfl) (by kernel_rfl) (kL (c := kW x) rfl rfl rfl) rfl hS ?_
        refine zi 8 rfl (by kernel_rfl) (by kernel_rfl) (by kernel_rfl) (zr rfl) rfl hS ?_
        refine yc 9 (by kernel_rfl) rfl hw ?_
        refine jm (cs := [.int .u64 (kN x)]) 0 rfl rfl rfl (by kernel_rfl) rfl (Nat.le_of_ble_eq_true rfl) ?_
        refine zf (fun w' hw => ?_)
        have hS := hw.sel [] rfl (by decide)
        refine ⟨hS, ?_⟩
        refine xI (by kernel_rfl) ?_
        refine (?_ : C _ _ _ _ _ _ _ (Own w (xr [Res.row o 140 [.int .u64 x]]) [Res.row o 140 [.int .u64 (kW x)]])) _ hw
        refine zB ?_
        refine zC rfl ?_
        refine yB rfl rfl ?_
        refine yE 0 (v := .int .u64 (kW x)) rfl rfl rfl (by kernel_rfl) rfl ?_
        refine zH rfl ?_
        refine zA ?_
        exact zR (z3 (v := .int .u64 (kW x)) rfl rfl (fun w' hw => ⟨kW x, rfl, hw⟩))
      ·
        refine zP 5 rfl hw ?_
        refine yE 0 (v := .int .u64 (kN x)) rfl rfl rfl (by kernel_rfl) rfl ?_
        refine zf (fun w' hw => ?_)
        have hS := hw.sel [] rfl (by decide)
        refine ⟨hS, ?_⟩
        refine zi 6 rfl (by kernel_rfl) (by kernel_rfl) (by kernel_rfl) (jf (c := zAn (kN x) 17) rfl rfl (by decide) rfl) rfl hS ?_
        refine yc 2 (by kernel_rfl) rfl hw ?_
        refine yE 0 (v := .int .u64 (kN x)) rfl rfl rfl (by kernel_rfl) rfl ?_
        refine zf (fun w' hw => ?_)
        have hS := hw.sel [] rfl (by decide)
        refine ⟨hS, ?_⟩
        refine zi 7 rfl (by kernel_rfl) (by kernel_rfl) (by kernel_rfl) (kL (c := kW x) rfl rfl rfl) rfl hS ?_
        refine zi 8 rfl (by kernel_rfl) (by kernel_rfl) (by kernel_rfl) (zr rfl) rfl hS ?_
        refine yc 9 (by kernel_rfl) rfl hw ?_
        refine jm (cs := [.int .u64 (kN x)]) 0 rfl rfl rfl (by kernel_rfl) rfl (Nat.le_of_ble_eq_true rfl) ?_
        refine zf (fun w' hw => ?_)
        have hS := hw.sel [] rfl (by decide)
        refine ⟨hS, ?_⟩
        refine xI (by kernel_rfl) ?_
        refine (?_ : C _ _ _ _ _ _ _ (Own w (xr [Res.row o 140 [.int .u64 x]]) [Res.row o 140 [.int .u64 (kW x)]])) _ hw
        refine zB ?_
        refine zC rfl ?_
        refine yB rfl rfl ?_
        refine yE 0 (v := .int .u64 (kW x)) rfl rfl rfl (by kernel_rfl) rfl ?_
        refine zH rfl ?_
        refine zA ?_
        exact zR (z3 (v := .int .u64 (kW x)) rfl rfl (fun w' hw => ⟨kW x, rfl, hw⟩))
  ·
    refine zP 5 rfl hw ?_
    refine yE 0 (v := .int .u64 x) rfl rfl rfl (by kernel_rfl) rfl ?_
    refine zf (fun w' hw => ?_)
    have hS := hw.sel [] rfl (by decide)
    refine ⟨hS, ?_⟩
    refine zi 6 rfl (by kernel_rfl) (by kernel_rfl) (by kernel_rfl) (jf (c := zAn x 13) rfl rfl (by decide) rfl) rfl hS ?_
    refine yc 2 (by kernel_rfl) rfl hw ?_
    refine yE 0 (v := .int .u64 x) rfl rfl rfl (by kernel_rfl) rfl ?_
    refine zf (fun w' hw => ?_)
    have hS := hw.sel [] rfl (by decide)
    refine ⟨hS, ?_⟩
    refine zi 7 rfl (by kernel_rfl) (by kernel_rfl) (by kernel_rfl) (kL (c := xs1 x) rfl rfl rfl) rfl hS ?_
    refine zi 8 rfl (by kernel_rfl) (by kernel_rfl) (by kernel_rfl) (zr rfl) rfl hS ?_
    refine yc 9 (by kernel_rfl) rfl hw ?_
    refine jm (cs := [.int .u64 x]) 0 rfl rfl rfl (by kernel_rfl) rfl (Nat.le_of_ble_eq_true rfl) ?_
    refine zf (fun w' hw => ?_)
    have hS := hw.sel [] rfl (by decide)
    refine ⟨hS, ?_⟩
    refine xI (by kernel_rfl) ?_
    refine (?_ : C _ _ _ _ _ _ _ (Own w (xr [Res.row o 140 [.int .u64 x]]) [Res.row o 140 [.int .u64 (xs1 x)]])) _ hw
    refine zM ?_
    refine zX [] rfl (by decide) (by kernel_rfl) (fun w' hw hS => ?_)
    refine zi 0 rfl (by kernel_rfl) (by kernel_rfl) (by kernel_rfl) (zJ) rfl hS ?_
    refine zi 1 rfl (by kernel_rfl) (by kernel_rfl) (by kernel_rfl) (zr rfl) rfl hS ?_
    refine zi 3 rfl (by kernel_rfl) (by kernel_rfl) (by kernel_rfl) (zJ) rfl hS ?_
    refine zi 4 rfl (by kernel_rfl) (by kernel_rfl) (by kernel_rfl) (zr rfl) rfl hS ?_
    refine kF (i := 2) (j := 5) (by kernel_rfl) ?_ ?_
    ·
      refine zP 2 rfl hw ?_
      refine yE 0 (v := .int .u64 (xs1 x)) rfl rfl rfl (by kernel_rfl) rfl ?_
      refine zf (fun w' hw => ?_)
      have hS := hw.sel [] rfl (by decide)
      refine ⟨hS, ?_⟩
      refine yc 5 (by kernel_rfl) rfl hw ?_
      refine yE 0 (v := .int .u64 (xs1 x)) rfl rfl rfl (by kernel_rfl) rfl ?_
      refine zf (fun w' hw => ?_)
      have hS := hw.sel [] rfl (by decide)
      refine ⟨hS, ?_⟩
      refine zi 6 rfl (by kernel_rfl) (by kernel_rfl) (by kernel_rfl) (zEm (c := zGo (xs1 x) 7) rfl rfl (by decide) rfl) rfl hS ?_
      refine zi 7 rfl (by kernel_rfl) (by kernel_rfl) (by kernel_rfl) (kL (c := kN x) rfl rfl rfl) rfl hS ?_
      refine zi 8 rfl (by kernel_rfl) (by kernel_rfl) (by kernel_rfl) (zr rfl) rfl hS ?_
      refine yc 9 (by kernel_rfl) rfl hw ?_
      refine jm (cs := [.int .u64 (xs1 x)]) 0 rfl rfl rfl (by kernel_rfl) rfl (Nat.le_of_ble_eq_true rfl) ?_
      refine zf (fun w' hw => ?_)
      have hS := hw.sel [] rfl (by decide)
      refine ⟨hS, ?_⟩
      refine xI (by kernel_rfl) ?_
      refine (?_ : C _ _ _ _ _ _ _ (Own w (xr [Res.row o 140 [.int .u64 x]]) [Res.row o 140 [.int .u64 (kN x)]])) _ hw
      refine zM ?_
      refine zX [] rfl (by decide) (by kernel_rfl) (fun w' hw hS => ?_)
      refine zi 0 rfl (by kernel_rfl) (by kernel_rfl) (by kernel_rfl) (zJ) rfl hS ?_
      refine zi 1 rfl (by kernel_rfl) (by kernel_rfl) (by kernel_rfl) (zr rfl) rfl hS ?_
      refine zi 3 rfl (by kernel_rfl) (by kernel_rfl) (by kernel_rfl) (zJ) rfl hS ?_
      refine zi 4 rfl (by kernel_rfl) (by kernel_rfl) (by kernel_rfl) (zr rfl) rfl hS ?_
      refine kF (i := 2) (j := 5) (by kernel_rfl) ?_ ?_
      ·
        refine zP 2 rfl hw ?_
        refine yE 0 (v := .int .u64 (kN x)) rfl rfl rfl (by kernel_rfl) rfl ?_
        refine zf (fun w' hw => ?_)
        have hS := hw.sel [] rfl (by decide)
        refine ⟨hS, ?_⟩
        refine yc 5 (by kernel_rfl) rfl hw ?_
        refine yE 0 (v := .int .u64 (kN x)) rfl rfl rfl (by kernel_rfl) rfl ?_
        refine zf (fun w' hw => ?_)
        have hS := hw.sel [] rfl (by decide)
        refine ⟨hS, ?_⟩
        refine zi 6 rfl (by kernel_rfl) (by kernel_rfl) (by kernel_rfl) (jf (c := zAn (kN x) 17) rfl rfl (by decide) rfl) rfl hS ?_
        refine zi 7 rfl (by kernel_rfl) (by kernel_rfl) (by kernel_rfl) (kL (c := kW x) rfl rfl rfl) rfl hS ?_
        refine zi 8 rfl (by kernel_rfl) (by kernel_rfl) (by kernel_rfl) (zr rfl) rfl hS ?_
        refine yc 9 (by kernel_rfl) rfl hw ?_
        refine jm (cs := [.int .u64 (kN x)]) 0 rfl rfl rfl (by kernel_rfl) rfl (Nat.le_of_ble_eq_true rfl) ?_
        refine zf (fun w' hw => ?_)
        have hS := hw.sel [] rfl (by decide)
        refine ⟨hS, ?_⟩
        refine xI (by kernel_rfl) ?_
        refine (?_ : C _ _ _ _ _ _ _ (Own w (xr [Res.row o 140 [.int .u64 x]]) [Res.row o 140 [.int .u64 (kW x)]])) _ hw
        refine zB ?_
        refine zC rfl ?_
        refine yB rfl rfl ?_
        refine yE 0 (v := .int .u64 (kW x)) rfl rfl rfl (by kernel_rfl) rfl ?_
        refine zH rfl ?_
        refine zA ?_
        exact zR (z3 (v := .int .u64 (kW x)) rfl rfl (fun w' hw => ⟨kW x, rfl, hw⟩))
      ·
        refine zP 5 rfl hw ?_
        refine yE 0 (v := .int .u64 (kN x)) rfl rfl rfl (by kernel_rfl) rfl ?_
        refine zf (fun w' hw => ?_)
        have hS := hw.sel [] rfl (by decide)
        refine ⟨hS, ?_⟩
        refine zi 6 rfl (by kernel_rfl) (by kernel_rfl) (by kernel_rfl) (jf (c := zAn (kN x) 17) rfl rfl (by decide) rfl) rfl hS ?_
        refine yc 2 (by kernel_rfl) rfl hw ?_
        refine yE 0 (v := .int .u64 (kN x)) rfl rfl rfl (by kernel_rfl) rfl ?_
        refine zf (fun w' hw => ?_)
        have hS := hw.sel [] rfl (by decide)
        refine ⟨hS, ?_⟩
        refine zi 7 rfl (by kernel_rfl) (by kernel_rfl) (by kernel_rfl) (kL (c := kW x) rfl rfl rfl) rfl hS ?_
        refine zi 8 rfl (by kernel_rfl) (by kernel_rfl) (by kernel_rfl) (zr rfl) rfl hS ?_
        refine yc 9 (by kernel_rfl) rfl hw ?_
        refine jm (cs := [.int .u64 (kN x)]) 0 rfl rfl rfl (by kernel_rfl) rfl (Nat.le_of_ble_eq_true rfl) ?_
        refine zf (fun w' hw => ?_)
        have hS := hw.sel [] rfl (by decide)
        refine ⟨hS, ?_⟩
        refine xI (by kernel_rfl) ?_
        refine (?_ : C _ _ _ _ _ _ _ (Own w (xr [Res.row o 140 [.int .u64 x]]) [Res.row o 140 [.int .u64 (kW x)]])) _ hw
        refine zB ?_
        refine zC rfl ?_
        refine yB rfl rfl ?_
        refine yE 0 (v := .int .u64 (kW x)) rfl rfl rfl (by kernel_rfl) rfl ?_
        refine zH rfl ?_
        refine zA ?_
        exact zR (z3 (v := .int .u64 (kW x)) rfl rfl (fun w' hw => ⟨kW x, rfl, hw⟩))
    ·
      refine zP 5 rfl hw ?_
      refine yE 0 (v := .int .u64 (xs1 x)) rfl rfl rfl (by kernel_rfl) rfl ?_
      refine zf (fun w' hw => ?_)
      have hS := hw.sel [] rfl (by decide)
      refine ⟨hS, ?_⟩
      refine zi 6 rfl (by kernel_rfl) (by kernel_rfl) (by kernel_rfl) (zEm (c := zGo (xs1 x) 7) rfl rfl (by decide) rfl) rfl hS ?_
      refine yc 2 (by kernel_rfl) rfl hw ?_
      refine yE 0 (v := .int .u64 (xs1 x)) rfl rfl rfl (by kernel_rfl) rfl ?_
      refine zf (fun w' hw => ?_)
      have hS := hw.sel [] rfl (by decide)
      refine ⟨hS, ?_⟩
      refine zi 7 rfl (by kernel_rfl) (by kernel_rfl) (by kernel_rfl) (kL (c := kN x) rfl rfl rfl) rfl hS ?_
      refine zi 8 rfl (by kernel_rfl) (by kernel_rfl) (by kernel_rfl) (zr rfl) rfl hS ?_
      refine yc 9 (by kernel_rfl) rfl hw ?_
      refine jm (cs := [.int .u64 (xs1 x)]) 0 rfl rfl rfl (by kernel_rfl) rfl (Nat.le_of_ble_eq_true rfl) ?_
      refine zf (fun w' hw => ?_)
      have hS := hw.sel [] rfl (by decide)
      refine ⟨hS, ?_⟩
      refine xI (by kernel_rfl) ?_
      refine (?_ : C _ _ _ _ _ _ _ (Own w (xr [Res.row o 140 [.int .u64 x]]) [Res.row o 140 [.int .u64 (kN x)]])) _ hw
      refine zM ?_
      refine zX [] rfl (by decide) (by kernel_rfl) (fun w' hw hS => ?_)
      refine zi 0 rfl (by kernel_rfl) (by kernel_rfl) (by kernel_rfl) (zJ) rfl hS ?_
      refine zi 1 rfl (by kernel_rfl) (by kernel_rfl) (by kernel_rfl) (zr rfl) rfl hS ?_
      refine zi 3 rfl (by kernel_rfl) (by kernel_rfl) (by kernel_rfl) (zJ) rfl hS ?_
      refine zi 4 rfl (by kernel_rfl) (by kernel_rfl) (by kernel_rfl) (zr rfl) rfl hS ?_
      refine kF (i := 2) (j := 5) (by kernel_rfl) ?_ ?_
      ·
        refine zP 2 rfl hw ?_
        refine yE 0 (v := .int .u64 (kN x)) rfl rfl rfl (by kernel_rfl) rfl ?_
        refine zf (fun w' hw => ?_)
        have hS := hw.sel [] rfl (by decide)
        refine ⟨hS, ?_⟩
        refine yc 5 (by kernel_rfl) rfl hw ?_
        refine yE 0 (v := .int .u64 (kN x)) rfl rfl rfl (by kernel_rfl) rfl ?_
        refine zf (fun w' hw => ?_)
        have hS := hw.sel [] rfl (by decide)
        refine ⟨hS, ?_⟩
        refine zi 6 rfl (by kernel_rfl) (by kernel_rfl) (by kernel_rfl) (jf (c := zAn (kN x) 17) rfl rfl (by decide) rfl) rfl hS ?_
        refine zi 7 rfl (by kernel_rfl) (by kernel_rfl) (by kernel_rfl) (kL (c := kW x) rfl rfl rfl) rfl hS ?_
        refine zi 8 rfl (by kernel_rfl) (by kernel_rfl) (by kernel_rfl) (zr rfl) rfl hS ?_
        refine yc 9 (by kernel_rfl) rfl hw ?_
        refine jm (cs := [.int .u64 (kN x)]) 0 rfl rfl rfl (by kernel_rfl) rfl (Nat.le_of_ble_eq_true rfl) ?_
        refine zf (fun w' hw => ?_)
        have hS := hw.sel [] rfl (by decide)
        refine ⟨hS, ?_⟩
        refine xI (by kernel_rfl) ?_
        refine (?_ : C _ _ _ _ _ _ _ (Own w (xr [Res.row o 140 [.int .u64 x]]) [Res.row o 140 [.int .u64 (kW x)]])) _ hw
        refine zB ?_
        refine zC rfl ?_
        refine yB rfl rfl ?_
        refine yE 0 (v := .int .u64 (kW x)) rfl rfl rfl (by kernel_rfl) rfl ?_
        refine zH rfl ?_
        refine zA ?_
        exact zR (z3 (v := .int .u64 (kW x)) rfl rfl (fun w' hw => ⟨kW x, rfl, hw⟩))
      ·
        refine zP 5 rfl hw ?_
        refine yE 0 (v := .int .u64 (kN x)) rfl rfl rfl (by kernel_rfl) rfl ?_
        refine zf (fun w' hw => ?_)
        have hS := hw.sel [] rfl (by decide)
        refine ⟨hS, ?_⟩
        refine zi 6 rfl (by kernel_rfl) (by kernel_rfl) (by kernel_rfl) (jf (c := zAn (kN x) 17) rfl rfl (by decide) rfl) rfl hS ?_
        refine yc 2 (by kernel_rfl) rfl hw ?_
        refine yE 0 (v := .int .u64 (kN x)) rfl rfl rfl (by kernel_rfl) rfl ?_
        refine zf (fun w' hw => ?_)
        have hS := hw.sel [] rfl (by decide)
        refine ⟨hS, ?_⟩
        refine zi 7 rfl (by kernel_rfl) (by kernel_rfl) (by kernel_rfl) (kL (c := kW x) rfl rfl rfl) rfl hS ?_
        refine zi 8 rfl (by kernel_rfl) (by kernel_rfl) (by kernel_rfl) (zr rfl) rfl hS ?_
        refine yc 9 (by kernel_rfl) rfl hw ?_
        refine jm (cs := [.int .u64 (kN x)]) 0 rfl rfl rfl (by kernel_rfl) rfl (Nat.le_of_ble_eq_true rfl) ?_
        refine zf (fun w' hw => ?_)
        have hS := hw.sel [] rfl (by decide)
        refine ⟨hS, ?_⟩
        refine xI (by kernel_rfl) ?_
        refine (?_ : C _ _ _ _ _ _ _ (Own w (xr [Res.row o 140 [.int .u64 x]]) [Res.row o 140 [.int .u64 (kW x)]])) _ hw
        refine zB ?_
        refine zC rfl ?_
        refine yB rfl rfl ?_
        refine yE 0 (v := .int .u64 (kW x)) rfl rfl rfl (by kernel_rfl) rfl ?_
        refine zH rfl ?_
        refine zA ?_
        exact zR (z3 (v := .int .u64 (kW x)) rfl rfl (fun w' hw => ⟨kW x, rfl, hw⟩))
end Go.Proofs.Ytcdiehplbmkmeaa
