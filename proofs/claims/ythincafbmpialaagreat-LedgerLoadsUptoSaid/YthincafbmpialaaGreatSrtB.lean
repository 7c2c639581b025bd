import Derived.Test.YthincafbmpialaaGreatSrt
import Derived.Test.YthincafbmpialaaGreatFwU
import Derived.Test.YthincafbmpialaaGreatRefW
import Derived.Test.YthincafbmpialaaGreatChecked
set_option linter.unusedSectionVars false
set_option linter.unusedSimpArgs false
set_option linter.unusedVariables false
set_option maxRecDepth 10000
namespace Go.Proofs.YthincafbmpialaaGreat
open Go Go.Sc Go.Proofs
theorem vi {a b : Int} (h : a = b) : Value.int .i64 a = Value.int .i64 b := by rw [h]
theorem wsi {a b : Nat} (h : b ≤ a) (h2 : a < 9223372036854775808) : IntKind.i64.wrap ((a : Int) - (b : Int)) = ((a - b : Nat) : Int) := by
  rw [show (a : Int) - (b : Int) = ((a - b : Nat) : Int) by omega]; exact zr (by omega)
theorem kO {a : Nat} (h : 1 ≤ a) (h2 : a < 9223372036854775808) : IntKind.i64.wrap ((a : Int) - 1) = ((a - 1 : Nat) : Int) := wsi (b := 1) h h2
theorem qui {a b : Nat} (h : a < 9223372036854775808) : IntKind.i64.wrap ((a : Int).tdiv (b : Int)) = ((a / b : Nat) : Int) := by
  have : (a : Int).tdiv (b : Int) = ((a / b : Nat) : Int) := rfl
  rw [this]
  have h2 := Nat.div_le_self a b
  generalize a / b = c at h2 ⊢
  exact zr (by omega)
theorem zLY {α : Type} [Inhabited α] [SO α] {m : List α} {f r hi : Nat} (h : olt (zI m (f + (2 * r + 1))) (zI m (f + (2 * r + 1) + 1))) : ∀ c', c' = 2 * r + 1 ∨ c' = 2 * r + 2 → c' < hi → x3 (zI m (f + c')) (zI m (f + (2 * r + 1 + 1))) := by
  intro c' h1 _
  rw [show f + (2 * r + 1) + 1 = f + (2 * r + 1 + 1) by omega] at h
  rcases h1 with rfl | rfl
  · exact xr h
  · exact k6 _
theorem zJY {α : Type} [Inhabited α] [SO α] {m : List α} {f r hi : Nat} (h : 2 * r + 1 + 1 < hi → ¬ olt (zI m (f + (2 * r + 1))) (zI m (f + (2 * r + 1) + 1))) : ∀ c', c' = 2 * r + 1 ∨ c' = 2 * r + 2 → c' < hi → x3 (zI m (f + c')) (zI m (f + (2 * r + 1))) := by
  intro c' h1 h2
  rcases h1 with rfl | rfl
  · exact k6 _
  · have := h (by omega)
    rw [show f + (2 * r + 1) + 1 = f + (2 * r + 2) by omega] at this
    exact this
def zML (a b : Int) : Int := IntKind.u64.wrap (((a % 2 ^ IntKind.u64.bits).toNat ^^^ (b % 2 ^ IntKind.u64.bits).toNat : Nat) : Int)
def zBz (a b : Int) : Int := IntKind.u64.wrap (a * 2 ^ (min b.toNat IntKind.u64.bits))
def zHm (a b : Int) : Int := a.fdiv (2 ^ (min b.toNat IntKind.u64.bits))
def xs1 (x : Int) : Int := zML x (zBz x 13)
def jT (x : Int) : Int := zML (xs1 x) (zHm (xs1 x) 7)
def jh (x : Int) : Int := zML (jT x) (zBz (jT x) 17)
theorem zED {n : Nat} (h : n ≤ 1000000000000) : zw n ≤ 40 := xc (by have : (2 : Nat) ^ 40 = 1099511627776 := rfl; omega)
theorem zJy {n : Nat} (h : n ≤ 1000000000000) : IntKind.u64.wrap ((1 : Int) * 2 ^ (min ((zw n : Nat) : Int).toNat IntKind.u64.bits)) = ((2 ^ zw n : Nat) : Int) := by
  have h1 := zED h
  have e : min ((zw n : Nat) : Int).toNat IntKind.u64.bits = zw n := by
    rw [Int.toNat_natCast]; show min _ 64 = _; omega
  have h2 : 2 ^ zw n ≤ 2 ^ 40 := Nat.pow_le_pow_right (by decide) h1
  have h3 : (2 : Nat) ^ 40 = 1099511627776 := rfl
  rw [e, Int.one_mul, show ((2 : Int) ^ zw n) = ((2 ^ zw n : Nat) : Int) by rw [Int.natCast_pow]; rfl]
  generalize 2 ^ zw n = z at h2 ⊢
  exact kS (by omega)
theorem zLn {n : Nat} (h : 0 < n) : 2 ^ zw n ≤ 2 * n ∧ 0 < 2 ^ zw n := by
  have h1 := zAd h
  have h2 := zCX h
  refine ⟨?_, Nat.pow_pos (by decide)⟩
  rw [show zw n = (zw n - 1) + 1 by omega, Nat.pow_succ]
  omega
theorem zIR {y : Int} {m : Nat} (h : 0 < m) (hm : m ≤ 4000000000000) : ((y % 18446744073709551616).toNat &&& (m - 1)) < m := by
  have := Nat.and_le_right (n := (y % 18446744073709551616).toNat) (m := m - 1)
  omega
theorem zIX {y : Int} {m : Nat} (h : 0 < m) (hm : m ≤ 4000000000000) : IntKind.u64.wrap (((y % 2 ^ IntKind.u64.bits).toNat &&& (((m - 1 : Nat) : Int) % 2 ^ IntKind.u64.bits).toNat : Nat) : Int) = (((y % 18446744073709551616).toNat &&& (m - 1) : Nat) : Int) := by
  have e : ((((m - 1 : Nat) : Int)) % 2 ^ IntKind.u64.bits).toNat = m - 1 := by
    show ((((m - 1 : Nat) : Int)) % 18446744073709551616).toNat = m - 1
    omega
  have e2 : (y % 2 ^ IntKind.u64.bits).toNat = (y % 18446744073709551616).toNat := rfl
  rw [e, e2]
  have := zIR (y := y) h hm
  exact kS (by omega)
theorem zKj (n : Nat) (w : World) (hn : n < 18446744073709551616) : Rets Tryz.prog 80 #[.int .u64 (n : Nat)] w fun u_ w' => u_ = .int .i64 ((zw n) : Nat) ∧ Own w [] [] w' := by
  exact zCd n hn w
theorem zK5 (n : Nat) (w : World) (hn : n < 18446744073709551616) : Rets Tryz.prog 128 #[.int .u64 (n : Nat)] w fun u_ w' => u_ = .int .i64 ((zw n) : Nat) ∧ Own w [] [] w' := by
  refine xf (args := [.int .u64 (n : Nat)]) Tryz.func128 rfl Tryz.ntmps128 rfl (Own.start w) ?_
  refine zB ?_
  refine zD rfl ?_
  refine zA ?_
  refine zL ?_
  refine xQ rfl ?_
  refine zK ?_
  refine zB ?_
  refine zC rfl ?_
  refine zAt (by kernel_rfl) rfl rfl (fun w' hw => ?_)
  refine (zKj n w' (by first | assumption | omega | (simp <;> omega) | (constructor <;> (first | omega | (simp only [zb]; omega) | (simp <;> omega))))).mono ?_
  rintro _ w1 ⟨rfl, hO⟩
  refine (?_ : CL _ _ _ _ _ _ (Own w [] [])) w1 (hw.frame0 hO)
  refine zD rfl ?_
  refine zA ?_
  exact zM (z6 (v := .int .i64 ((zw n) : Nat)) rfl rfl (fun w' hw => ⟨rfl, hw.drop⟩))
theorem zNQ (n : Nat) (w : World) (hn : n ≤ 1000000000000) : Rets Tryz.prog 183 #[.int .i64 (n : Nat)] w fun u_ w' => u_ = .int .u64 ((2 ^ zw n) : Nat) ∧ Own w [] [] w' := by
  refine xf (args := [.int .i64 (n : Nat)]) Tryz.func183 rfl Tryz.ntmps183 rfl (Own.start w) ?_
  refine zB ?_
  refine zD rfl ?_
  refine zA ?_
  refine zB ?_
  refine zC rfl ?_
  refine yw (by kernel_rfl) rfl (kS (by omega)) rfl ?_ (by kernel_rfl)
  refine zAt (by kernel_rfl) rfl rfl (fun w' hw => ?_)
  refine (zK5 n w' (by first | assumption | omega | (simp <;> omega) | (constructor <;> (first | omega | (simp only [zb]; omega) | (simp <;> omega))))).mono ?_
  rintro _ w1 ⟨rfl, hO⟩
  refine (?_ : CL _ _ _ _ _ _ (Own w [] [])) w1 (hw.frame0 hO)
  refine zK0 (c := ((2 ^ zw n : Nat) : Int)) rfl rfl (by omega) (zJy hn) rfl ?_
  refine zD rfl ?_
  refine zA ?_
  exact zM (z6 (v := .int .u64 (2 ^ zw n : Nat)) rfl rfl (fun w' hw => ⟨rfl, hw.drop⟩))
theorem zLI (o : Nat) (x : Int) (w : World) (hin : Own w (xZ [Res.row o 237 [.int .u64 x]]) [Res.row o 237 [.int .u64 x]] w) : Rets Tryz.prog 184 #[.pointer (some ⟨o, 0, none⟩)] w fun u_ w' => ∃ (y : Int), u_ = .int .u64 y ∧ Own w (xZ [Res.row o 237 [.int .u64 x]]) [Res.row o 237 [.int .u64 y]] w' := by
  refine xf (args := [.pointer (some ⟨o, 0, none⟩)]) Tryz.func184 rfl Tryz.ntmps184 rfl (show Own w (xZ [Res.row o 237 [.int .u64 x]]) [Res.row o 237 [.int .u64 x]] w from hin) ?_
  refine zB ?_
  refine zD rfl ?_
  refine zA ?_
  refine zL ?_
  refine zg [] rfl (by decide) (by kernel_rfl) (fun w' hw hS => ?_)
  refine zy 0 rfl (by kernel_rfl) (by kernel_rfl) (by kernel_rfl) (zQ) rfl hS ?_
  refine zy 1 rfl (by kernel_rfl) (by kernel_rfl) (by kernel_rfl) (z7 rfl) rfl hS ?_
  refine zy 3 rfl (by kernel_rfl) (by kernel_rfl) (by kernel_rfl) (zQ) rfl hS ?_
  refine zy 4 rfl (by kernel_rfl) (by kernel_rfl) (by kernel_rfl) (z7 rfl) rfl hS ?_
  refine jD (i := 2) (j := 5) (by kernel_rfl) ?_ ?_
  ·
    refine zX 2 rfl hw ?_
    refine y6 0 (v := .int .u64 x) rfl rfl rfl (by kernel_rfl) rfl ?_
    refine zj (fun w' hw => ?_)
    have hS := hw.sel [] rfl (by decide)
    refine ⟨hS, ?_⟩
    refine xO 5 (by kernel_rfl) rfl hw ?_
    refine y6 0 (v := .int .u64 x) rfl rfl rfl (by kernel_rfl) rfl ?_
    refine zj (fun w' hw => ?_)
    have hS := hw.sel [] rfl (by decide)
    refine ⟨hS, ?_⟩
    refine zy 6 rfl (by kernel_rfl) (by kernel_rfl) (by kernel_rfl) (zAi (c := zBz x 13) rfl rfl (by decide) rfl) rfl hS ?_
    refine zy 7 rfl (by kernel_rfl) (by kernel_rfl) (by kernel_rfl) (jJ (c := xs1 x) rfl rfl rfl) rfl hS ?_
    refine zy 8 rfl (by kernel_rfl) (by kernel_rfl) (by kernel_rfl) (z7 rfl) rfl hS ?_
    refine xO 9 (by kernel_rfl) rfl hw ?_
    refine zAw (cs := [.int .u64 x]) 0 rfl rfl rfl (by kernel_rfl) rfl (Nat.le_of_ble_eq_true rfl) ?_
    refine zj (fun w' hw => ?_)
    have hS := hw.sel [] rfl (by decide)
    refine ⟨hS, ?_⟩
    refine x7 (by kernel_rfl) ?_
    refine (?_ : C _ _ _ _ _ _ _ (Own w (xZ [Res.row o 237 [.int .u64 x]]) [Res.row o 237 [.int .u64 (xs1 x)]])) _ hw
    refine zL ?_
    refine zg [] rfl (by decide) (by kernel_rfl) (fun w' hw hS => ?_)
    refine zy 0 rfl (by kernel_rfl) (by kernel_rfl) (by kernel_rfl) (zQ) rfl hS ?_
    refine zy 1 rfl (by kernel_rfl) (by kernel_rfl) (by kernel_rfl) (z7 rfl) rfl hS ?_
    refine zy 3 rfl (by kernel_rfl) (by kernel_rfl) (by kernel_rfl) (zQ) rfl hS ?_
    refine zy 4 rfl (by kernel_rfl) (by kernel_rfl) (by kernel_rfl) (z7 rfl) rfl hS ?_
    refine jD (i := 2) (j := 5) (by kernel_rfl) ?_ ?_
    ·
      refine zX 2 rfl hw ?_
      refine y6 0 (v := .int .u64 (xs1 x)) rfl rfl rfl (by kernel_rfl) rfl ?_
      refine zj (fun w' hw => ?_)
      have hS := hw.sel [] rfl (by decide)
      refine ⟨hS, ?_⟩
      refine xO 5 (by kernel_rfl) rfl hw ?_
      refine y6 0 (v := .int .u64 (xs1 x)) rfl rfl rfl (by kernel_rfl) rfl ?_
      refine zj (fun w' hw => ?_)
      have hS := hw.sel [] rfl (by decide)
      refine ⟨hS, ?_⟩
      refine zy 6 rfl (by kernel_rfl) (by kernel_rfl) (by kernel_rfl) (zGO (c := zHm (xs1 x) 7) rfl rfl (by decide) rfl) rfl hS ?_
      refine zy 7 rfl (by kernel_rfl) (by kernel_rfl) (by kernel_rfl) (jJ (c := jT x) rfl rfl rfl) rfl hS ?_
      refine zy 8 rfl (by kernel_rfl) (by kernel_rfl) (by kernel_rfl) (z7 rfl) rfl hS ?_
      refine xO 9 (by kernel_rfl) rfl hw ?_
      refine zAw (cs := [.int .u64 (xs1 x)]) 0 rfl rfl rfl (by kernel_rfl) rfl (Nat.le_of_ble_eq_true rfl) ?_
      refine zj (fun w' hw => ?_)
      have hS := hw.sel [] rfl (by decide)
      refine ⟨hS, ?_⟩
      refine x7 (by kernel_rfl) ?_
      refine (?_ : C _ _ _ _ _ _ _ (Own w (xZ [Res.row o 237 [.int .u64 x]]) [Res.row o 237 [.int .u64 (jT x)]])) _ hw
      refine zL ?_
      refine zg [] rfl (by decide) (by kernel_rfl) (fun w' hw hS => ?_)
      refine zy 0 rfl (by kernel_rfl) (by kernel_rfl) (by kernel_rfl) (zQ) rfl hS ?_
      refine zy 1 rfl (by kernel_rfl) (by kernel_rfl) (by kernel_rfl) (z7 rfl) rfl hS ?_
      refine zy 3 rfl (by kernel_rfl) (by kernel_rfl) (by kernel_rfl) (zQ) rfl hS ?_
      refine zy 4 rfl (by kernel_rfl) (by kernel_rfl) (by kernel_rfl) (z7 rfl) rfl hS ?_
      refine jD (i := 2) (j := 5) (by kernel_rfl) ?_ ?_
      ·
        refine zX 2 rfl hw ?_
        refine y6 0 (v := .int .u64 (jT x)) rfl rfl rfl (by kernel_rfl) rfl ?_
        refine zj (fun w' hw => ?_)
        have hS := hw.sel [] rfl (by decide)
        refine ⟨hS, ?_⟩
        refine xO 5 (by kernel_rfl) rfl hw ?_
        refine y6 0 (v := .int .u64 (jT x)) rfl rfl rfl (by kernel_rfl) rfl ?_
        refine zj (fun w' hw => ?_)
        have hS := hw.sel [] rfl (by decide)
        refine ⟨hS, ?_⟩
        refine zy 6 rfl (by kernel_rfl) (by kernel_rfl) (by kernel_rfl) (zAi (c := zBz (jT x) 17) rfl rfl (by decide) rfl) rfl hS ?_
        refine zy 7 rfl (by kernel_rfl) (by kernel_rfl) (by kernel_rfl) (jJ (c := jh x) rfl rfl rfl) rfl hS ?_
        refine zy 8 rfl (by kernel_rfl) (by kernel_rfl) (by kernel_rfl) (z7 rfl) rfl hS ?_
        refine xO 9 (by kernel_rfl) rfl hw ?_
        refine zAw (cs := [.int .u64 (jT x)]) 0 rfl rfl rfl (by kernel_rfl) rfl (Nat.le_of_ble_eq_true rfl) ?_
        refine zj (fun w' hw => ?_)
        have hS := hw.sel [] rfl (by decide)
        refine ⟨hS, ?_⟩
        refine x7 (by kernel_rfl) ?_
        refine (?_ : C _ _ _ _ _ _ _ (Own w (xZ [Res.row o 237 [.int .u64 x]]) [Res.row o 237 [.int .u64 (jh x)]])) _ hw
        refine zB ?_
        refine zC rfl ?_
        refine zm rfl rfl ?_
        refine y6 0 (v := .int .u64 (jh x)) rfl rfl rfl (by kernel_rfl) rfl ?_
        refine zD rfl ?_
        refine zA ?_
        exact zM (z6 (v := .int .u64 (jh x)) rfl rfl (fun w' hw => ⟨jh x, rfl, hw⟩))
      ·
        refine zX 5 rfl hw ?_
        refine y6 0 (v := .int .u64 (jT x)) rfl rfl rfl (by kernel_rfl) rfl ?_
        refine zj (fun w' hw => ?_)
        have hS := hw.sel [] rfl (by decide)
        refine ⟨hS, ?_⟩
        refine zy 6 rfl (by kernel_rfl) (by kernel_rfl) (by kernel_rfl) (zAi (c := zBz (jT x) 17) rfl rfl (by decide) rfl) rfl hS ?_
        refine xO 2 (by kernel_rfl) rfl hw ?_
        refine y6 0 (v := .int .u64 (jT x)) rfl rfl rfl (by kernel_rfl) rfl ?_
        refine zj (fun w' hw => ?_)
        have hS := hw.sel [] rfl (by decide)
        refine ⟨hS, ?_⟩
        refine zy 7 rfl (by kernel_rfl) (by kernel_rfl) (by kernel_rfl) (jJ (c := jh x) rfl rfl rfl) rfl hS ?_
        refine zy 8 rfl (by kernel_rfl) (by kernel_rfl) (by kernel_rfl) (z7 rfl) rfl hS ?_
        refine xO 9 (by kernel_rfl) rfl hw ?_
        refine zAw (cs := [.int .u64 (jT x)]) 0 rfl rfl rfl (by kernel_rfl) rfl (Nat.le_of_ble_eq_true rfl) ?_
        refine zj (fun w' hw => ?_)
        have hS := hw.sel [] rfl (by decide)
        refine ⟨hS, ?_⟩
        refine x7 (by kernel_rfl) ?_
        refine (?_ : C _ _ _ _ _ _ _ (Own w (xZ [Res.row o 237 [.int .u64 x]]) [Res.row o 237 [.int .u64 (jh x)]])) _ hw
        refine zB ?_
        refine zC rfl ?_
        refine zm rfl rfl ?_
        refine y6 0 (v := .int .u64 (jh x)) rfl rfl rfl (by kernel_rfl) rfl ?_
        refine zD rfl ?_
        refine zA ?_
        exact zM (z6 (v := .int .u64 (jh x)) rfl rfl (fun w' hw => ⟨jh x, rfl, hw⟩))
    ·
      refine zX 5 rfl hw ?_
      refine y6 0 (v := .int .u64 (xs1 x)) rfl rfl rfl (by kernel_rfl) rfl ?_
      refine zj (fun w' hw => ?_)
      have hS := hw.sel [] rfl (by decide)
      refine ⟨hS, ?_⟩
      refine zy 6 rfl (by kernel_rfl) (by kernel_rfl) (by kernel_rfl) (zGO (c := zHm (xs1 x) 7) rfl rfl (by decide) rfl) rfl hS ?_
      refine xO 2 (by kernel_rfl) rfl hw ?_
      refine y6 0 (v := .int .u64 (xs1 x)) rfl rfl rfl (by kernel_rfl) rfl ?_
      refine zj (fun w' hw => ?_)
      have hS := hw.sel [] rfl (by decide)
      refine ⟨hS, ?_⟩
      refine zy 7 rfl (by kernel_rfl) (by kernel_rfl) (by kernel_rfl) (jJ (c := jT x) rfl rfl rfl) rfl hS ?_
      refine zy 8 rfl (by kernel_rfl) (by kernel_rfl) (by kernel_rfl) (z7 rfl) rfl hS ?_
      refine xO 9 (by kernel_rfl) rfl hw ?_
      refine zAw (cs := [.int .u64 (xs1 x)]) 0 rfl rfl rfl (by kernel_rfl) rfl (Nat.le_of_ble_eq_true rfl) ?_
      refine zj (fun w' hw => ?_)
      have hS := hw.sel [] rfl (by decide)
      refine ⟨hS, ?_⟩
      refine x7 (by kernel_rfl) ?_
      refine (?_ : C _ _ _ _ _ _ _ (Own w (xZ [Res.row o 237 [.int .u64 x]]) [Res.row o 237 [.int .u64 (jT x)]])) _ hw
      refine zL ?_
      refine zg [] rfl (by decide) (by kernel_rfl) (fun w' hw hS => ?_)
      refine zy 0 rfl (by kernel_rfl) (by kernel_rfl) (by kernel_rfl) (zQ) rfl hS ?_
      refine zy 1 rfl (by kernel_rfl) (by kernel_rfl) (by kernel_rfl) (z7 rfl) rfl hS ?_
      refine zy 3 rfl (by kernel_rfl) (by kernel_rfl) (by kernel_rfl) (zQ) rfl hS ?_
      refine zy 4 rfl (by kernel_rfl) (by kernel_rfl) (by kernel_rfl) (z7 rfl) rfl hS ?_
      refine jD (i := 2) (j := 5) (by kernel_rfl) ?_ ?_
      ·
        refine zX 2 rfl hw ?_
        refine y6 0 (v := .int .u64 (jT x)) rfl rfl rfl (by kernel_rfl) rfl ?_
        refine zj (fun w' hw => ?_)
        have hS := hw.sel [] rfl (by decide)
        refine ⟨hS, ?_⟩
        refine xO 5 (by kernel_rfl) rfl hw ?_
        refine y6 0 (v := .int .u64 (jT x)) rfl rfl rfl (by kernel_rfl) rfl ?_
        refine zj (fun w' hw => ?_)
        have hS := hw.sel [] rfl (by decide)
        refine ⟨hS, ?_⟩
        refine zy 6 rfl (by kernel_rfl) (by kernel_rfl) (by kernel_rfl) (zAi (c := zBz (jT x) 17) rfl rfl (by decide) rfl) rfl hS ?_
        refine zy 7 rfl (by kernel_rfl) (by kernel_rfl) (by kernel_rfl) (jJ (c := jh x) rfl rfl rfl) rfl hS ?_
        refine zy 8 rfl (by kernel_rfl) (by kernel_rfl) (by kernel_rfl) (z7 rfl) rfl hS ?_
        refine xO 9 (by kernel_rfl) rfl hw ?_
        refine zAw (cs := [.int .u64 (jT x)]) 0 rfl rfl rfl (by kernel_rfl) rfl (Nat.le_of_ble_eq_true rfl) ?_
        refine zj (fun w' hw => ?_)
        have hS := hw.sel [] rfl (by decide)
        refine ⟨hS, ?_⟩
        refine x7 (by kernel_rfl) ?_
        refine (?_ : C _ _ _ _ _ _ _ (Own w (xZ [Res.row o 237 [.int .u64 x]]) [Res.row o 237 [.int .u64 (jh x)]])) _ hw
        refine zB ?_
        refine zC rfl ?_
        refine zm rfl rfl ?_
        refine y6 0 (v := .int .u64 (jh x)) rfl rfl rfl (by kernel_rfl) rfl ?_
        refine zD rfl ?_
        refine zA ?_
        exact zM (z6 (v := .int .u64 (jh x)) rfl rfl (fun w' hw => ⟨jh x, rfl, hw⟩))
      ·
        refine zX 5 rfl hw ?_
        refine y6 0 (v := .int .u64 (jT x)) rfl rfl rfl (by kernel_rfl) rfl ?_
        refine zj (fun w' hw => ?_)
        have hS := hw.sel [] rfl (by decide)
        refine ⟨hS, ?_⟩
        refine zy 6 rfl (by kernel_rfl) (by kernel_rfl) (by kernel_rfl) (zAi (c := zBz (jT x) 17) rfl rfl (by decide) rfl) rfl hS ?_
        refine xO 2 (by kernel_rfl) rfl hw ?_
        refine y6 0 (v := .int .u64 (jT x)) rfl rfl rfl (by kernel_rfl) rfl ?_
        refine zj (fun w' hw => ?_)
        have hS := hw.sel [] rfl (by decide)
        refine ⟨hS, ?_⟩
        refine zy 7 rfl (by kernel_rfl) (by kernel_rfl) (by kernel_rfl) (jJ (c := jh x) rfl rfl rfl) rfl hS ?_
        refine zy 8 rfl (by kernel_rfl) (by kernel_rfl) (by kernel_rfl) (z7 rfl) rfl hS ?_
        refine xO 9 (by kernel_rfl) rfl hw ?_
        refine zAw (cs := [.int .u64 (jT x)]) 0 rfl rfl rfl (by kernel_rfl) rfl (Nat.le_of_ble_eq_true rfl) ?_
        refine zj (fun w' hw => ?_)
        have hS := hw.sel [] rfl (by decide)
        refine ⟨hS, ?_⟩
        refine x7 (by kernel_rfl) ?_
        refine (?_ : C _ _ _ _ _ _ _ (Own w (xZ [Res.row o 237 [.int .u64 x]]) [Res.row o 237 [.int .u64 (jh x)]])) _ hw
        refine zB ?_
        refine zC rfl ?_
        refine zm rfl rfl ?_
        refine y6 0 (v := .int .u64 (jh x)) rfl rfl rfl (by kernel_rfl) rfl ?_
        refine zD rfl ?_
        refine zA ?_
        exact zM (z6 (v := .int .u64 (jh x)) rfl rfl (fun w' hw => ⟨jh x, rfl, hw⟩))
  ·
    refine zX 5 rfl hw ?_
    refine y6 0 (v := .int .u64 x) rfl rfl rfl (by kernel_rfl) rfl ?_
    refine zj (fun w' hw => ?_)
    have hS := hw.sel [] rfl (by decide)
    refine ⟨hS, ?_⟩
    refine zy 6 rfl (by kernel_rfl) (by kernel_rfl) (by kernel_rfl) (zAi (c := zBz x 13) rfl rfl (by decide) rfl) rfl hS ?_
    refine xO 2 (by kernel_rfl) rfl hw ?_
    refine y6 0 (v := .int .u64 x) rfl rfl rfl (by kernel_rfl) rfl ?_
    refine zj (fun w' hw => ?_)
    have hS := hw.sel [] rfl (by decide)
    refine ⟨hS, ?_⟩
    refine zy 7 rfl (by kernel_rfl) (by kernel_rfl) (by kernel_rfl) (jJ (c := xs1 x) rfl rfl rfl) rfl hS ?_
    refine zy 8 rfl (by kernel_rfl) (by kernel_rfl) (by kernel_rfl) (z7 rfl) rfl hS ?_
    refine xO 9 (by kernel_rfl) rfl hw ?_
    refine zAw (cs := [.int .u64 x]) 0 rfl rfl rfl (by kernel_rfl) rfl (Nat.le_of_ble_eq_true rfl) ?_
    refine zj (fun w' hw => ?_)
    have hS := hw.sel [] rfl (by decide)
    refine ⟨hS, ?_⟩
    refine x7 (by kernel_rfl) ?_
    refine (?_ : C _ _ _ _ _ _ _ (Own w (xZ [Res.row o 237 [.int .u64 x]]) [Res.row o 237 [.int .u64 (xs1 x)]])) _ hw
    refine zL ?_
    refine zg [] rfl (by decide) (by kernel_rfl) (fun w' hw hS => ?_)
    refine zy 0 rfl (by kernel_rfl) (by kernel_rfl) (by kernel_rfl) (zQ) rfl hS ?_
    refine zy 1 rfl (by kernel_rfl) (by kernel_rfl) (by kernel_rfl) (z7 rfl) rfl hS ?_
    refine zy 3 rfl (by kernel_rfl) (by kernel_rfl) (by kernel_rfl) (zQ) rfl hS ?_
    refine zy 4 rfl (by kernel_rfl) (by kernel_rfl) (by kernel_rfl) (z7 rfl) rfl hS ?_
    refine jD (i := 2) (j := 5) (by kernel_rfl) ?_ ?_
    ·
      refine zX 2 rfl hw ?_
      refine y6 0 (v := .int .u64 (xs1 x)) rfl rfl rfl (by kernel_rfl) rfl ?_
      refine zj (fun w' hw => ?_)
      have hS := hw.sel [] rfl (by decide)
      refine ⟨hS, ?_⟩
      refine xO 5 (by kernel_rfl) rfl hw ?_
      refine y6 0 (v := .int .u64 (xs1 x)) rfl rfl rfl (by kernel_rfl) rfl ?_
      refine zj (fun w' hw => ?_)
      have hS := hw.sel [] rfl (by decide)
      refine ⟨hS, ?_⟩
      refine zy 6 rfl (by kernel_rfl) (by kernel_rfl) (by kernel_rfl) (zGO (c := zHm (xs1 x) 7) rfl rfl (by decide) rfl) rfl hS ?_
      refine zy 7 rfl (by kernel_rfl) (by kernel_rfl) (by kernel_rfl) (jJ (c := jT x) rfl rfl rfl) rfl hS ?_
      refine zy 8 rfl (by kernel_rfl) (by kernel_rfl) (by kernel_rfl) (z7 rfl) rfl hS ?_
      refine xO 9 (by kernel_rfl) rfl hw ?_
      refine zAw (cs := [.int .u64 (xs1 x)]) 0 rfl rfl rfl (by kernel_rfl) rfl (Nat.le_of_ble_eq_true rfl) ?_
      refine zj (fun w' hw => ?_)
      have hS := hw.sel [] rfl (by decide)
      refine ⟨hS, ?_⟩
      refine x7 (by kernel_rfl) ?_
      refine (?_ : C _ _ _ _ _ _ _ (Own w (xZ [Res.row o 237 [.int .u64 x]]) [Res.row o 237 [.int .u64 (jT x)]])) _ hw
      refine zL ?_
      refine zg [] rfl (by decide) (by kernel_rfl) (fun w' hw hS => ?_)
      refine zy 0 rfl (by kernel_rfl) (by kernel_rfl) (by kernel_rfl) (zQ) rfl hS ?_
      refine zy 1 rfl (by kernel_rfl) (by kernel_rfl) (by kernel_rfl) (z7 rfl) rfl hS ?_
      refine zy 3 rfl (by kernel_rfl) (by kernel_rfl) (by kernel_rfl) (zQ) rfl hS ?_
      refine zy 4 rfl (by kernel_rfl) (by kernel_rfl) (by kernel_rfl) (z7 rfl) rfl hS ?_
      refine jD (i := 2) (j := 5) (by kernel_rfl) ?_ ?_
      ·
        refine zX 2 rfl hw ?_
        refine y6 0 (v := .int .u64 (jT x)) rfl rfl rfl (by kernel_rfl) rfl ?_
        refine zj (fun w' hw => ?_)
        have hS := hw.sel [] rfl (by decide)
        refine ⟨hS, ?_⟩
        refine xO 5 (by kernel_rfl) rfl hw ?_
        refine y6 0 (v := .int .u64 (jT x)) rfl rfl rfl (by kernel_rfl) rfl ?_
        refine zj (fun w' hw => ?_)
        have hS := hw.sel [] rfl (by decide)
        refine ⟨hS, ?_⟩
        refine zy 6 rfl (by kernel_rfl) (by kernel_rfl) (by kernel_rfl) (zAi (c := zBz (jT x) 17) rfl rfl (by decide) rfl) rfl hS ?_
        refine zy 7 rfl (by kernel_rfl) (by kernel_rfl) (by kernel_rfl) (jJ (c := jh x) rfl rfl rfl) rfl hS ?_
        refine zy 8 rfl (by kernel_rfl) (by kernel_rfl) (by kernel_rfl) (z7 rfl) rfl hS ?_
        refine xO 9 (by kernel_rfl) rfl hw ?_
        refine zAw (cs := [.int .u64 (jT x)]) 0 rfl rfl rfl (by kernel_rfl) rfl (Nat.le_of_ble_eq_true rfl) ?_
        refine zj (fun w' hw => ?_)
        have hS := hw.sel [] rfl (by decide)
        refine ⟨hS, ?_⟩
        refine x7 (by kernel_rfl) ?_
        refine (?_ : C _ _ _ _ _ _ _ (Own w (xZ [Res.row o 237 [.int .u64 x]]) [Res.row o 237 [.int .u64 (jh x)]])) _ hw
        refine zB ?_
        refine zC rfl ?_
        refine zm rfl rfl ?_
        refine y6 0 (v := .int .u64 (jh x)) rfl rfl rfl (by kernel_rfl) rfl ?_
        refine zD rfl ?_
        refine zA ?_
        exact zM (z6 (v := .int .u64 (jh x)) rfl rfl (fun w' hw => ⟨jh x, rfl, hw⟩))
      ·
        refine zX 5 rfl hw ?_
        refine y6 0 (v := .int .u64 (jT x)) rfl rfl rfl (by kernel_rfl) rfl ?_
        refine zj (fun w' hw => ?_)
        have hS := hw.sel [] rfl (by decide)
        refine ⟨hS, ?_⟩
        refine zy 6 rfl (by kernel_rfl) (by kernel_rfl) (by kernel_rfl) (zAi (c := zBz (jT x) 17) rfl rfl (by decide) rfl) rfl hS ?_
        refine xO 2 (by kernel_rfl) rfl hw ?_
        refine y6 0 (v := .int .u64 (jT x)) rfl rfl rfl (by kernel_rfl) rfl ?_
        refine zj (fun w' hw => ?_)
        have hS := hw.sel [] rfl (by decide)
        refine ⟨hS, ?_⟩
        refine zy 7 rfl (by kernel_rfl) (by kernel_rfl) (by kernel_rfl) (jJ (c := jh x) rfl rfl rfl) rfl hS ?_
        refine zy 8 rfl (by kernel_rfl) (by kernel_rfl) (by kernel_rfl) (z7 rfl) rfl hS ?_
        refine xO 9 (by kernel_rfl) rfl hw ?_
        refine zAw (cs := [.int .u64 (jT x)]) 0 rfl rfl rfl (by kernel_rfl) rfl (Nat.le_of_ble_eq_true rfl) ?_
        refine zj (fun w' hw => ?_)
        have hS := hw.sel [] rfl (by decide)
        refine ⟨hS, ?_⟩
        refine x7 (by kernel_rfl) ?_
        refine (?_ : C _ _ _ _ _ _ _ (Own w (xZ [Res.row o 237 [.int .u64 x]]) [Res.row o 237 [.int .u64 (jh x)]])) _ hw
        refine zB ?_
        refine zC rfl ?_
        refine zm rfl rfl ?_
        refine y6 0 (v := .int .u64 (jh x)) rfl rfl rfl (by kernel_rfl) rfl ?_
        refine zD rfl ?_
        refine zA ?_
        exact zM (z6 (v := .int .u64 (jh x)) rfl rfl (fun w' hw => ⟨jh x, rfl, hw⟩))
    ·
      refine zX 5 rfl hw ?_
      refine y6 0 (v := .int .u64 (xs1 x)) rfl rfl rfl (by kernel_rfl) rfl ?_
      refine zj (fun w' hw => ?_)
      have hS := hw.sel [] rfl (by decide)
      refine ⟨hS, ?_⟩
      refine zy 6 rfl (by kernel_rfl) (by kernel_rfl) (by kernel_rfl) (zGO (c := zHm (xs1 x) 7) rfl rfl (by decide) rfl) rfl hS ?_
      refine xO 2 (by kernel_rfl) rfl hw ?_
      refine y6 0 (v := .int .u64 (xs1 x)) rfl rfl rfl (by kernel_rfl) rfl ?_
      refine zj (fun w' hw => ?_)
      have hS := hw.sel [] rfl (by decide)
      refine ⟨hS, ?_⟩
      refine zy 7 rfl (by kernel_rfl) (by kernel_rfl) (by kernel_rfl) (jJ (c := jT x) rfl rfl rfl) rfl hS ?_
      refine zy 8 rfl (by kernel_rfl) (by kernel_rfl) (by kernel_rfl) (z7 rfl) rfl hS ?_
      refine xO 9 (by kernel_rfl) rfl hw ?_
      refine zAw (cs := [.int .u64 (xs1 x)]) 0 rfl rfl rfl (by kernel_rfl) rfl (Nat.le_of_ble_eq_true rfl) ?_
      refine zj (fun w' hw => ?_)
      have hS := hw.sel [] rfl (by decide)
      refine ⟨hS, ?_⟩
      refine x7 (by kernel_rfl) ?_
      refine (?_ : C _ _ _ _ _ _ _ (Own w (xZ [Res.row o 237 [.int .u64 x]]) [Res.row o 237 [.int .u64 (jT x)]])) _ hw
      refine zL ?_
      refine zg [] rfl (by decide) (by kernel_rfl) (fun w' hw hS => ?_)
      refine zy 0 rfl (by kernel_rfl) (by kernel_rfl) (by kernel_rfl) (zQ) rfl hS ?_
      refine zy 1 rfl (by kernel_rfl) (by kernel_rfl) (by kernel_rfl) (z7 rfl) rfl hS ?_
      refine zy 3 rfl (by kernel_rfl) (by kernel_rfl) (by kernel_rfl) (zQ) rfl hS ?_
      refine zy 4 rfl (by kernel_rfl) (by kernel_rfl) (by kernel_rfl) (z7 rfl) rfl hS ?_
      refine jD (i := 2) (j := 5) (by kernel_rfl) ?_ ?_
      ·
        refine zX 2 rfl hw ?_
        refine y6 0 (v := .int .u64 (jT x)) rfl rfl rfl (by kernel_rfl) rfl ?_
        refine zj (fun w' hw => ?_)
        have hS := hw.sel [] rfl (by decide)
        refine ⟨hS, ?_⟩
        refine xO 5 (by kernel_rfl) rfl hw ?_
        refine y6 0 (v := .int .u64 (jT x)) rfl rfl rfl (by kernel_rfl) rfl ?_
        refine zj (fun w' hw => ?_)
        have hS := hw.sel [] rfl (by decide)
        refine ⟨hS, ?_⟩
        refine zy 6 rfl (by kernel_rfl) (by kernel_rfl) (by kernel_rfl) (zAi (c := zBz (jT x) 17) rfl rfl (by decide) rfl) rfl hS ?_
        refine zy 7 rfl (by kernel_rfl) (by kernel_rfl) (by kernel_rfl) (jJ (c := jh x) rfl rfl rfl) rfl hS ?_
        refine zy 8 rfl (by kernel_rfl) (by kernel_rfl) (by kernel_rfl) (z7 rfl) rfl hS ?_
        refine xO 9 (by kernel_rfl) rfl hw ?_
        refine zAw (cs := [.int .u64 (jT x)]) 0 rfl rfl rfl (by kernel_rfl) rfl (Nat.le_of_ble_eq_true rfl) ?_
        refine zj (fun w' hw => ?_)
        have hS := hw.sel [] rfl (by decide)
        refine ⟨hS, ?_⟩
        refine x7 (by kernel_rfl) ?_
        refine (?_ : C _ _ _ _ _ _ _ (Own w (xZ [Res.row o 237 [.int .u64 x]]) [Res.row o 237 [.int .u64 (jh x)]])) _ hw
        refine zB ?_
        refine zC rfl ?_
        refine zm rfl rfl ?_
        refine y6 0 (v := .int .u64 (jh x)) rfl rfl rfl (by kernel_rfl) rfl ?_
        refine zD rfl ?_
        refine zA ?_
        exact zM (z6 (v := .int .u64 (jh x)) rfl rfl (fun w' hw => ⟨jh x, rfl, hw⟩))
      ·
        refine zX 5 rfl hw ?_
        refine y6 0 (v := .int .u64 (jT x)) rfl rfl rfl (by kernel_rfl) rfl ?_
        refine zj (fun w' hw => ?_)
        have hS := hw.sel [] rfl (by decide)
        refine ⟨hS, ?_⟩
        refine zy 6 rfl (by kernel_rfl) (by kernel_rfl) (by kernel_rfl) (zAi (c := zBz (jT x) 17) rfl rfl (by decide) rfl) rfl hS ?_
        refine xO 2 (by kernel_rfl) rfl hw ?_
        refine y6 0 (v := .int .u64 (jT x)) rfl rfl rfl (by kernel_rfl) rfl ?_
        refine zj (fun w' hw => ?_)
        have hS := hw.sel [] rfl (by decide)
        refine ⟨hS, ?_⟩
        refine zy 7 rfl (by kernel_rfl) (by kernel_rfl) (by kernel_rfl) (jJ (c := jh x) rfl rfl rfl) rfl hS ?_
        refine zy 8 rfl (by kernel_rfl) (by kernel_rfl) (by kernel_rfl) (z7 rfl) rfl hS ?_
        refine xO 9 (by kernel_rfl) rfl hw ?_
        refine zAw (cs := [.int .u64 (jT x)]) 0 rfl rfl rfl (by kernel_rfl) rfl (Nat.le_of_ble_eq_true rfl) ?_
        refine zj (fun w' hw => ?_)
        have hS := hw.sel [] rfl (by decide)
        refine ⟨hS, ?_⟩
        refine x7 (by kernel_rfl) ?_
        refine (?_ : C _ _ _ _ _ _ _ (Own w (xZ [Res.row o 237 [.int .u64 x]]) [Res.row o 237 [.int .u64 (jh x)]])) _ hw
        refine zB ?_
        refine zC rfl ?_
        refine zm rfl rfl ?_
        refine y6 0 (v := .int .u64 (jh x)) rfl rfl rfl (by kernel_rfl) rfl ?_
        refine zD rfl ?_
        refine zA ?_
        exact zM (z6 (v := .int .u64 (jh x)) rfl rfl (fun w' hw => ⟨jh x, rfl, hw⟩))
end Go.Proofs.YthincafbmpialaaGreat
