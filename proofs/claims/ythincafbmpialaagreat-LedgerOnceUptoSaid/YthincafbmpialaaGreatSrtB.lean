/-
  THE WALKS OF the library's sort: what is alike for all lists.
-/
import Derived.Test.YthincafbmpialaaGreatSrt
import Derived.Test.YthincafbmpialaaGreatFwU
import Derived.Test.YthincafbmpialaaGreatCodec
import Derived.Test.YthincafbmpialaaGreatChecked
set_option linter.unusedVariables false
set_option maxRecDepth 10000
namespace Go.Proofs.YthincafbmpialaaGreat
open Go Go.Sc Go.Proofs

theorem vi {a b : Int} (h : a = b) : Value.int .i64 a = Value.int .i64 b := by rw [h]
theorem wsi {a b : Nat} (h : b ≤ a) (h2 : a < 9223372036854775808) : IntKind.i64.wrap ((a : Int) - (b : Int)) = ((a - b : Nat) : Int) := by
  rw [show (a : Int) - (b : Int) = ((a - b : Nat) : Int) by omega]; exact wi64 (by omega)
theorem wsi1 {a : Nat} (h : 1 ≤ a) (h2 : a < 9223372036854775808) : IntKind.i64.wrap ((a : Int) - 1) = ((a - 1 : Nat) : Int) := wsi (b := 1) h h2
theorem qui {a b : Nat} (h : a < 9223372036854775808) : IntKind.i64.wrap ((a : Int).tdiv (b : Int)) = ((a / b : Nat) : Int) := by
  have : (a : Int).tdiv (b : Int) = ((a / b : Nat) : Int) := rfl
  rw [this]
  have h2 := Nat.div_le_self a b
  generalize a / b = c at h2 ⊢
  exact wi64 (by omega)
theorem max_hi {α : Type} [Inhabited α] [SO α] {m : List α} {f r hi : Nat} (h : olt (nth m (f + (2 * r + 1))) (nth m (f + (2 * r + 1) + 1))) : ∀ c', c' = 2 * r + 1 ∨ c' = 2 * r + 2 → c' < hi → ole (nth m (f + c')) (nth m (f + (2 * r + 1 + 1))) := by
  intro c' h1 _
  rw [show f + (2 * r + 1) + 1 = f + (2 * r + 1 + 1) by omega] at h
  rcases h1 with rfl | rfl
  · exact ole_of_olt h
  · exact ole_refl _
theorem max_lo {α : Type} [Inhabited α] [SO α] {m : List α} {f r hi : Nat} (h : 2 * r + 1 + 1 < hi → ¬ olt (nth m (f + (2 * r + 1))) (nth m (f + (2 * r + 1) + 1))) : ∀ c', c' = 2 * r + 1 ∨ c' = 2 * r + 2 → c' < hi → ole (nth m (f + c')) (nth m (f + (2 * r + 1))) := by
  intro c' h1 h2
  rcases h1 with rfl | rfl
  · exact ole_refl _
  · have := h (by omega)
    rw [show f + (2 * r + 1) + 1 = f + (2 * r + 2) by omega] at this
    exact this
def xorI (a b : Int) : Int := IntKind.u64.wrap (((a % 2 ^ IntKind.u64.bits).toNat ^^^ (b % 2 ^ IntKind.u64.bits).toNat : Nat) : Int)
def shlI (a b : Int) : Int := IntKind.u64.wrap (a * 2 ^ (min b.toNat IntKind.u64.bits))
def shrI (a b : Int) : Int := a.fdiv (2 ^ (min b.toNat IntKind.u64.bits))
def xs1 (x : Int) : Int := xorI x (shlI x 13)
def xs2 (x : Int) : Int := xorI (xs1 x) (shrI (xs1 x) 7)
def xs3 (x : Int) : Int := xorI (xs2 x) (shlI (xs2 x) 17)
theorem bitLen_small {n : Nat} (h : n ≤ 1000000000000) : bitLen n ≤ 40 := bitLen_le_of_lt (by have : (2 : Nat) ^ 40 = 1099511627776 := rfl; omega)
theorem shl_pow {n : Nat} (h : n ≤ 1000000000000) : IntKind.u64.wrap ((1 : Int) * 2 ^ (min ((bitLen n : Nat) : Int).toNat IntKind.u64.bits)) = ((2 ^ bitLen n : Nat) : Int) := by
  have h1 := bitLen_small h
  have e : min ((bitLen n : Nat) : Int).toNat IntKind.u64.bits = bitLen n := by
    rw [Int.toNat_natCast]; show min _ 64 = _; omega
  have h2 : 2 ^ bitLen n ≤ 2 ^ 40 := Nat.pow_le_pow_right (by decide) h1
  have h3 : (2 : Nat) ^ 40 = 1099511627776 := rfl
  rw [e, Int.one_mul, show ((2 : Int) ^ bitLen n) = ((2 ^ bitLen n : Nat) : Int) by rw [Int.natCast_pow]; rfl]
  generalize 2 ^ bitLen n = z at h2 ⊢
  exact wu64 (by omega)
/-- The next power of two is no more than twice as much. -/
theorem pow_le {n : Nat} (h : 0 < n) : 2 ^ bitLen n ≤ 2 * n ∧ 0 < 2 ^ bitLen n := by
  have h1 := bitLen_le h
  have h2 := bitLen_pos h
  refine ⟨?_, Nat.pow_pos (by decide)⟩
  rw [show bitLen n = (bitLen n - 1) + 1 by omega, Nat.pow_succ]
  omega
theorem and_lt {y : Int} {m : Nat} (h : 0 < m) (hm : m ≤ 4000000000000) : ((y % 18446744073709551616).toNat &&& (m - 1)) < m := by
  have := Nat.and_le_right (n := (y % 18446744073709551616).toNat) (m := m - 1)
  omega
theorem and_wrap {y : Int} {m : Nat} (h : 0 < m) (hm : m ≤ 4000000000000) : IntKind.u64.wrap (((y % 2 ^ IntKind.u64.bits).toNat &&& (((m - 1 : Nat) : Int) % 2 ^ IntKind.u64.bits).toNat : Nat) : Int) = (((y % 18446744073709551616).toNat &&& (m - 1) : Nat) : Int) := by
  have e : ((((m - 1 : Nat) : Int)) % 2 ^ IntKind.u64.bits).toNat = m - 1 := by
    show ((((m - 1 : Nat) : Int)) % 18446744073709551616).toNat = m - 1
    omega
  have e2 : (y % 2 ^ IntKind.u64.bits).toNat = (y % 18446744073709551616).toNat := rfl
  rw [e, e2]
  have := and_lt (y := y) h hm
  exact wu64 (by omega)
theorem len64_s (n : Nat) (w : World) (hn : n < 18446744073709551616) : Rets Tryz.prog 80 #[.int .u64 (n : Nat)] w fun u_ w' => u_ = .int .i64 ((bitLen n) : Nat) ∧ Own w [] [] w' := by
  exact len64_spec n hn w
theorem len_s (n : Nat) (w : World) (hn : n < 18446744073709551616) : Rets Tryz.prog 128 #[.int .u64 (n : Nat)] w fun u_ w' => u_ = .int .i64 ((bitLen n) : Nat) ∧ Own w [] [] w' := by
  refine fn_enter (args := [.int .u64 (n : Nat)]) Tryz.func128 rfl Tryz.ntmps128 rfl (Own.start w) ?_
  refine c_reg ?_
  refine l_as rfl ?_
  refine l_end ?_
  refine c_seq ?_
  refine c_no rfl ?_
  refine c_skipC ?_
  refine c_reg ?_
  refine l_mv rfl ?_
  refine l_call (by kernel_rfl) rfl rfl (fun w' hw => ?_)
  refine (len64_s n w' (by first | assumption | omega | (simp <;> omega) | (constructor <;> (first | omega | (simp only [LenOk]; omega) | (simp <;> omega))))).mono ?_
  rintro _ w1 ⟨rfl, hO⟩
  refine (?_ : CL _ _ _ _ _ _ (Own w [] [])) w1 (hw.frame0 hO)
  refine l_as rfl ?_
  refine l_end ?_
  exact c_ret (ret1 (v := .int .i64 ((bitLen n) : Nat)) rfl rfl (fun w' hw => ⟨rfl, hw.drop⟩))
theorem np2_s (n : Nat) (w : World) (hn : n ≤ 1000000000000) : Rets Tryz.prog 183 #[.int .i64 (n : Nat)] w fun u_ w' => u_ = .int .u64 ((2 ^ bitLen n) : Nat) ∧ Own w [] [] w' := by
  refine fn_enter (args := [.int .i64 (n : Nat)]) Tryz.func183 rfl Tryz.ntmps183 rfl (Own.start w) ?_
  refine c_reg ?_
  refine l_as rfl ?_
  refine l_end ?_
  refine c_reg ?_
  refine l_mv rfl ?_
  refine l_cvt (by kernel_rfl) rfl (wu64 (by omega)) rfl ?_ (by kernel_rfl)
  refine l_call (by kernel_rfl) rfl rfl (fun w' hw => ?_)
  refine (len_s n w' (by first | assumption | omega | (simp <;> omega) | (constructor <;> (first | omega | (simp only [LenOk]; omega) | (simp <;> omega))))).mono ?_
  rintro _ w1 ⟨rfl, hO⟩
  refine (?_ : CL _ _ _ _ _ _ (Own w [] [])) w1 (hw.frame0 hO)
  refine l_shl (c := ((2 ^ bitLen n : Nat) : Int)) rfl rfl (by omega) (shl_pow hn) rfl ?_
  refine l_as rfl ?_
  refine l_end ?_
  exact c_ret (ret1 (v := .int .u64 (2 ^ bitLen n : Nat)) rfl rfl (fun w' hw => ⟨rfl, hw.drop⟩))
theorem next_s (o : Nat) (x : Int) (w : World) (hin : Own w (fps [Res.row o 237 [.int .u64 x]]) [Res.row o 237 [.int .u64 x]] w) : Rets Tryz.prog 184 #[.pointer (some ⟨o, 0, none⟩)] w fun u_ w' => ∃ (y : Int), u_ = .int .u64 y ∧ Own w (fps [Res.row o 237 [.int .u64 x]]) [Res.row o 237 [.int .u64 y]] w' := by
  refine fn_enter (args := [.pointer (some ⟨o, 0, none⟩)]) Tryz.func184 rfl Tryz.ntmps184 rfl (show Own w (fps [Res.row o 237 [.int .u64 x]]) [Res.row o 237 [.int .u64 x]] w from hin) ?_
  refine c_reg ?_
  refine l_as rfl ?_
  refine l_end ?_
  refine c_seq ?_
  refine c_heldo [] rfl (by decide) (by kernel_rfl) (fun w' hw hS => ?_)
  refine h_take 0 rfl (by kernel_rfl) (by kernel_rfl) (by kernel_rfl) (v_mv) rfl hS ?_
  refine h_take 1 rfl (by kernel_rfl) (by kernel_rfl) (by kernel_rfl) (v_nck rfl) rfl hS ?_
  refine h_take 3 rfl (by kernel_rfl) (by kernel_rfl) (by kernel_rfl) (v_mv) rfl hS ?_
  refine h_take 4 rfl (by kernel_rfl) (by kernel_rfl) (by kernel_rfl) (v_nck rfl) rfl hS ?_
  refine h_pick2 (i := 2) (j := 5) (by kernel_rfl) ?_ ?_
  ·
    refine pk_of 2 rfl hw ?_
    refine l_ldo 0 (v := .int .u64 x) rfl rfl rfl (by kernel_rfl) rfl ?_
    refine l_nil (fun w' hw => ?_)
    have hS := hw.sel [] rfl (by decide)
    refine ⟨hS, ?_⟩
    refine h_one 5 (by kernel_rfl) rfl hw ?_
    refine l_ldo 0 (v := .int .u64 x) rfl rfl rfl (by kernel_rfl) rfl ?_
    refine l_nil (fun w' hw => ?_)
    have hS := hw.sel [] rfl (by decide)
    refine ⟨hS, ?_⟩
    refine h_take 6 rfl (by kernel_rfl) (by kernel_rfl) (by kernel_rfl) (v_shl (c := shlI x 13) rfl rfl (by decide) rfl) rfl hS ?_
    refine h_take 7 rfl (by kernel_rfl) (by kernel_rfl) (by kernel_rfl) (v_xor (c := xs1 x) rfl rfl rfl) rfl hS ?_
    refine h_take 8 rfl (by kernel_rfl) (by kernel_rfl) (by kernel_rfl) (v_nck rfl) rfl hS ?_
    refine h_one 9 (by kernel_rfl) rfl hw ?_
    refine l_st (cs := [.int .u64 x]) 0 rfl rfl rfl (by kernel_rfl) rfl (Nat.le_of_ble_eq_true rfl) ?_
    refine l_nil (fun w' hw => ?_)
    have hS := hw.sel [] rfl (by decide)
    refine ⟨hS, ?_⟩
    refine h_done (by kernel_rfl) ?_
    refine (?_ : C _ _ _ _ _ _ _ (Own w (fps [Res.row o 237 [.int .u64 x]]) [Res.row o 237 [.int .u64 (xs1 x)]])) _ hw
    refine c_seq ?_
    refine c_heldo [] rfl (by decide) (by kernel_rfl) (fun w' hw hS => ?_)
    refine h_take 0 rfl (by kernel_rfl) (by kernel_rfl) (by kernel_rfl) (v_mv) rfl hS ?_
    refine h_take 1 rfl (by kernel_rfl) (by kernel_rfl) (by kernel_rfl) (v_nck rfl) rfl hS ?_
    refine h_take 3 rfl (by kernel_rfl) (by kernel_rfl) (by kernel_rfl) (v_mv) rfl hS ?_
    refine h_take 4 rfl (by kernel_rfl) (by kernel_rfl) (by kernel_rfl) (v_nck rfl) rfl hS ?_
    refine h_pick2 (i := 2) (j := 5) (by kernel_rfl) ?_ ?_
    ·
      refine pk_of 2 rfl hw ?_
      refine l_ldo 0 (v := .int .u64 (xs1 x)) rfl rfl rfl (by kernel_rfl) rfl ?_
      refine l_nil (fun w' hw => ?_)
      have hS := hw.sel [] rfl (by decide)
      refine ⟨hS, ?_⟩
      refine h_one 5 (by kernel_rfl) rfl hw ?_
      refine l_ldo 0 (v := .int .u64 (xs1 x)) rfl rfl rfl (by kernel_rfl) rfl ?_
      refine l_nil (fun w' hw => ?_)
      have hS := hw.sel [] rfl (by decide)
      refine ⟨hS, ?_⟩
      refine h_take 6 rfl (by kernel_rfl) (by kernel_rfl) (by kernel_rfl) (v_shr (c := shrI (xs1 x) 7) rfl rfl (by decide) rfl) rfl hS ?_
      refine h_take 7 rfl (by kernel_rfl) (by kernel_rfl) (by kernel_rfl) (v_xor (c := xs2 x) rfl rfl rfl) rfl hS ?_
      refine h_take 8 rfl (by kernel_rfl) (by kernel_rfl) (by kernel_rfl) (v_nck rfl) rfl hS ?_
      refine h_one 9 (by kernel_rfl) rfl hw ?_
      refine l_st (cs := [.int .u64 (xs1 x)]) 0 rfl rfl rfl (by kernel_rfl) rfl (Nat.le_of_ble_eq_true rfl) ?_
      refine l_nil (fun w' hw => ?_)
      have hS := hw.sel [] rfl (by decide)
      refine ⟨hS, ?_⟩
      refine h_done (by kernel_rfl) ?_
      refine (?_ : C _ _ _ _ _ _ _ (Own w (fps [Res.row o 237 [.int .u64 x]]) [Res.row o 237 [.int .u64 (xs2 x)]])) _ hw
      refine c_seq ?_
      refine c_heldo [] rfl (by decide) (by kernel_rfl) (fun w' hw hS => ?_)
      refine h_take 0 rfl (by kernel_rfl) (by kernel_rfl) (by kernel_rfl) (v_mv) rfl hS ?_
      refine h_take 1 rfl (by kernel_rfl) (by kernel_rfl) (by kernel_rfl) (v_nck rfl) rfl hS ?_
      refine h_take 3 rfl (by kernel_rfl) (by kernel_rfl) (by kernel_rfl) (v_mv) rfl hS ?_
      refine h_take 4 rfl (by kernel_rfl) (by kernel_rfl) (by kernel_rfl) (v_nck rfl) rfl hS ?_
      refine h_pick2 (i := 2) (j := 5) (by kernel_rfl) ?_ ?_
      ·
        refine pk_of 2 rfl hw ?_
        refine l_ldo 0 (v := .int .u64 (xs2 x)) rfl rfl rfl (by kernel_rfl) rfl ?_
        refine l_nil (fun w' hw => ?_)
        have hS := hw.sel [] rfl (by decide)
        refine ⟨hS, ?_⟩
        refine h_one 5 (by kernel_rfl) rfl hw ?_
        refine l_ldo 0 (v := .int .u64 (xs2 x)) rfl rfl rfl (by kernel_rfl) rfl ?_
        refine l_nil (fun w' hw => ?_)
        have hS := hw.sel [] rfl (by decide)
        refine ⟨hS, ?_⟩
        refine h_take 6 rfl (by kernel_rfl) (by kernel_rfl) (by kernel_rfl) (v_shl (c := shlI (xs2 x) 17) rfl rfl (by decide) rfl) rfl hS ?_
        refine h_take 7 rfl (by kernel_rfl) (by kernel_rfl) (by kernel_rfl) (v_xor (c := xs3 x) rfl rfl rfl) rfl hS ?_
        refine h_take 8 rfl (by kernel_rfl) (by kernel_rfl) (by kernel_rfl) (v_nck rfl) rfl hS ?_
        refine h_one 9 (by kernel_rfl) rfl hw ?_
        refine l_st (cs := [.int .u64 (xs2 x)]) 0 rfl rfl rfl (by kernel_rfl) rfl (Nat.le_of_ble_eq_true rfl) ?_
        refine l_nil (fun w' hw => ?_)
        have hS := hw.sel [] rfl (by decide)
        refine ⟨hS, ?_⟩
        refine h_done (by kernel_rfl) ?_
        refine (?_ : C _ _ _ _ _ _ _ (Own w (fps [Res.row o 237 [.int .u64 x]]) [Res.row o 237 [.int .u64 (xs3 x)]])) _ hw
        refine c_reg ?_
        refine l_mv rfl ?_
        refine l_nck rfl rfl ?_
        refine l_ldo 0 (v := .int .u64 (xs3 x)) rfl rfl rfl (by kernel_rfl) rfl ?_
        refine l_as rfl ?_
        refine l_end ?_
        exact c_ret (ret1 (v := .int .u64 (xs3 x)) rfl rfl (fun w' hw => ⟨xs3 x, rfl, hw⟩))
      ·
        refine pk_of 5 rfl hw ?_
        refine l_ldo 0 (v := .int .u64 (xs2 x)) rfl rfl rfl (by kernel_rfl) rfl ?_
        refine l_nil (fun w' hw => ?_)
        have hS := hw.sel [] rfl (by decide)
        refine ⟨hS, ?_⟩
        refine h_take 6 rfl (by kernel_rfl) (by kernel_rfl) (by kernel_rfl) (v_shl (c := shlI (xs2 x) 17) rfl rfl (by decide) rfl) rfl hS ?_
        refine h_one 2 (by kernel_rfl) rfl hw ?_
        refine l_ldo 0 (v := .int .u64 (xs2 x)) rfl rfl rfl (by kernel_rfl) rfl ?_
        refine l_nil (fun w' hw => ?_)
        have hS := hw.sel [] rfl (by decide)
        refine ⟨hS, ?_⟩
        refine h_take 7 rfl (by kernel_rfl) (by kernel_rfl) (by kernel_rfl) (v_xor (c := xs3 x) rfl rfl rfl) rfl hS ?_
        refine h_take 8 rfl (by kernel_rfl) (by kernel_rfl) (by kernel_rfl) (v_nck rfl) rfl hS ?_
        refine h_one 9 (by kernel_rfl) rfl hw ?_
        refine l_st (cs := [.int .u64 (xs2 x)]) 0 rfl rfl rfl (by kernel_rfl) rfl (Nat.le_of_ble_eq_true rfl) ?_
        refine l_nil (fun w' hw => ?_)
        have hS := hw.sel [] rfl (by decide)
        refine ⟨hS, ?_⟩
        refine h_done (by kernel_rfl) ?_
        refine (?_ : C _ _ _ _ _ _ _ (Own w (fps [Res.row o 237 [.int .u64 x]]) [Res.row o 237 [.int .u64 (xs3 x)]])) _ hw
        refine c_reg ?_
        refine l_mv rfl ?_
        refine l_nck rfl rfl ?_
        refine l_ldo 0 (v := .int .u64 (xs3 x)) rfl rfl rfl (by kernel_rfl) rfl ?_
        refine l_as rfl ?_
        refine l_end ?_
        exact c_ret (ret1 (v := .int .u64 (xs3 x)) rfl rfl (fun w' hw => ⟨xs3 x, rfl, hw⟩))
    ·
      refine pk_of 5 rfl hw ?_
      refine l_ldo 0 (v := .int .u64 (xs1 x)) rfl rfl rfl (by kernel_rfl) rfl ?_
      refine l_nil (fun w' hw => ?_)
      have hS := hw.sel [] rfl (by decide)
      refine ⟨hS, ?_⟩
      refine h_take 6 rfl (by kernel_rfl) (by kernel_rfl) (by kernel_rfl) (v_shr (c := shrI (xs1 x) 7) rfl rfl (by decide) rfl) rfl hS ?_
      refine h_one 2 (by kernel_rfl) rfl hw ?_
      refine l_ldo 0 (v := .int .u64 (xs1 x)) rfl rfl rfl (by kernel_rfl) rfl ?_
      refine l_nil (fun w' hw => ?_)
      have hS := hw.sel [] rfl (by decide)
      refine ⟨hS, ?_⟩
      refine h_take 7 rfl (by kernel_rfl) (by kernel_rfl) (by kernel_rfl) (v_xor (c := xs2 x) rfl rfl rfl) rfl hS ?_
      refine h_take 8 rfl (by kernel_rfl) (by kernel_rfl) (by kernel_rfl) (v_nck rfl) rfl hS ?_
      refine h_one 9 (by kernel_rfl) rfl hw ?_
      refine l_st (cs := [.int .u64 (xs1 x)]) 0 rfl rfl rfl (by kernel_rfl) rfl (Nat.le_of_ble_eq_true rfl) ?_
      refine l_nil (fun w' hw => ?_)
      have hS := hw.sel [] rfl (by decide)
      refine ⟨hS, ?_⟩
      refine h_done (by kernel_rfl) ?_
      refine (?_ : C _ _ _ _ _ _ _ (Own w (fps [Res.row o 237 [.int .u64 x]]) [Res.row o 237 [.int .u64 (xs2 x)]])) _ hw
      refine c_seq ?_
      refine c_heldo [] rfl (by decide) (by kernel_rfl) (fun w' hw hS => ?_)
      refine h_take 0 rfl (by kernel_rfl) (by kernel_rfl) (by kernel_rfl) (v_mv) rfl hS ?_
      refine h_take 1 rfl (by kernel_rfl) (by kernel_rfl) (by kernel_rfl) (v_nck rfl) rfl hS ?_
      refine h_take 3 rfl (by kernel_rfl) (by kernel_rfl) (by kernel_rfl) (v_mv) rfl hS ?_
      refine h_take 4 rfl (by kernel_rfl) (by kernel_rfl) (by kernel_rfl) (v_nck rfl) rfl hS ?_
      refine h_pick2 (i := 2) (j := 5) (by kernel_rfl) ?_ ?_
      ·
        refine pk_of 2 rfl hw ?_
        refine l_ldo 0 (v := .int .u64 (xs2 x)) rfl rfl rfl (by kernel_rfl) rfl ?_
        refine l_nil (fun w' hw => ?_)
        have hS := hw.sel [] rfl (by decide)
        refine ⟨hS, ?_⟩
        refine h_one 5 (by kernel_rfl) rfl hw ?_
        refine l_ldo 0 (v := .int .u64 (xs2 x)) rfl rfl rfl (by kernel_rfl) rfl ?_
        refine l_nil (fun w' hw => ?_)
        have hS := hw.sel [] rfl (by decide)
        refine ⟨hS, ?_⟩
        refine h_take 6 rfl (by kernel_rfl) (by kernel_rfl) (by kernel_rfl) (v_shl (c := shlI (xs2 x) 17) rfl rfl (by decide) rfl) rfl hS ?_
        refine h_take 7 rfl (by kernel_rfl) (by kernel_rfl) (by kernel_rfl) (v_xor (c := xs3 x) rfl rfl rfl) rfl hS ?_
        refine h_take 8 rfl (by kernel_rfl) (by kernel_rfl) (by kernel_rfl) (v_nck rfl) rfl hS ?_
        refine h_one 9 (by kernel_rfl) rfl hw ?_
        refine l_st (cs := [.int .u64 (xs2 x)]) 0 rfl rfl rfl (by kernel_rfl) rfl (Nat.le_of_ble_eq_true rfl) ?_
        refine l_nil (fun w' hw => ?_)
        have hS := hw.sel [] rfl (by decide)
        refine ⟨hS, ?_⟩
        refine h_done (by kernel_rfl) ?_
        refine (?_ : C _ _ _ _ _ _ _ (Own w (fps [Res.row o 237 [.int .u64 x]]) [Res.row o 237 [.int .u64 (xs3 x)]])) _ hw
        refine c_reg ?_
        refine l_mv rfl ?_
        refine l_nck rfl rfl ?_
        refine l_ldo 0 (v := .int .u64 (xs3 x)) rfl rfl rfl (by kernel_rfl) rfl ?_
        refine l_as rfl ?_
        refine l_end ?_
        exact c_ret (ret1 (v := .int .u64 (xs3 x)) rfl rfl (fun w' hw => ⟨xs3 x, rfl, hw⟩))
      ·
        refine pk_of 5 rfl hw ?_
        refine l_ldo 0 (v := .int .u64 (xs2 x)) rfl rfl rfl (by kernel_rfl) rfl ?_
        refine l_nil (fun w' hw => ?_)
        have hS := hw.sel [] rfl (by decide)
        refine ⟨hS, ?_⟩
        refine h_take 6 rfl (by kernel_rfl) (by kernel_rfl) (by kernel_rfl) (v_shl (c := shlI (xs2 x) 17) rfl rfl (by decide) rfl) rfl hS ?_
        refine h_one 2 (by kernel_rfl) rfl hw ?_
        refine l_ldo 0 (v := .int .u64 (xs2 x)) rfl rfl rfl (by kernel_rfl) rfl ?_
        refine l_nil (fun w' hw => ?_)
        have hS := hw.sel [] rfl (by decide)
        refine ⟨hS, ?_⟩
        refine h_take 7 rfl (by kernel_rfl) (by kernel_rfl) (by kernel_rfl) (v_xor (c := xs3 x) rfl rfl rfl) rfl hS ?_
        refine h_take 8 rfl (by kernel_rfl) (by kernel_rfl) (by kernel_rfl) (v_nck rfl) rfl hS ?_
        refine h_one 9 (by kernel_rfl) rfl hw ?_
        refine l_st (cs := [.int .u64 (xs2 x)]) 0 rfl rfl rfl (by kernel_rfl) rfl (Nat.le_of_ble_eq_true rfl) ?_
        refine l_nil (fun w' hw => ?_)
        have hS := hw.sel [] rfl (by decide)
        refine ⟨hS, ?_⟩
        refine h_done (by kernel_rfl) ?_
        refine (?_ : C _ _ _ _ _ _ _ (Own w (fps [Res.row o 237 [.int .u64 x]]) [Res.row o 237 [.int .u64 (xs3 x)]])) _ hw
        refine c_reg ?_
        refine l_mv rfl ?_
        refine l_nck rfl rfl ?_
        refine l_ldo 0 (v := .int .u64 (xs3 x)) rfl rfl rfl (by kernel_rfl) rfl ?_
        refine l_as rfl ?_
        refine l_end ?_
        exact c_ret (ret1 (v := .int .u64 (xs3 x)) rfl rfl (fun w' hw => ⟨xs3 x, rfl, hw⟩))
  ·
    refine pk_of 5 rfl hw ?_
    refine l_ldo 0 (v := .int .u64 x) rfl rfl rfl (by kernel_rfl) rfl ?_
    refine l_nil (fun w' hw => ?_)
    have hS := hw.sel [] rfl (by decide)
    refine ⟨hS, ?_⟩
    refine h_take 6 rfl (by kernel_rfl) (by kernel_rfl) (by kernel_rfl) (v_shl (c := shlI x 13) rfl rfl (by decide) rfl) rfl hS ?_
    refine h_one 2 (by kernel_rfl) rfl hw ?_
    refine l_ldo 0 (v := .int .u64 x) rfl rfl rfl (by kernel_rfl) rfl ?_
    refine l_nil (fun w' hw => ?_)
    have hS := hw.sel [] rfl (by decide)
    refine ⟨hS, ?_⟩
    refine h_take 7 rfl (by kernel_rfl) (by kernel_rfl) (by kernel_rfl) (v_xor (c := xs1 x) rfl rfl rfl) rfl hS ?_
    refine h_take 8 rfl (by kernel_rfl) (by kernel_rfl) (by kernel_rfl) (v_nck rfl) rfl hS ?_
    refine h_one 9 (by kernel_rfl) rfl hw ?_
    refine l_st (cs := [.int .u64 x]) 0 rfl rfl rfl (by kernel_rfl) rfl (Nat.le_of_ble_eq_true rfl) ?_
    refine l_nil (fun w' hw => ?_)
    have hS := hw.sel [] rfl (by decide)
    refine ⟨hS, ?_⟩
    refine h_done (by kernel_rfl) ?_
    refine (?_ : C _ _ _ _ _ _ _ (Own w (fps [Res.row o 237 [.int .u64 x]]) [Res.row o 237 [.int .u64 (xs1 x)]])) _ hw
    refine c_seq ?_
    refine c_heldo [] rfl (by decide) (by kernel_rfl) (fun w' hw hS => ?_)
    refine h_take 0 rfl (by kernel_rfl) (by kernel_rfl) (by kernel_rfl) (v_mv) rfl hS ?_
    refine h_take 1 rfl (by kernel_rfl) (by kernel_rfl) (by kernel_rfl) (v_nck rfl) rfl hS ?_
    refine h_take 3 rfl (by kernel_rfl) (by kernel_rfl) (by kernel_rfl) (v_mv) rfl hS ?_
    refine h_take 4 rfl (by kernel_rfl) (by kernel_rfl) (by kernel_rfl) (v_nck rfl) rfl hS ?_
    refine h_pick2 (i := 2) (j := 5) (by kernel_rfl) ?_ ?_
    ·
      refine pk_of 2 rfl hw ?_
      refine l_ldo 0 (v := .int .u64 (xs1 x)) rfl rfl rfl (by kernel_rfl) rfl ?_
      refine l_nil (fun w' hw => ?_)
      have hS := hw.sel [] rfl (by decide)
      refine ⟨hS, ?_⟩
      refine h_one 5 (by kernel_rfl) rfl hw ?_
      refine l_ldo 0 (v := .int .u64 (xs1 x)) rfl rfl rfl (by kernel_rfl) rfl ?_
      refine l_nil (fun w' hw => ?_)
      have hS := hw.sel [] rfl (by decide)
      refine ⟨hS, ?_⟩
      refine h_take 6 rfl (by kernel_rfl) (by kernel_rfl) (by kernel_rfl) (v_shr (c := shrI (xs1 x) 7) rfl rfl (by decide) rfl) rfl hS ?_
      refine h_take 7 rfl (by kernel_rfl) (by kernel_rfl) (by kernel_rfl) (v_xor (c := xs2 x) rfl rfl rfl) rfl hS ?_
      refine h_take 8 rfl (by kernel_rfl) (by kernel_rfl) (by kernel_rfl) (v_nck rfl) rfl hS ?_
      refine h_one 9 (by kernel_rfl) rfl hw ?_
      refine l_st (cs := [.int .u64 (xs1 x)]) 0 rfl rfl rfl (by kernel_rfl) rfl (Nat.le_of_ble_eq_true rfl) ?_
      refine l_nil (fun w' hw => ?_)
      have hS := hw.sel [] rfl (by decide)
      refine ⟨hS, ?_⟩
      refine h_done (by kernel_rfl) ?_
      refine (?_ : C _ _ _ _ _ _ _ (Own w (fps [Res.row o 237 [.int .u64 x]]) [Res.row o 237 [.int .u64 (xs2 x)]])) _ hw
      refine c_seq ?_
      refine c_heldo [] rfl (by decide) (by kernel_rfl) (fun w' hw hS => ?_)
      refine h_take 0 rfl (by kernel_rfl) (by kernel_rfl) (by kernel_rfl) (v_mv) rfl hS ?_
      refine h_take 1 rfl (by kernel_rfl) (by kernel_rfl) (by kernel_rfl) (v_nck rfl) rfl hS ?_
      refine h_take 3 rfl (by kernel_rfl) (by kernel_rfl) (by kernel_rfl) (v_mv) rfl hS ?_
      refine h_take 4 rfl (by kernel_rfl) (by kernel_rfl) (by kernel_rfl) (v_nck rfl) rfl hS ?_
      refine h_pick2 (i := 2) (j := 5) (by kernel_rfl) ?_ ?_
      ·
        refine pk_of 2 rfl hw ?_
        refine l_ldo 0 (v := .int .u64 (xs2 x)) rfl rfl rfl (by kernel_rfl) rfl ?_
        refine l_nil (fun w' hw => ?_)
        have hS := hw.sel [] rfl (by decide)
        refine ⟨hS, ?_⟩
        refine h_one 5 (by kernel_rfl) rfl hw ?_
        refine l_ldo 0 (v := .int .u64 (xs2 x)) rfl rfl rfl (by kernel_rfl) rfl ?_
        refine l_nil (fun w' hw => ?_)
        have hS := hw.sel [] rfl (by decide)
        refine ⟨hS, ?_⟩
        refine h_take 6 rfl (by kernel_rfl) (by kernel_rfl) (by kernel_rfl) (v_shl (c := shlI (xs2 x) 17) rfl rfl (by decide) rfl) rfl hS ?_
        refine h_take 7 rfl (by kernel_rfl) (by kernel_rfl) (by kernel_rfl) (v_xor (c := xs3 x) rfl rfl rfl) rfl hS ?_
        refine h_take 8 rfl (by kernel_rfl) (by kernel_rfl) (by kernel_rfl) (v_nck rfl) rfl hS ?_
        refine h_one 9 (by kernel_rfl) rfl hw ?_
        refine l_st (cs := [.int .u64 (xs2 x)]) 0 rfl rfl rfl (by kernel_rfl) rfl (Nat.le_of_ble_eq_true rfl) ?_
        refine l_nil (fun w' hw => ?_)
        have hS := hw.sel [] rfl (by decide)
        refine ⟨hS, ?_⟩
        refine h_done (by kernel_rfl) ?_
        refine (?_ : C _ _ _ _ _ _ _ (Own w (fps [Res.row o 237 [.int .u64 x]]) [Res.row o 237 [.int .u64 (xs3 x)]])) _ hw
        refine c_reg ?_
        refine l_mv rfl ?_
        refine l_nck rfl rfl ?_
        refine l_ldo 0 (v := .int .u64 (xs3 x)) rfl rfl rfl (by kernel_rfl) rfl ?_
        refine l_as rfl ?_
        refine l_end ?_
        exact c_ret (ret1 (v := .int .u64 (xs3 x)) rfl rfl (fun w' hw => ⟨xs3 x, rfl, hw⟩))
      ·
        refine pk_of 5 rfl hw ?_
        refine l_ldo 0 (v := .int .u64 (xs2 x)) rfl rfl rfl (by kernel_rfl) rfl ?_
        refine l_nil (fun w' hw => ?_)
        have hS := hw.sel [] rfl (by decide)
        refine ⟨hS, ?_⟩
        refine h_take 6 rfl (by kernel_rfl) (by kernel_rfl) (by kernel_rfl) (v_shl (c := shlI (xs2 x) 17) rfl rfl (by decide) rfl) rfl hS ?_
        refine h_one 2 (by kernel_rfl) rfl hw ?_
        refine l_ldo 0 (v := .int .u64 (xs2 x)) rfl rfl rfl (by kernel_rfl) rfl ?_
        refine l_nil (fun w' hw => ?_)
        have hS := hw.sel [] rfl (by decide)
        refine ⟨hS, ?_⟩
        refine h_take 7 rfl (by kernel_rfl) (by kernel_rfl) (by kernel_rfl) (v_xor (c := xs3 x) rfl rfl rfl) rfl hS ?_
        refine h_take 8 rfl (by kernel_rfl) (by kernel_rfl) (by kernel_rfl) (v_nck rfl) rfl hS ?_
        refine h_one 9 (by kernel_rfl) rfl hw ?_
        refine l_st (cs := [.int .u64 (xs2 x)]) 0 rfl rfl rfl (by kernel_rfl) rfl (Nat.le_of_ble_eq_true rfl) ?_
        refine l_nil (fun w' hw => ?_)
        have hS := hw.sel [] rfl (by decide)
        refine ⟨hS, ?_⟩
        refine h_done (by kernel_rfl) ?_
        refine (?_ : C _ _ _ _ _ _ _ (Own w (fps [Res.row o 237 [.int .u64 x]]) [Res.row o 237 [.int .u64 (xs3 x)]])) _ hw
        refine c_reg ?_
        refine l_mv rfl ?_
        refine l_nck rfl rfl ?_
        refine l_ldo 0 (v := .int .u64 (xs3 x)) rfl rfl rfl (by kernel_rfl) rfl ?_
        refine l_as rfl ?_
        refine l_end ?_
        exact c_ret (ret1 (v := .int .u64 (xs3 x)) rfl rfl (fun w' hw => ⟨xs3 x, rfl, hw⟩))
    ·
      refine pk_of 5 rfl hw ?_
      refine l_ldo 0 (v := .int .u64 (xs1 x)) rfl rfl rfl (by kernel_rfl) rfl ?_
      refine l_nil (fun w' hw => ?_)
      have hS := hw.sel [] rfl (by decide)
      refine ⟨hS, ?_⟩
      refine h_take 6 rfl (by kernel_rfl) (by kernel_rfl) (by kernel_rfl) (v_shr (c := shrI (xs1 x) 7) rfl rfl (by decide) rfl) rfl hS ?_
      refine h_one 2 (by kernel_rfl) rfl hw ?_
      refine l_ldo 0 (v := .int .u64 (xs1 x)) rfl rfl rfl (by kernel_rfl) rfl ?_
      refine l_nil (fun w' hw => ?_)
      have hS := hw.sel [] rfl (by decide)
      refine ⟨hS, ?_⟩
      refine h_take 7 rfl (by kernel_rfl) (by kernel_rfl) (by kernel_rfl) (v_xor (c := xs2 x) rfl rfl rfl) rfl hS ?_
      refine h_take 8 rfl (by kernel_rfl) (by kernel_rfl) (by kernel_rfl) (v_nck rfl) rfl hS ?_
      refine h_one 9 (by kernel_rfl) rfl hw ?_
      refine l_st (cs := [.int .u64 (xs1 x)]) 0 rfl rfl rfl (by kernel_rfl) rfl (Nat.le_of_ble_eq_true rfl) ?_
      refine l_nil (fun w' hw => ?_)
      have hS := hw.sel [] rfl (by decide)
      refine ⟨hS, ?_⟩
      refine h_done (by kernel_rfl) ?_
      refine (?_ : C _ _ _ _ _ _ _ (Own w (fps [Res.row o 237 [.int .u64 x]]) [Res.row o 237 [.int .u64 (xs2 x)]])) _ hw
      refine c_seq ?_
      refine c_heldo [] rfl (by decide) (by kernel_rfl) (fun w' hw hS => ?_)
      refine h_take 0 rfl (by kernel_rfl) (by kernel_rfl) (by kernel_rfl) (v_mv) rfl hS ?_
      refine h_take 1 rfl (by kernel_rfl) (by kernel_rfl) (by kernel_rfl) (v_nck rfl) rfl hS ?_
      refine h_take 3 rfl (by kernel_rfl) (by kernel_rfl) (by kernel_rfl) (v_mv) rfl hS ?_
      refine h_take 4 rfl (by kernel_rfl) (by kernel_rfl) (by kernel_rfl) (v_nck rfl) rfl hS ?_
      refine h_pick2 (i := 2) (j := 5) (by kernel_rfl) ?_ ?_
      ·
        refine pk_of 2 rfl hw ?_
        refine l_ldo 0 (v := .int .u64 (xs2 x)) rfl rfl rfl (by kernel_rfl) rfl ?_
        refine l_nil (fun w' hw => ?_)
        have hS := hw.sel [] rfl (by decide)
        refine ⟨hS, ?_⟩
        refine h_one 5 (by kernel_rfl) rfl hw ?_
        refine l_ldo 0 (v := .int .u64 (xs2 x)) rfl rfl rfl (by kernel_rfl) rfl ?_
        refine l_nil (fun w' hw => ?_)
        have hS := hw.sel [] rfl (by decide)
        refine ⟨hS, ?_⟩
        refine h_take 6 rfl (by kernel_rfl) (by kernel_rfl) (by kernel_rfl) (v_shl (c := shlI (xs2 x) 17) rfl rfl (by decide) rfl) rfl hS ?_
        refine h_take 7 rfl (by kernel_rfl) (by kernel_rfl) (by kernel_rfl) (v_xor (c := xs3 x) rfl rfl rfl) rfl hS ?_
        refine h_take 8 rfl (by kernel_rfl) (by kernel_rfl) (by kernel_rfl) (v_nck rfl) rfl hS ?_
        refine h_one 9 (by kernel_rfl) rfl hw ?_
        refine l_st (cs := [.int .u64 (xs2 x)]) 0 rfl rfl rfl (by kernel_rfl) rfl (Nat.le_of_ble_eq_true rfl) ?_
        refine l_nil (fun w' hw => ?_)
        have hS := hw.sel [] rfl (by decide)
        refine ⟨hS, ?_⟩
        refine h_done (by kernel_rfl) ?_
        refine (?_ : C _ _ _ _ _ _ _ (Own w (fps [Res.row o 237 [.int .u64 x]]) [Res.row o 237 [.int .u64 (xs3 x)]])) _ hw
        refine c_reg ?_
        refine l_mv rfl ?_
        refine l_nck rfl rfl ?_
        refine l_ldo 0 (v := .int .u64 (xs3 x)) rfl rfl rfl (by kernel_rfl) rfl ?_
        refine l_as rfl ?_
        refine l_end ?_
        exact c_ret (ret1 (v := .int .u64 (xs3 x)) rfl rfl (fun w' hw => ⟨xs3 x, rfl, hw⟩))
      ·
        refine pk_of 5 rfl hw ?_
        refine l_ldo 0 (v := .int .u64 (xs2 x)) rfl rfl rfl (by kernel_rfl) rfl ?_
        refine l_nil (fun w' hw => ?_)
        have hS := hw.sel [] rfl (by decide)
        refine ⟨hS, ?_⟩
        refine h_take 6 rfl (by kernel_rfl) (by kernel_rfl) (by kernel_rfl) (v_shl (c := shlI (xs2 x) 17) rfl rfl (by decide) rfl) rfl hS ?_
        refine h_one 2 (by kernel_rfl) rfl hw ?_
        refine l_ldo 0 (v := .int .u64 (xs2 x)) rfl rfl rfl (by kernel_rfl) rfl ?_
        refine l_nil (fun w' hw => ?_)
        have hS := hw.sel [] rfl (by decide)
        refine ⟨hS, ?_⟩
        refine h_take 7 rfl (by kernel_rfl) (by kernel_rfl) (by kernel_rfl) (v_xor (c := xs3 x) rfl rfl rfl) rfl hS ?_
        refine h_take 8 rfl (by kernel_rfl) (by kernel_rfl) (by kernel_rfl) (v_nck rfl) rfl hS ?_
        refine h_one 9 (by kernel_rfl) rfl hw ?_
        refine l_st (cs := [.int .u64 (xs2 x)]) 0 rfl rfl rfl (by kernel_rfl) rfl (Nat.le_of_ble_eq_true rfl) ?_
        refine l_nil (fun w' hw => ?_)
        have hS := hw.sel [] rfl (by decide)
        refine ⟨hS, ?_⟩
        refine h_done (by kernel_rfl) ?_
        refine (?_ : C _ _ _ _ _ _ _ (Own w (fps [Res.row o 237 [.int .u64 x]]) [Res.row o 237 [.int .u64 (xs3 x)]])) _ hw
        refine c_reg ?_
        refine l_mv rfl ?_
        refine l_nck rfl rfl ?_
        refine l_ldo 0 (v := .int .u64 (xs3 x)) rfl rfl rfl (by kernel_rfl) rfl ?_
        refine l_as rfl ?_
        refine l_end ?_
        exact c_ret (ret1 (v := .int .u64 (xs3 x)) rfl rfl (fun w' hw => ⟨xs3 x, rfl, hw⟩))
end Go.Proofs.YthincafbmpialaaGreat
