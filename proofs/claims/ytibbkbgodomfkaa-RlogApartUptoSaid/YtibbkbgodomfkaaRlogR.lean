/-
  THE WALKS OF the reference's log.
-/
import Derived.Test.YtibbkbgodomfkaaRlog
set_option linter.unusedVariables false
set_option maxRecDepth 10000
namespace Go.Proofs.Ytibbkbgodomfkaa
open Go Go.Sc Go.Proofs

theorem filter_lt {α : Type} [Inhabited α] (g : α → Nat) : ∀ (l : List α) (i : Nat), (∀ k, k < l.length → g (nth l k) = i + k + 1) → ∀ f, l.filter (fun e => decide (g e < f)) = l.take (f - i - 1)
  | [], i, _, f => by simp
  | a :: l, i, h, f => by
    have h0 : g a = i + 1 := by simpa [nth] using h 0 (by simp)
    have ih := filter_lt g l (i + 1) (fun k hk => by have := h (k + 1) (by simpa using hk); have e : nth (a :: l) (k + 1) = nth l k := by simp [nth]
                                                     rw [e] at this; omega) f
    by_cases c : g a < f
    · rw [List.filter_cons_of_pos (by simpa using c), ih, show f - i - 1 = (f - (i + 1) - 1) + 1 by omega]; rfl
    · rw [List.filter_cons_of_neg (by simpa using c), ih, show f - i - 1 = 0 by omega, show f - (i + 1) - 1 = 0 by omega]; simp
theorem filter_gt {α : Type} [Inhabited α] (g : α → Nat) : ∀ (l : List α) (i : Nat), (∀ k, k < l.length → g (nth l k) = i + k + 1) → ∀ f, l.filter (fun e => decide (f < g e)) = l.drop (f - i)
  | [], i, _, f => by simp
  | a :: l, i, h, f => by
    have h0 : g a = i + 1 := by simpa [nth] using h 0 (by simp)
    have hs : ∀ k, k < l.length → g (nth l k) = (i + 1) + k + 1 := fun k hk => by
      have := h (k + 1) (by simpa using hk); have e : nth (a :: l) (k + 1) = nth l k := by simp [nth]
      rw [e] at this; omega
    have ih := filter_gt g l (i + 1) hs f
    by_cases c : f < g a
    · rw [List.filter_cons_of_pos (by simpa using c), ih, show f - i = 0 by omega, show f - (i + 1) = 0 by omega]; rfl
    · rw [List.filter_cons_of_neg (by simpa using c), ih, show f - i = (f - (i + 1)) + 1 by omega]; rfl
theorem LG.below {i t : Nat} {es : List EntD} (h : (LG i t es).good) (f : Nat) : es.filter (fun e => decide (e.index < f)) = es.take (f - i - 1) := filter_lt (fun e => e.index) es i (fun k hk => (LG.ent h hk).1) f
theorem LG.above {i t : Nat} {es : List EntD} (h : (LG i t es).good) (f : Nat) : es.filter (fun e => decide (f < e.index)) = es.drop (f - i) := filter_gt (fun e => e.index) es i (fun k hk => (LG.ent h hk).1) f
theorem LG.last_idx {i t : Nat} {es : List EntD} (h : (LG i t es).good) (hl : 0 < es.length) : (nth es (es.length - 1)).index = i + es.length := by rw [(LG.ent h (by omega)).1]; omega
theorem LG.end_nth {i t : Nat} {es : List EntD} (hl : 0 < es.length) : (LG i t es).end_ = (nth es (es.length - 1)).term := by
  unfold LogA.end_; rw [endT_eq (by simpa using hl), List.length_map, nthA (by omega)]
theorem LG.end0 {i t : Nat} {es : List EntD} (hl : es.length = 0) : (LG i t es).end_ = t := by rw [List.eq_nil_of_length_eq_zero hl]; rfl
theorem filter_snoc {α : Type} [Inhabited α] {p : α → Bool} {l : List α} {k : Nat} (hk : k < l.length) : (l.take (k + 1)).filter p = (l.take k).filter p ++ (if p (nth l k) then [nth l k] else []) := by
  rw [take_nth hk, List.filter_append, List.filter_cons, List.filter_nil]

theorem snoc_drop {α : Type} [Inhabited α] {l : List α} {d q : Nat} (h : d ≤ q) (hq : q < l.length) : (l.drop d).take (q + 1 - d) = (l.drop d).take (q - d) ++ [nth l q] := by
  rw [show q + 1 - d = (q - d) + 1 by omega, take_nth (by simp; omega), nth_drop, show d + (q - d) = q by omega]
theorem hint_end {i t k u q x y : Nat} {es : List EntD} (h : (LG i t es).hintN k u q = (x, y)) (hq : q = es.length) : (LG i t es).hint k u = (x, y) := by
  unfold LogA.hint; rw [List.length_map, ← hq]; exact h
theorem rlast_s (wb i t : Nat) (rv : Value) (ms : List EntD) (w : World) (hl : LenOk ms.length) (hg : (LG i t ms).good) (hwb : Rd w [] (Res.row wb 48 [.int .u64 (i : Nat), .int .u64 (t : Nat), rv])) (hrv : Rd w [] (Res.sl rv ms.length (ms.flatMap EntD.cells))) (all_hrv : ∀ p ∈ ms, EntD.rd p w []) : Rets Try.prog 34 #[.pointer (some ⟨wb, 0, none⟩)] w fun u_ w' => u_ = .tuple #[.int .u64 (i + ms.length : Nat), .int .u64 ((LG i t ms).end_ : Nat)] ∧ Own w [] [] w' := by
  refine fn_enter (args := [.pointer (some ⟨wb, 0, none⟩)]) Try.func34 rfl Try.ntmps34 rfl (Own.start w) ?_
  refine c_reg ?_
  refine l_as rfl ?_
  refine l_as rfl ?_
  refine l_end ?_
  refine c_seq ?_
  refine c_reg ?_
  refine l_mv rfl ?_
  refine l_nck rfl rfl ?_
  refine l_fld (o := 2) rfl (by kernel_rfl) rfl ?_
  refine l_ldq (v := rv) rfl (hwb.φ.cell rfl) (hwb.far _ (by simp [Res.row])) (by kernel_rfl) rfl ?_
  refine l_lenS (len := ms.length) (cs := (ms.flatMap EntD.cells)) (by kernel_rfl) rfl (fun w' hw' => Own.rd hrv hw') rfl ?_
  refine l_eq rfl rfl rfl ?_
  refine l_end ?_
  refine c_dec rfl (fun c1 => ?_) (fun c1 => ?_)
  ·
    refine c_quiets (by kernel_rfl) (by kernel_rfl) ?_
    refine q_val rfl (v_mv) ?_
    refine q_val rfl (v_nck rfl) ?_
    refine q_val rfl (v_fld (o := 0) rfl (by kernel_rfl)) ?_
    refine q_val rfl (v_ldq (v := .int .u64 (i : Nat)) rfl (hwb.φ.cell rfl) (hwb.far _ (by simp [Res.row])) (by kernel_rfl)) ?_
    refine q_val rfl (v_mv) ?_
    refine q_val rfl (v_nck rfl) ?_
    refine q_val rfl (v_fld (o := 1) rfl (by kernel_rfl)) ?_
    refine q_val rfl (v_ldq (v := .int .u64 (t : Nat)) rfl (hwb.φ.cell rfl) (hwb.far _ (by simp [Res.row])) (by kernel_rfl)) ?_
    refine q_val rfl (v_as) ?_
    refine q_val rfl (v_as) ?_
    refine q_end ?_
    exact c_ret (ret2 (v := .int .u64 (i : Nat)) (v' := .int .u64 (t : Nat)) rfl rfl rfl (fun w' hw => ⟨(by rw [LG.end0 (by omega), show i + ms.length = i by omega]), hw.drop⟩))
  ·
    refine c_skipC ?_
    refine c_seq ?_
    refine c_heldo [] rfl (by decide) (by kernel_rfl) (fun w' hw hS => ?_)
    refine h_take 0 rfl (by kernel_rfl) (by kernel_rfl) (by kernel_rfl) (v_mv) rfl hS ?_
    refine h_take 1 rfl (by kernel_rfl) (by kernel_rfl) (by kernel_rfl) (v_nck rfl) rfl hS ?_
    refine h_take 2 rfl (by kernel_rfl) (by kernel_rfl) (by kernel_rfl) (v_fld (o := 2) rfl (by kernel_rfl)) rfl hS ?_
    refine h_take 3 rfl (by kernel_rfl) (by kernel_rfl) (by kernel_rfl) (v_ldq (v := rv) rfl (hwb.φ.cell rfl) (hwb.far _ (by simp [Res.row])) (by kernel_rfl)) rfl hS ?_
    refine h_take 4 rfl (by kernel_rfl) (by kernel_rfl) (by kernel_rfl) (v_mv) rfl hS ?_
    refine h_take 5 rfl (by kernel_rfl) (by kernel_rfl) (by kernel_rfl) (v_nck rfl) rfl hS ?_
    refine h_take 6 rfl (by kernel_rfl) (by kernel_rfl) (by kernel_rfl) (v_fld (o := 2) rfl (by kernel_rfl)) rfl hS ?_
    refine h_take 7 rfl (by kernel_rfl) (by kernel_rfl) (by kernel_rfl) (v_ldq (v := rv) rfl (hwb.φ.cell rfl) (hwb.far _ (by simp [Res.row])) (by kernel_rfl)) rfl hS ?_
    refine h_take 8 rfl (by kernel_rfl) (by kernel_rfl) (by kernel_rfl) (v_lenS (len := ms.length) (cs := (ms.flatMap EntD.cells)) (by kernel_rfl) rfl (fun w' hw' => Own.rd hrv hw')) rfl hS ?_
    refine h_take 9 rfl (by kernel_rfl) (by kernel_rfl) (by kernel_rfl) (v_sub rfl rfl (wi64 (by omega))) rfl hS ?_
    refine h_take 10 rfl (by kernel_rfl) (by kernel_rfl) (by kernel_rfl) (v_idxS (j := ms.length - 1) (sz := 5) (len := ms.length) (cs := (ms.flatMap EntD.cells)) rfl rfl (by kernel_rfl) (fun w' hw' => Own.rd hrv hw') (by omega) (by omega)) rfl hS ?_
    refine h_take 11 rfl (by kernel_rfl) (by kernel_rfl) (by kernel_rfl) (v_ldSN ((ms.length - 1) * 5 + 0) (cs := (ms.flatMap EntD.cells)) (EntD.cells (nth ms (ms.length - 1))) rfl (by omega) (fun w' hw' => Own.rd hrv hw') (flat_atN (sz := 5) (fun _ => rfl) (nth_some (by omega)) (o := 0) (us := (EntD.cells (nth ms (ms.length - 1)))) (fun k u h => by rw [Nat.zero_add]; exact h)) (by kernel_rfl)) rfl hS ?_
    refine h_one 12 (by kernel_rfl) rfl hw ?_
    refine l_new (v := .agg #[.int .u64 (0 : Nat), .int .u64 (0 : Nat), .int .i64 0, .int .i64 0, .slice none 0 0]) (by kernel_rfl) rfl (fun b4 => ?_)
    refine l_nil (fun w' hw => ?_)
    have hS := hw.sel [] rfl (by decide)
    refine ⟨hS, ?_⟩
    refine h_one 13 (by kernel_rfl) rfl hw ?_
    refine l_stN (cs := [.int .u64 (0 : Nat), .int .u64 (0 : Nat), .int .i64 0, .int .i64 0, .slice none 0 0]) (vs := [.int .u64 ((nth ms (ms.length - 1)).index : Nat), .int .u64 ((nth ms (ms.length - 1)).term : Nat), .int .i64 ((nth ms (ms.length - 1)).kind), .int .i64 ((nth ms (ms.length - 1)).delta), (nth ms (ms.length - 1)).dv]) 0 rfl rfl rfl (by kernel_rfl) (allc_cons rfl (allc_cons rfl (allc_cons rfl (allc_cons rfl (allc_cons (Sl.cell1 (Rd.φ ((all_hrv _ (nth_mem (by omega))).dv))) allc_nil))))) (Nat.le_of_ble_eq_true rfl) ?_
    refine l_nil (fun w' hw => ?_)
    have hS := hw.sel [] rfl (by decide)
    refine ⟨hS, ?_⟩
    refine h_done (by kernel_rfl) ?_
    refine (?_ : C _ _ _ _ _ _ _ (Own w [] [Res.row b4 38 (EntD.cells (nth ms (ms.length - 1)))])) _ hw
    refine c_quiets (by kernel_rfl) (by kernel_rfl) ?_
    refine q_val rfl (v_fld (o := 0) rfl (by kernel_rfl)) ?_
    refine q_val rfl (v_ldo 0 (v := .int .u64 ((nth ms (ms.length - 1)).index : Nat)) rfl rfl rfl (by kernel_rfl)) ?_
    refine q_val rfl (v_fld (o := 1) rfl (by kernel_rfl)) ?_
    refine q_val rfl (v_ldo 0 (v := .int .u64 ((nth ms (ms.length - 1)).term : Nat)) rfl rfl rfl (by kernel_rfl)) ?_
    refine q_val rfl (v_as) ?_
    refine q_val rfl (v_as) ?_
    refine q_end ?_
    exact c_ret (ret2 (v := .int .u64 ((nth ms (ms.length - 1)).index : Nat)) (v' := .int .u64 ((nth ms (ms.length - 1)).term : Nat)) rfl rfl rfl (fun w' hw => ⟨(by rw [LG.last_idx hg (by omega), LG.end_nth (by omega)]), hw.drop⟩))
theorem rterm_s (wb i t : Nat) (rv : Value) (ms : List EntD) (k : Nat) (w : World) (hl : LenOk ms.length) (hg : (LG i t ms).good) (hwb : Rd w [] (Res.row wb 48 [.int .u64 (i : Nat), .int .u64 (t : Nat), rv])) (hrv : Rd w [] (Res.sl rv ms.length (ms.flatMap EntD.cells))) (all_hrv : ∀ p ∈ ms, EntD.rd p w []) : Rets Try.prog 14 #[.pointer (some ⟨wb, 0, none⟩), .int .u64 (k : Nat)] w fun u_ w' => ∃ (x : Nat) (e : Int), u_ = .tuple #[.int .u64 (x : Nat), .int .i64 e] ∧ (LG i t ms).termE k = (x, e) ∧ Own w [] [] w' := by
  refine fn_enter (args := [.pointer (some ⟨wb, 0, none⟩), .int .u64 (k : Nat)]) Try.func14 rfl Try.ntmps14 rfl (Own.start w) ?_
  refine c_reg ?_
  refine l_as rfl ?_
  refine l_as rfl ?_
  refine l_end ?_
  refine c_seq ?_
  refine c_reg ?_
  refine l_mv rfl ?_
  refine l_mv rfl ?_
  refine l_nck rfl rfl ?_
  refine l_fld (o := 0) rfl (by kernel_rfl) rfl ?_
  refine l_ldq (v := .int .u64 (i : Nat)) rfl (hwb.φ.cell rfl) (hwb.far _ (by simp [Res.row])) (by kernel_rfl) rfl ?_
  refine l_lss rfl rfl rfl ?_
  refine l_end ?_
  refine c_dec rfl (fun c1 => ?_) (fun c1 => ?_)
  ·
    refine c_reg ?_
    refine l_as rfl ?_
    refine l_as rfl ?_
    refine l_end ?_
    exact c_ret (ret2 (v := .int .u64 (0 : Nat)) (v' := .int .i64 13) rfl rfl rfl (fun w' hw => ⟨0, 13, rfl, LG.term_lo (by omega), hw.drop⟩))
  ·
    refine c_skipC ?_
    refine c_seq ?_
    refine c_reg ?_
    refine l_mv rfl ?_
    refine l_mv rfl ?_
    refine l_nck rfl rfl ?_
    refine l_fld (o := 0) rfl (by kernel_rfl) rfl ?_
    refine l_ldq (v := .int .u64 (i : Nat)) rfl (hwb.φ.cell rfl) (hwb.far _ (by simp [Res.row])) (by kernel_rfl) rfl ?_
    refine l_eq rfl rfl rfl ?_
    refine l_end ?_
    refine c_dec rfl (fun c2 => ?_) (fun c2 => ?_)
    ·
      refine c_reg ?_
      refine l_mv rfl ?_
      refine l_nck rfl rfl ?_
      refine l_fld (o := 1) rfl (by kernel_rfl) rfl ?_
      refine l_ldq (v := .int .u64 (t : Nat)) rfl (hwb.φ.cell rfl) (hwb.far _ (by simp [Res.row])) (by kernel_rfl) rfl ?_
      refine l_as rfl ?_
      refine l_as rfl ?_
      refine l_end ?_
      exact c_ret (ret2 (v := .int .u64 (t : Nat)) (v' := .int .i64 0) rfl rfl rfl (fun w' hw => ⟨t, 0, rfl, LG.term_at (by omega), hw.drop⟩))
    ·
      refine c_skipC ?_
      refine c_seq ?_
      refine c_reg ?_
      refine l_as rfl ?_
      refine l_end ?_
      refine c_block ?_
      refine c_loop1 (fun (q : Nat) => [(0, .pointer (some ⟨wb, 0, none⟩)), (1, .int .u64 (k : Nat)), (6, .int .i64 (q : Nat))]) (fun (q : Nat) => q ≤ ms.length ∧ (i < k ∧ i + q < k)) (fun (q : Nat) => []) (fun (q : Nat) => ms.length - q) (fun w' hw => ⟨0, ⟨rfl, rfl, rfl, trivial⟩, ⟨Nat.zero_le _, by omega⟩, hw⟩) (fun q g hΦ => ?_)
      refine c_seq ?_
      refine c_reg ?_
      refine l_mv rfl ?_
      refine l_mv rfl ?_
      refine l_nck rfl rfl ?_
      refine l_fld (o := 2) rfl (by kernel_rfl) rfl ?_
      refine l_ldq (v := rv) rfl (hwb.φ.cell rfl) (hwb.far _ (by simp [Res.row])) (by kernel_rfl) rfl ?_
      refine l_lenS (len := ms.length) (cs := (ms.flatMap EntD.cells)) (by kernel_rfl) rfl (fun w' hw' => Own.rd hrv hw') rfl ?_
      refine l_lss rfl rfl rfl ?_
      refine l_end ?_
      refine c_dec rfl (fun c3 => ?_) (fun c3 => ?_)
      ·
        have hq := (LG.ent hg (k := q) (by omega)).1
        refine c_skipC ?_
        refine c_seq ?_
        refine c_block ?_
        refine c_reg ?_
        refine l_mv rfl ?_
        refine l_nck rfl rfl ?_
        refine l_fld (o := 2) rfl (by kernel_rfl) rfl ?_
        refine l_ldq (v := rv) rfl (hwb.φ.cell rfl) (hwb.far _ (by simp [Res.row])) (by kernel_rfl) rfl ?_
        refine l_mv rfl ?_
        refine l_idxS (j := q) (sz := 5) (len := ms.length) (cs := (ms.flatMap EntD.cells)) rfl rfl (by kernel_rfl) (fun w' hw' => Own.rd hrv hw') rfl (by omega) rfl ?_
        refine l_fld (o := 0) rfl (by kernel_rfl) rfl ?_
        refine l_ldS (q * 5 + 0) (cs := (ms.flatMap EntD.cells)) rfl (by omega) (fun w' hw' => Own.rd hrv hw') (flat_at (sz := 5) (fun _ => rfl) (nth_some (by omega)) (i := 0) rfl) (by kernel_rfl) rfl ?_
        refine l_mv rfl ?_
        refine l_eq rfl rfl rfl ?_
        refine l_end ?_
        refine c_dec rfl (fun c4 => ?_) (fun c4 => ?_)
        ·
          refine c_reg ?_
          refine l_mv rfl ?_
          refine l_nck rfl rfl ?_
          refine l_fld (o := 2) rfl (by kernel_rfl) rfl ?_
          refine l_ldq (v := rv) rfl (hwb.φ.cell rfl) (hwb.far _ (by simp [Res.row])) (by kernel_rfl) rfl ?_
          refine l_mv rfl ?_
          refine l_idxS (j := q) (sz := 5) (len := ms.length) (cs := (ms.flatMap EntD.cells)) rfl rfl (by kernel_rfl) (fun w' hw' => Own.rd hrv hw') rfl (by omega) rfl ?_
          refine l_fld (o := 1) rfl (by kernel_rfl) rfl ?_
          refine l_ldS (q * 5 + 1) (cs := (ms.flatMap EntD.cells)) rfl (by omega) (fun w' hw' => Own.rd hrv hw') (flat_at (sz := 5) (fun _ => rfl) (nth_some (by omega)) (i := 1) rfl) (by kernel_rfl) rfl ?_
          refine l_as rfl ?_
          refine l_as rfl ?_
          refine l_end ?_
          exact c_ret (ret2 (v := .int .u64 ((nth ms q).term : Nat)) (v' := .int .i64 0) rfl rfl rfl (fun w' hw => ⟨(nth ms q).term, 0, rfl, LG.term_in (by omega) (by omega) (by omega), hw.drop⟩))
        ·
          refine c_skipC ?_
          refine c_last ?_
          refine l_mv rfl ?_
          refine l_add rfl rfl (wi64 (by omega)) rfl ?_
          refine l_as rfl ?_
          exact l_nil (fun w' hw => ⟨q + 1, ⟨rfl, rfl, rfl, trivial⟩, (by omega), hw, (by omega)⟩)
      ·
        refine c_exitC rfl ?_
        refine c_reg ?_
        refine l_as rfl ?_
        refine l_as rfl ?_
        refine l_end ?_
        exact c_ret (ret2 (v := .int .u64 (0 : Nat)) (v' := .int .i64 8) rfl rfl rfl (fun w' hw => ⟨0, 8, rfl, LG.term_hi (by omega), hw.drop⟩))
theorem rfits_s (wb i t : Nat) (rv : Value) (ms : List EntD) (k u : Nat) (w : World) (hl : LenOk ms.length) (hg : (LG i t ms).good) (hwb : Rd w [] (Res.row wb 48 [.int .u64 (i : Nat), .int .u64 (t : Nat), rv])) (hrv : Rd w [] (Res.sl rv ms.length (ms.flatMap EntD.cells))) (all_hrv : ∀ p ∈ ms, EntD.rd p w []) : Rets Try.prog 15 #[.pointer (some ⟨wb, 0, none⟩), .int .u64 (k : Nat), .int .u64 (u : Nat)] w fun u_ w' => u_ = .bool (decide ((LG i t ms).fits k u)) ∧ Own w [] [] w' := by
  refine fn_enter (args := [.pointer (some ⟨wb, 0, none⟩), .int .u64 (k : Nat), .int .u64 (u : Nat)]) Try.func15 rfl Try.ntmps15 rfl (Own.start w) ?_
  refine c_reg ?_
  refine l_as rfl ?_
  refine l_end ?_
  refine c_reg ?_
  refine l_mv rfl ?_
  refine l_mv rfl ?_
  refine l_call (by kernel_rfl) rfl rfl (fun w' hw => ?_)
  refine (rterm_s wb i t rv ms k w' (by first | assumption | omega | (simp <;> omega) | (constructor <;> (first | omega | (simp only [LenOk]; omega) | (simp <;> omega)))) (by first | assumption | omega | (simp <;> omega) | (constructor <;> (first | omega | (simp only [LenOk]; omega) | (simp <;> omega)))) (hw.rd0 hwb) (hw.rd0 hrv) (fun p hp => EntD.rd.at0 (all_hrv p hp) hw)).mono ?_
  rintro _ w1 ⟨x1_, e2_, rfl, hf1_2, hO⟩
  refine (?_ : CL _ _ _ _ _ _ (Own w [] [])) w1 (hw.frame0 hO)
  refine l_mv rfl ?_
  refine l_ext (vs := [.int .u64 (x1_ : Nat), .int .i64 e2_]) rfl rfl rfl ?_
  refine l_ext (vs := [.int .u64 (x1_ : Nat), .int .i64 e2_]) rfl rfl rfl ?_
  refine l_as rfl ?_
  refine l_as rfl ?_
  refine l_end ?_
  refine c_reg ?_
  refine l_mv rfl ?_
  refine l_eq rfl rfl rfl ?_
  refine l_mv rfl ?_
  refine l_band (q := e2_ = 0) 3 2 [20, 19, 18] (((x1_ : Nat) : Int) = ((u : Nat) : Int)) rfl rfl rfl rfl rfl rfl trivial rfl (fun h2_2 => ?_) (fun g2_6 => ?_)
  ·
    refine l_on rfl (gT h2_2) ?_
    refine l_mv rfl ?_
    refine l_on rfl (gT h2_2) ?_
    refine l_mv rfl ?_
    refine l_on rfl (gT h2_2) ?_
    refine l_eq rfl rfl rfl ?_
    exact l_nil (fun w' hw => ⟨(by repeat (first | exact Out.refl _ _ | refine Out.upd rfl ?_ | refine Out.msk rfl ?_)), rfl, hw⟩)
  refine l_as rfl ?_
  refine l_end ?_
  exact c_ret (ret1 (v := .bool (decide ((e2_ = 0) ∧ (((x1_ : Nat) : Int) = ((u : Nat) : Int))))) rfl rfl (fun w' hw => ⟨(by congr 1; exact decide_eq_decide.2 (by unfold LogA.fits; rw [hf1_2]; exact ⟨fun h => ⟨h.1, by have := h.2; dsimp only; omega⟩, fun h => ⟨h.1, by have := h.2; dsimp only at this; omega⟩⟩)), hw.drop⟩))
theorem rfresh_s (wb i t : Nat) (rv : Value) (ms : List EntD) (k u : Nat) (w : World) (hl : LenOk ms.length) (hg : (LG i t ms).good) (hwb : Rd w [] (Res.row wb 48 [.int .u64 (i : Nat), .int .u64 (t : Nat), rv])) (hrv : Rd w [] (Res.sl rv ms.length (ms.flatMap EntD.cells))) (all_hrv : ∀ p ∈ ms, EntD.rd p w []) : Rets Try.prog 39 #[.pointer (some ⟨wb, 0, none⟩), .int .u64 (k : Nat), .int .u64 (u : Nat)] w fun u_ w' => u_ = .bool (decide ((LG i t ms).fresh k u)) ∧ Own w [] [] w' := by
  refine fn_enter (args := [.pointer (some ⟨wb, 0, none⟩), .int .u64 (k : Nat), .int .u64 (u : Nat)]) Try.func39 rfl Try.ntmps39 rfl (Own.start w) ?_
  refine c_reg ?_
  refine l_as rfl ?_
  refine l_end ?_
  refine c_reg ?_
  refine l_mv rfl ?_
  refine l_call (by kernel_rfl) rfl rfl (fun w' hw => ?_)
  refine (rlast_s wb i t rv ms w' (by first | assumption | omega | (simp <;> omega) | (constructor <;> (first | omega | (simp only [LenOk]; omega) | (simp <;> omega)))) (by first | assumption | omega | (simp <;> omega) | (constructor <;> (first | omega | (simp only [LenOk]; omega) | (simp <;> omega)))) (hw.rd0 hwb) (hw.rd0 hrv) (fun p hp => EntD.rd.at0 (all_hrv p hp) hw)).mono ?_
  rintro _ w1 ⟨rfl, hO⟩
  refine (?_ : CL _ _ _ _ _ _ (Own w [] [])) w1 (hw.frame0 hO)
  refine l_mv rfl ?_
  refine l_ext (vs := [.int .u64 (i + ms.length : Nat), .int .u64 ((LG i t ms).end_ : Nat)]) rfl rfl rfl ?_
  refine l_ext (vs := [.int .u64 (i + ms.length : Nat), .int .u64 ((LG i t ms).end_ : Nat)]) rfl rfl rfl ?_
  refine l_as rfl ?_
  refine l_as rfl ?_
  refine l_end ?_
  refine c_reg ?_
  refine l_mv rfl ?_
  refine l_mv rfl ?_
  refine l_gtr rfl rfl rfl ?_
  refine l_mv rfl ?_
  refine l_bor (q := (((LG i t ms).end_ : Nat) : Int) < ((u : Nat) : Int)) 8 3 [25, 24, 23, 22, 21, 20, 19, 18] ((((u : Nat) : Int) = (((LG i t ms).end_ : Nat) : Int)) ∧ (((i + ms.length : Nat) : Int) ≤ ((k : Nat) : Int))) rfl rfl rfl rfl rfl rfl trivial rfl (fun h2_3 => ?_) (fun g2_12 => ?_)
  ·
    refine l_on rfl (gF h2_3) ?_
    refine l_mv rfl ?_
    refine l_on rfl (gF h2_3) ?_
    refine l_mv rfl ?_
    refine l_on rfl (gF h2_3) ?_
    refine l_eq rfl rfl rfl ?_
    refine l_on rfl (gF h2_3) ?_
    refine l_mv rfl ?_
    refine l_band (q := ((u : Nat) : Int) = (((LG i t ms).end_ : Nat) : Int)) 3 7 [24, 23, 22] (((i + ms.length : Nat) : Int) ≤ ((k : Nat) : Int)) rfl rfl rfl rfl rfl rfl ⟨_, rfl, rfl, gF h2_3⟩ rfl (fun h2_7 => ?_) (fun g2_11 => ?_)
    ·
      refine l_on rfl (gT h2_7) ?_
      refine l_mv rfl ?_
      refine l_on rfl (gT h2_7) ?_
      refine l_mv rfl ?_
      refine l_on rfl (gT h2_7) ?_
      refine l_geq rfl rfl rfl ?_
      exact l_nil (fun w' hw => ⟨(by repeat (first | exact Out.refl _ _ | refine Out.upd rfl ?_ | refine Out.msk rfl ?_)), rfl, hw⟩)
    exact l_nil (fun w' hw => ⟨(by repeat (first | exact Out.refl _ _ | refine Out.upd rfl ?_ | refine Out.msk rfl ?_)), rfl, hw⟩)
  refine l_as rfl ?_
  refine l_end ?_
  exact c_ret (ret1 (v := .bool (decide (((((LG i t ms).end_ : Nat) : Int) < ((u : Nat) : Int)) ∨ ((((u : Nat) : Int) = (((LG i t ms).end_ : Nat) : Int)) ∧ (((i + ms.length : Nat) : Int) ≤ ((k : Nat) : Int)))))) rfl rfl (fun w' hw => ⟨(by congr 1; exact decide_eq_decide.2 (by unfold LogA.fresh; rw [LG.last_eq]; omega)), hw.drop⟩))
theorem take_take_len {α : Type} {l : List α} {a n : Nat} (h : (l.take a).length ≤ n) (h2 : l.length ≤ a ∨ n ≤ (l.take a).length) : l.take a = l.take n := by
  rw [List.take_eq_take_iff]; rw [List.length_take] at h h2; omega
theorem rfrom_s (wb i t : Nat) (rv : Value) (ms : List EntD) (k : Nat) (n : Int) (w : World) (hl : ms.length ≤ 100000000000) (hg : (LG i t ms).good) (hwb : Rd w [] (Res.row wb 48 [.int .u64 (i : Nat), .int .u64 (t : Nat), rv])) (hrv : Rd w [] (Res.sl rv ms.length (ms.flatMap EntD.cells))) (all_hrv : ∀ p ∈ ms, EntD.rd p w []) : Rets Try.prog 37 #[.pointer (some ⟨wb, 0, none⟩), .int .u64 (k : Nat), .int .i64 n] w fun u_ w' => ∃ (r : Value) (rs : List EntD) (e : Int), u_ = .tuple #[r, .int .i64 e] ∧ (LG i t ms).fromE k n = (rs.map EntD.toEntA, e) ∧ (∀ p ∈ rs, p ∈ ms) ∧ Own w [] [Res.vec 38 5 r rs.length (rs.flatMap EntD.cells)] w' := by
  have hb := (LG.le hg).1
  refine fn_enter (args := [.pointer (some ⟨wb, 0, none⟩), .int .u64 (k : Nat), .int .i64 n]) Try.func37 rfl Try.ntmps37 rfl (Own.start w) ?_
  refine c_reg ?_
  refine l_as rfl ?_
  refine l_as rfl ?_
  refine l_end ?_
  refine c_reg ?_
  refine l_mv rfl ?_
  refine l_call (by kernel_rfl) rfl rfl (fun w' hw => ?_)
  refine (rlast_s wb i t rv ms w' (by first | assumption | omega | (simp <;> omega) | (constructor <;> (first | omega | (simp only [LenOk]; omega) | (simp <;> omega)))) (by first | assumption | omega | (simp <;> omega) | (constructor <;> (first | omega | (simp only [LenOk]; omega) | (simp <;> omega)))) (hw.rd0 hwb) (hw.rd0 hrv) (fun p hp => EntD.rd.at0 (all_hrv p hp) hw)).mono ?_
  rintro _ w1 ⟨rfl, hO⟩
  refine (?_ : CL _ _ _ _ _ _ (Own w [] [])) w1 (hw.frame0 hO)
  refine l_mv rfl ?_
  refine l_ext (vs := [.int .u64 (i + ms.length : Nat), .int .u64 ((LG i t ms).end_ : Nat)]) rfl rfl rfl ?_
  refine l_ext (vs := [.int .u64 (i + ms.length : Nat), .int .u64 ((LG i t ms).end_ : Nat)]) rfl rfl rfl ?_
  refine l_as rfl ?_
  refine l_as rfl ?_
  refine l_end ?_
  refine c_seq ?_
  refine c_reg ?_
  refine l_mv rfl ?_
  refine l_mv rfl ?_
  refine l_nck rfl rfl ?_
  refine l_fld (o := 0) rfl (by kernel_rfl) rfl ?_
  refine l_ldq (v := .int .u64 (i : Nat)) rfl (hwb.φ.cell rfl) (hwb.far _ (by simp [Res.row])) (by kernel_rfl) rfl ?_
  refine l_leq rfl rfl rfl ?_
  refine l_end ?_
  refine c_dec rfl (fun c1 => ?_) (fun c1 => ?_)
  ·
    refine c_reg ?_
    refine l_as rfl ?_
    refine l_as rfl ?_
    refine l_end ?_
    exact c_ret (ret2 (v := .slice none 0 0) (v' := .int .i64 13) rfl rfl rfl (fun w' hw => ⟨.slice none 0 0, [], 13, rfl, (by rw [LG.fromE_eq, if_pos (by omega)]; rfl), (fun p hp => by cases hp), (own_nil hw 38 5)⟩))
  ·
    refine c_skipC ?_
    refine c_seq ?_
    refine c_reg ?_
    refine l_mv rfl ?_
    refine l_mv rfl ?_
    refine l_add rfl rfl (wu64 (by omega)) rfl ?_
    refine l_gtr rfl rfl rfl ?_
    refine l_end ?_
    refine c_dec rfl (fun c2 => ?_) (fun c2 => ?_)
    ·
      refine c_reg ?_
      refine l_as rfl ?_
      refine l_as rfl ?_
      refine l_end ?_
      exact c_ret (ret2 (v := .slice none 0 0) (v' := .int .i64 8) rfl rfl rfl (fun w' hw => ⟨.slice none 0 0, [], 8, rfl, (by rw [LG.fromE_eq, if_neg (by omega), if_pos (by omega)]; rfl), (fun p hp => by cases hp), (own_nil hw 38 5)⟩))
    ·
      refine c_skipC ?_
      refine c_seq ?_
      refine c_reg ?_
      refine l_mv rfl ?_
      refine l_lss rfl rfl rfl ?_
      refine l_end ?_
      refine c_dec rfl (fun c3 => ?_) (fun c3 => ?_)
      ·
        refine c_reg ?_
        refine l_as rfl ?_
        refine l_as rfl ?_
        refine l_end ?_
        exact c_ret (ret2 (v := .slice none 0 0) (v' := .int .i64 1) rfl rfl rfl (fun w' hw => ⟨.slice none 0 0, [], 1, rfl, (by rw [LG.fromE_eq, if_neg (by omega), if_neg (by omega), if_pos (by omega)]; rfl), (fun p hp => by cases hp), (own_nil hw 38 5)⟩))
      ·
        refine c_skipC ?_
        refine c_reg ?_
        refine l_as rfl ?_
        refine l_end ?_
        refine c_seq ?_
        refine c_reg ?_
        refine l_as rfl ?_
        refine l_end ?_
        refine c_block ?_
        refine c_loop3 (fun (q : Nat) (r : Value) (rs : List EntD) => [(0, .pointer (some ⟨wb, 0, none⟩)), (1, .int .u64 (k : Nat)), (2, .int .i64 n), (10, r), (11, .int .i64 (q : Nat))]) (fun (q : Nat) (r : Value) (rs : List EntD) => q ≤ ms.length ∧ rs = (ms.drop (k - i - 1)).take (q - (k - i - 1)) ∧ (rs.length : Int) ≤ n) (fun (q : Nat) (r : Value) (rs : List EntD) => [Res.vec 38 5 r rs.length (rs.flatMap EntD.cells)]) (fun (q : Nat) (r : Value) (rs : List EntD) => ms.length - q) (fun w' hw => ⟨0, .slice none 0 0, [], ⟨rfl, rfl, rfl, rfl, rfl, trivial⟩, ⟨Nat.zero_le _, by simp, by simp; omega⟩, own_nil hw 38 5⟩) (fun q r rs g hΦ => ?_)
        have hrl : rs.length = min (q - (k - i - 1)) (ms.length - (k - i - 1)) := by rw [hΦ.2.1]; simp
        refine c_seq ?_
        refine c_reg ?_
        refine l_mv rfl ?_
        refine l_mv rfl ?_
        refine l_nck rfl rfl ?_
        refine l_fld (o := 2) rfl (by kernel_rfl) rfl ?_
        refine l_ldq (v := rv) rfl (hwb.φ.cell rfl) (hwb.far _ (by simp [Res.row])) (by kernel_rfl) rfl ?_
        refine l_lenS (len := ms.length) (cs := (ms.flatMap EntD.cells)) (by kernel_rfl) rfl (fun w' hw' => Own.rd hrv hw') rfl ?_
        refine l_lss rfl rfl rfl ?_
        refine l_mv rfl ?_
        refine l_band (q := ((q : Nat) : Int) < ((ms.length : Nat) : Int)) 4 7 [40, 39, 38, 37] (((rs.length : Nat) : Int) < n) rfl rfl rfl rfl rfl rfl trivial rfl (fun h10_7 => ?_) (fun g10_12 => ?_)
        ·
          refine l_on rfl (gT h10_7) ?_
          refine l_mv rfl ?_
          refine l_on rfl (gT h10_7) ?_
          refine l_lenS (len := rs.length) (cs := (rs.flatMap EntD.cells)) (by kernel_rfl) rfl (fun w' hw' => Vec.sl (Own.holds hw' 0 _ rfl)) rfl ?_
          refine l_on rfl (gT h10_7) ?_
          refine l_mv rfl ?_
          refine l_on rfl (gT h10_7) ?_
          refine l_lss rfl rfl rfl ?_
          exact l_nil (fun w' hw => ⟨(by repeat (first | exact Out.refl _ _ | refine Out.upd rfl ?_ | refine Out.msk rfl ?_)), rfl, hw⟩)
        refine l_end ?_
        refine c_dec rfl (fun c4 => ?_) (fun c4 => ?_)
        ·
          have hq := (LG.ent hg (k := q) (by omega)).1
          refine c_skipC ?_
          refine c_seq ?_
          refine c_block ?_
          refine c_reg ?_
          refine l_mv rfl ?_
          refine l_nck rfl rfl ?_
          refine l_fld (o := 2) rfl (by kernel_rfl) rfl ?_
          refine l_ldq (v := rv) rfl (hwb.φ.cell rfl) (hwb.far _ (by simp [Res.row])) (by kernel_rfl) rfl ?_
          refine l_mv rfl ?_
          refine l_idxS (j := q) (sz := 5) (len := ms.length) (cs := (ms.flatMap EntD.cells)) rfl rfl (by kernel_rfl) (fun w' hw' => Own.rd hrv hw') rfl (by omega) rfl ?_
          refine l_fld (o := 0) rfl (by kernel_rfl) rfl ?_
          refine l_ldS (q * 5 + 0) (cs := (ms.flatMap EntD.cells)) rfl (by omega) (fun w' hw' => Own.rd hrv hw') (flat_at (sz := 5) (fun _ => rfl) (nth_some (by omega)) (i := 0) rfl) (by kernel_rfl) rfl ?_
          refine l_mv rfl ?_
          refine l_geq rfl rfl rfl ?_
          refine l_end ?_
          refine c_dec rfl (fun c5 => ?_) (fun c5 => ?_)
          ·
            refine c_last ?_
            refine l_mv rfl ?_
            refine l_mv rfl ?_
            refine l_nck rfl rfl ?_
            refine l_fld (o := 2) rfl (by kernel_rfl) rfl ?_
            refine l_ldq (v := rv) rfl (hwb.φ.cell rfl) (hwb.far _ (by simp [Res.row])) (by kernel_rfl) rfl ?_
            refine l_mv rfl ?_
            refine l_idxS (j := q) (sz := 5) (len := ms.length) (cs := (ms.flatMap EntD.cells)) rfl rfl (by kernel_rfl) (fun w' hw' => Own.rd hrv hw') rfl (by omega) rfl ?_
            refine l_ldSN (q * 5 + 0) (cs := (ms.flatMap EntD.cells)) (EntD.cells (nth ms q)) rfl (by omega) (fun w' hw' => Own.rd hrv hw') (flat_atN (sz := 5) (fun _ => rfl) (nth_some (by omega)) (o := 0) (us := (EntD.cells (nth ms q))) (fun k u h => by rw [Nat.zero_add]; exact h)) (by kernel_rfl) rfl ?_
            refine l_bsl (e := 38) (sz := 5) (vs := [.agg (EntD.cells (nth ms q)).toArray]) (by kernel_rfl) rfl rfl (by simp [Value.cells, EntD.cells]) (by decide) rfl (fun b62 => ?_)
            refine l_appF (g := EntD.cells) (sz := 5) (by' := 56) (fun _ => rfl) (l := rs) (l' := [(nth ms q)]) (all_cons ((allc_cons rfl (allc_cons rfl (allc_cons rfl (allc_cons rfl (allc_cons (Sl.cell1 (Rd.φ ((all_hrv _ (nth_mem (by omega))).dv))) allc_nil)))))) (by simp)) 0 (by kernel_rfl) rfl rfl rfl (fun w' hw' => Vec.sl (Own.holds hw' 1 _ rfl)) (by first | omega | (simp; omega)) (by decide) rfl (fun v63 => ?_)
            refine l_as rfl ?_
            refine l_end ?_
            refine c_last ?_
            refine l_mv rfl ?_
            refine l_add rfl rfl (wi64 (by omega)) rfl ?_
            refine l_as rfl ?_
            exact l_nil (fun w' hw => ⟨q + 1, v63, rs ++ [nth ms q], ⟨rfl, rfl, rfl, rfl, rfl, trivial⟩, ⟨by omega, by rw [snoc_drop (by omega) (by omega), ← hΦ.2.1], by simp; omega⟩, hw.sel [0] rfl (by decide), (by omega)⟩)
          ·
            refine c_skipC ?_
            refine c_last ?_
            refine l_mv rfl ?_
            refine l_add rfl rfl (wi64 (by omega)) rfl ?_
            refine l_as rfl ?_
            exact l_nil (fun w' hw => ⟨q + 1, r, rs, ⟨rfl, rfl, rfl, rfl, rfl, trivial⟩, ⟨by omega, by rw [hΦ.2.1, show q - (k - i - 1) = 0 by omega, show q + 1 - (k - i - 1) = 0 by omega], hΦ.2.2⟩, hw, (by omega)⟩)
        ·
          refine c_exitC rfl ?_
          refine c_reg ?_
          refine l_mv rfl ?_
          refine l_as rfl ?_
          refine l_as rfl ?_
          refine l_end ?_
          exact c_ret (ret2 (v := r) (v' := .int .i64 0) rfl rfl rfl (fun w' hw => ⟨r, rs, 0, rfl, (by rw [LG.fromE_eq, if_neg (by omega), if_neg (by omega), if_neg (by omega), hΦ.2.1, List.map_take, List.map_drop]; congr 1; rw [List.take_eq_take_iff]; simp; omega), (fun p hp => by rw [hΦ.2.1] at hp; exact List.mem_of_mem_drop (List.mem_of_mem_take hp)), hw⟩))
def RApp (x : LogA) (ms m : List EntD) (k y : Nat) (ms' : List EntD) : Prop :=
  (y = 0 ∧ ms' = ms ∧ ∀ e ∈ m.take k, x.fits e.index e.term) ∨
  (∃ j, j < k ∧ y = (nth m j).index ∧ 0 < y ∧ (∀ e ∈ m.take j, x.fits e.index e.term) ∧ ¬ x.fits (nth m j).index (nth m j).term ∧ ms' = ms.take ((nth m j).index - x.i - 1) ++ (m.take k).drop j)
theorem RApp.zero {x : LogA} {ms m ms' : List EntD} {k y : Nat} (h : RApp x ms m k y ms') (hy : y = 0) : ms' = ms ∧ ∀ e ∈ m.take k, x.fits e.index e.term := by
  rcases h with h | ⟨j, _, _, h, _⟩
  · exact h.2
  · omega
theorem RApp.skip {x : LogA} {ms m ms' : List EntD} {k y : Nat} (h : RApp x ms m k y ms') (hy : y = 0) (hk : k < m.length) (hf : x.fits (nth m k).index (nth m k).term) : RApp x ms m (k + 1) y ms' := by
  have h1 := h.zero hy
  refine .inl ⟨hy, h1.1, ?_⟩
  rw [take_nth hk]; intro v hv
  rcases List.mem_append.1 hv with h | h
  · exact h1.2 v h
  · simp at h; rw [h]; exact hf
theorem RApp.first {x : LogA} {ms m ms' : List EntD} {k y : Nat} (h : RApp x ms m k y ms') (hy : y = 0) (hk : k < m.length) (hf : ¬ x.fits (nth m k).index (nth m k).term) (h0 : 0 < (nth m k).index) : RApp x ms m (k + 1) (nth m k).index (ms.take ((nth m k).index - x.i - 1) ++ [nth m k]) := by
  refine .inr ⟨k, by omega, rfl, h0, (h.zero hy).2, hf, ?_⟩
  rw [take_nth hk, List.drop_append, List.drop_of_length_le (by simp; omega)]; simp [Nat.min_eq_left (Nat.le_of_lt hk)]
theorem RApp.more {x : LogA} {ms m ms' : List EntD} {k y : Nat} (h : RApp x ms m k y ms') (hy : ¬ y = 0) (hk : k < m.length) : RApp x ms m (k + 1) y (ms' ++ [nth m k]) := by
  rcases h with h | ⟨j, h1, h2, h3, h4, h5, h6⟩
  · exact absurd h.1 hy
  · refine .inr ⟨j, by omega, h2, h3, h4, h5, ?_⟩
    rw [h6, take_nth hk, List.drop_append_of_le_length (by simp; omega), List.append_assoc]
theorem RApp.mem {x : LogA} {ms m ms' : List EntD} {k y : Nat} (h : RApp x ms m k y ms') : ∀ p ∈ ms', p ∈ ms ∨ p ∈ m := by
  intro p hp
  rcases h with h | ⟨j, h1, h2, h3, h4, h5, h6⟩
  · rw [h.2.1] at hp; exact .inl hp
  · rw [h6] at hp
    rcases List.mem_append.1 hp with q | q
    · exact .inl (List.mem_of_mem_take q)
    · exact .inr (List.mem_of_mem_take (List.mem_of_mem_drop q))
theorem RApp.len {x : LogA} {ms m ms' : List EntD} {k y : Nat} (h : RApp x ms m k y ms') : ms'.length ≤ ms.length + m.length := by
  rcases h with h | ⟨j, h1, h2, h3, h4, h5, h6⟩
  · rw [h.2.1]; omega
  · rw [h6]; simp; omega
theorem RApp.end_ {i t index term y : Nat} {ms m ms' : List EntD} (h : RApp (LG i t ms) ms m m.length y ms') (hm : folA index term (m.map EntD.toEntA)) (hf : (LG i t ms).fits index term) :
    LG i t ms' = (LG i t ms).append index term (m.map EntD.toEntA) ∧ (LG i t ms).ans index term (m.map EntD.toEntA) = (index + m.length, y, 0) := by
  rcases h with ⟨h1, h2, h3⟩ | ⟨j, h1, h2, h3, h4, h5, h6⟩
  · subst h1 h2; rw [List.take_length] at h3; exact put_none hm hf h3
  · subst h2
    exact put_res hm hf h1 h4 h5 (by rw [h6, List.map_append, List.map_take, List.take_length, List.map_drop])
theorem fol_small {index term k : Nat} {m : List EntD} (h : folA index term ((m.take k).map EntD.toEntA)) (hi : index < 18446744073709551616) (hk : k ≤ m.length) : index + k < 18446744073709551616 ∧ endI index ((m.take k).map EntD.toEntA) = index + k := by
  have e : endI index ((m.take k).map EntD.toEntA) = index + k := by unfold endI; simp; omega
  refine ⟨?_, e⟩
  by_cases h0 : k = 0
  · omega
  · have h1 := h.idx (k - 1) (by simp; omega)
    have h2 := (h.ok _ (nth_mem (l := (m.take k).map EntD.toEntA) (j := k - 1) (by simp; omega))).1.2.1.1
    omega
theorem rappend_s (wb i t : Nat) (rv : Value) (ms : List EntD) (index term : Nat) (v : Value) (m : List EntD) (w : World) (hl : ms.length + m.length ≤ 100000000000) (hg : (LG i t ms).good) (hx : ∀ e ∈ m, e.wf) (hi : index < 18446744073709551616) (hv : Rd w (fps [Res.row wb 48 [.int .u64 (i : Nat), .int .u64 (t : Nat), rv], Res.vec 38 5 rv ms.length (ms.flatMap EntD.cells)]) (Res.sl v m.length (m.flatMap EntD.cells))) (all_hv : ∀ p ∈ m, EntD.rd p w (fps [Res.row wb 48 [.int .u64 (i : Nat), .int .u64 (t : Nat), rv], Res.vec 38 5 rv ms.length (ms.flatMap EntD.cells)])) (hms : ∀ p ∈ ms, EntD.rd p w (fps [Res.row wb 48 [.int .u64 (i : Nat), .int .u64 (t : Nat), rv], Res.vec 38 5 rv ms.length (ms.flatMap EntD.cells)])) (hin : Own w (fps [Res.row wb 48 [.int .u64 (i : Nat), .int .u64 (t : Nat), rv], Res.vec 38 5 rv ms.length (ms.flatMap EntD.cells)]) [Res.row wb 48 [.int .u64 (i : Nat), .int .u64 (t : Nat), rv], Res.vec 38 5 rv ms.length (ms.flatMap EntD.cells)] w) : Rets Try.prog 21 #[.pointer (some ⟨wb, 0, none⟩), .int .u64 (index : Nat), .int .u64 (term : Nat), v] w fun u_ w' => ∃ (rv' : Value) (ms' : List EntD) (x : Nat) (y : Nat) (e : Int), u_ = .tuple #[.int .u64 (x : Nat), .int .u64 (y : Nat), .int .i64 e] ∧ LG i t ms' = (LG i t ms).append index term (m.map EntD.toEntA) ∧ (LG i t ms).ans index term (m.map EntD.toEntA) = (x, y, e) ∧ (∀ p ∈ ms', p ∈ ms ∨ p ∈ m) ∧ Own w (fps [Res.row wb 48 [.int .u64 (i : Nat), .int .u64 (t : Nat), rv], Res.vec 38 5 rv ms.length (ms.flatMap EntD.cells)]) [Res.row wb 48 [.int .u64 (i : Nat), .int .u64 (t : Nat), rv'], Res.vec 38 5 rv' ms'.length (ms'.flatMap EntD.cells)] w' := by
  have hb := (LG.le hg).1
  refine fn_enter (args := [.pointer (some ⟨wb, 0, none⟩), .int .u64 (index : Nat), .int .u64 (term : Nat), v]) Try.func21 rfl Try.ntmps21 rfl (show Own w (fps [Res.row wb 48 [.int .u64 (i : Nat), .int .u64 (t : Nat), rv], Res.vec 38 5 rv ms.length (ms.flatMap EntD.cells)]) [Res.row wb 48 [.int .u64 (i : Nat), .int .u64 (t : Nat), rv], Res.vec 38 5 rv ms.length (ms.flatMap EntD.cells)] w from hin) ?_
  refine c_reg ?_
  refine l_as rfl ?_
  refine l_as rfl ?_
  refine l_as rfl ?_
  refine l_end ?_
  refine c_reg ?_
  refine l_mv rfl ?_
  refine l_as rfl ?_
  refine l_end ?_
  refine c_seq ?_
  refine c_reg ?_
  refine l_as rfl ?_
  refine l_end ?_
  refine c_block ?_
  refine c_loop2 (fun (k : Nat) (u : Nat) => [(0, .pointer (some ⟨wb, 0, none⟩)), (1, .int .u64 (index : Nat)), (2, .int .u64 (term : Nat)), (3, v), (11, .int .u64 (u : Nat)), (12, .int .i64 (k : Nat))]) (fun (k : Nat) (u : Nat) => k ≤ m.length ∧ folA index term ((m.take k).map EntD.toEntA) ∧ u = endT term ((m.take k).map EntD.toEntA)) (fun (k : Nat) (u : Nat) => [Res.row wb 48 [.int .u64 (i : Nat), .int .u64 (t : Nat), rv], Res.vec 38 5 rv ms.length (ms.flatMap EntD.cells)]) (fun (k : Nat) (u : Nat) => m.length - k) (fun w' hw => ⟨0, term, ⟨rfl, rfl, rfl, rfl, rfl, rfl, trivial⟩, ⟨Nat.zero_le _, trivial, rfl⟩, hw⟩) (fun k u g hΦ => ?_)
  have hsm := fol_small hΦ.2.1 hi hΦ.1
  refine c_seq ?_
  refine c_reg ?_
  refine l_mv rfl ?_
  refine l_mv rfl ?_
  refine l_lenS (len := m.length) (cs := (m.flatMap EntD.cells)) (by kernel_rfl) rfl (fun w' hw' => Own.rd hv hw') rfl ?_
  refine l_lss rfl rfl rfl ?_
  refine l_end ?_
  refine c_dec rfl (fun c1 => ?_) (fun c1 => ?_)
  ·
    refine c_skipC ?_
    refine c_seq ?_
    refine c_block ?_
    refine c_seq ?_
    refine c_reg ?_
    refine l_mv rfl ?_
    refine l_mv rfl ?_
    refine l_idxS (j := k) (sz := 5) (len := m.length) (cs := (m.flatMap EntD.cells)) rfl rfl (by kernel_rfl) (fun w' hw' => Own.rd hv hw') rfl (by omega) rfl ?_
    refine l_ldSN (k * 5 + 0) (cs := (m.flatMap EntD.cells)) (EntD.cells (nth m k)) rfl (by omega) (fun w' hw' => Own.rd hv hw') (flat_atN (sz := 5) (fun _ => rfl) (nth_some (by omega)) (o := 0) (us := (EntD.cells (nth m k))) (fun k u h => by rw [Nat.zero_add]; exact h)) (by kernel_rfl) rfl ?_
    refine l_call (by kernel_rfl) rfl rfl (fun w' hw => ?_)
    refine (rentOK_s (nth m k) w' (hx _ (nth_mem (by omega))) ((all_hv _ (nth_mem (by omega))).at0 hw)).mono ?_
    rintro _ w1 ⟨rfl, hO⟩
    refine (?_ : CL _ _ _ _ _ _ (Own w (fps [Res.row wb 48 [.int .u64 (i : Nat), .int .u64 (t : Nat), rv], Res.vec 38 5 rv ms.length (ms.flatMap EntD.cells)]) [Res.row wb 48 [.int .u64 (i : Nat), .int .u64 (t : Nat), rv], Res.vec 38 5 rv ms.length (ms.flatMap EntD.cells)])) w1 (hw.frame0 hO)
    refine l_notp (q := (nth m k).ok) rfl rfl ?_
    refine l_mv rfl ?_
    refine l_bor (q := ¬ ((nth m k).ok)) 11 6 [41, 40, 39, 38, 37, 36, 35, 34, 33, 32, 31] ((((nth m k).index - 1 : Nat) : Int) ≠ ((index + k : Nat) : Int)) rfl rfl rfl rfl rfl rfl trivial rfl (fun h5_6 => ?_) (fun g5_18 => ?_)
    ·
      have hok : (nth m k).ok := Decidable.not_not.1 h5_6
      have hok1 := hok.1.1.1
      refine l_on rfl (gF h5_6) ?_
      refine l_mv rfl ?_
      refine l_on rfl (gF h5_6) ?_
      refine l_mv rfl ?_
      refine l_on rfl (gF h5_6) ?_
      refine l_idxS (j := k) (sz := 5) (len := m.length) (cs := (m.flatMap EntD.cells)) rfl rfl (by kernel_rfl) (fun w' hw' => Own.rd hv hw') rfl (by omega) rfl ?_
      refine l_on rfl (gF h5_6) ?_
      refine l_fld (o := 0) rfl (by kernel_rfl) rfl ?_
      refine l_on rfl (gF h5_6) ?_
      refine l_ldS (k * 5 + 0) (cs := (m.flatMap EntD.cells)) rfl (by omega) (fun w' hw' => Own.rd hv hw') (flat_at (sz := 5) (fun _ => rfl) (nth_some (by omega)) (i := 0) rfl) (by kernel_rfl) rfl ?_
      refine l_on rfl (gF h5_6) ?_
      refine l_sub (c := (((nth m k).index - 1 : Nat) : Int)) rfl rfl (ws (b := 1) (by omega) (by have := hok.1.2.1.1; omega)) rfl ?_
      refine l_on rfl (gF h5_6) ?_
      refine l_mv rfl ?_
      refine l_on rfl (gF h5_6) ?_
      refine l_mv rfl ?_
      refine l_on rfl (gF h5_6) ?_
      refine l_cvt (by kernel_rfl) rfl (wu64 (by omega)) rfl ?_ (by kernel_rfl)
      refine l_on rfl (gF h5_6) ?_
      refine l_add rfl rfl (wu64 (by omega)) rfl ?_
      refine l_on rfl (gF h5_6) ?_
      refine l_ne rfl rfl rfl ?_
      exact l_nil (fun w' hw => ⟨(by repeat (first | exact Out.refl _ _ | refine Out.upd rfl ?_ | refine Out.msk rfl ?_)), rfl, hw⟩)
    refine l_mv rfl ?_
    refine l_bor (q := (¬ ((nth m k).ok)) ∨ ((((nth m k).index - 1 : Nat) : Int) ≠ ((index + k : Nat) : Int))) 7 19 [50, 49, 48, 47, 46, 45, 44] ((((nth m k).term : Nat) : Int) < ((u : Nat) : Int)) rfl rfl rfl rfl rfl rfl trivial rfl (fun h5_19 => ?_) (fun g5_27 => ?_)
    ·
      refine l_on rfl (gF h5_19) ?_
      refine l_mv rfl ?_
      refine l_on rfl (gF h5_19) ?_
      refine l_mv rfl ?_
      refine l_on rfl (gF h5_19) ?_
      refine l_idxS (j := k) (sz := 5) (len := m.length) (cs := (m.flatMap EntD.cells)) rfl rfl (by kernel_rfl) (fun w' hw' => Own.rd hv hw') rfl (by omega) rfl ?_
      refine l_on rfl (gF h5_19) ?_
      refine l_fld (o := 1) rfl (by kernel_rfl) rfl ?_
      refine l_on rfl (gF h5_19) ?_
      refine l_ldS (k * 5 + 1) (cs := (m.flatMap EntD.cells)) rfl (by omega) (fun w' hw' => Own.rd hv hw') (flat_at (sz := 5) (fun _ => rfl) (nth_some (by omega)) (i := 1) rfl) (by kernel_rfl) rfl ?_
      refine l_on rfl (gF h5_19) ?_
      refine l_mv rfl ?_
      refine l_on rfl (gF h5_19) ?_
      refine l_lss rfl rfl rfl ?_
      exact l_nil (fun w' hw => ⟨(by repeat (first | exact Out.refl _ _ | refine Out.upd rfl ?_ | refine Out.msk rfl ?_)), rfl, hw⟩)
    refine l_end ?_
    refine c_dec rfl (fun c2 => ?_) (fun c2 => ?_)
    ·
      have hno : ¬ folA index term (m.map EntD.toEntA) := fol_no (by omega) hΦ.2.1 hsm.2.symm hΦ.2.2 (fun q => by rcases c2 with (h | h) | h; (exact h q.1); (have := q.2; omega); (have := q.2; omega))
      refine c_reg ?_
      refine l_as rfl ?_
      refine l_as rfl ?_
      refine l_as rfl ?_
      refine l_end ?_
      exact c_ret (ret3 (v := .int .u64 (0 : Nat)) (v' := .int .u64 (0 : Nat)) (v'' := .int .i64 2) rfl rfl rfl rfl (fun w' hw => ⟨rv, ms, 0, 0, 2, rfl, (app_form hno).1, (app_form hno).2, fun p hp => .inl hp, hw⟩))
    ·
      have hok : (nth m k).ok := Decidable.not_not.1 fun h => c2 (.inl (.inl h))
      have hok1 := hok.1.1.1
      refine c_skipC ?_
      refine c_last ?_
      refine l_mv rfl ?_
      refine l_mv rfl ?_
      refine l_idxS (j := k) (sz := 5) (len := m.length) (cs := (m.flatMap EntD.cells)) rfl rfl (by kernel_rfl) (fun w' hw' => Own.rd hv hw') rfl (by omega) rfl ?_
      refine l_fld (o := 1) rfl (by kernel_rfl) rfl ?_
      refine l_ldS (k * 5 + 1) (cs := (m.flatMap EntD.cells)) rfl (by omega) (fun w' hw' => Own.rd hv hw') (flat_at (sz := 5) (fun _ => rfl) (nth_some (by omega)) (i := 1) rfl) (by kernel_rfl) rfl ?_
      refine l_as rfl ?_
      refine l_end ?_
      refine c_last ?_
      refine l_mv rfl ?_
      refine l_add rfl rfl (wi64 (by omega)) rfl ?_
      refine l_as rfl ?_
      exact l_nil (fun w' hw => ⟨k + 1, (nth m k).term, ⟨rfl, rfl, rfl, rfl, rfl, rfl, trivial⟩, ⟨by omega, (fol_step (by omega) hΦ.2.1 hsm.2.symm hΦ.2.2).1.2 ⟨hok, by omega, by omega⟩, (fol_step (by omega) hΦ.2.1 hsm.2.symm hΦ.2.2).2.2⟩, hw, (by omega)⟩)
  ·
    have hm : folA index term (m.map EntD.toEntA) := by have h := hΦ.2.1; rwa [List.take_of_length_le (by omega)] at h
    refine c_exitC rfl ?_
    refine c_seq ?_
    refine c_reg ?_
    refine l_mv rfl ?_
    refine l_mv rfl ?_
    refine l_mv rfl ?_
    refine l_call (by kernel_rfl) rfl rfl (fun w' hw => ?_)
    refine (rfits_s wb i t rv ms index term w' (by first | assumption | omega | (simp <;> omega) | (constructor <;> (first | omega | (simp only [LenOk]; omega) | (simp <;> omega)))) (by first | assumption | omega | (simp <;> omega) | (constructor <;> (first | omega | (simp only [LenOk]; omega) | (simp <;> omega)))) (hw.rdRes0 0 rfl) (hw.rdVec0 1 rfl) (fun p hp => EntD.rd.at0 (hms p hp) hw)).mono ?_
    rintro _ w1 ⟨rfl, hO⟩
    refine (?_ : CL _ _ _ _ _ _ (Own w (fps [Res.row wb 48 [.int .u64 (i : Nat), .int .u64 (t : Nat), rv], Res.vec 38 5 rv ms.length (ms.flatMap EntD.cells)]) [Res.row wb 48 [.int .u64 (i : Nat), .int .u64 (t : Nat), rv], Res.vec 38 5 rv ms.length (ms.flatMap EntD.cells)])) w1 (hw.frame0 hO)
    refine l_notp (q := (LG i t ms).fits index term) rfl rfl ?_
    refine l_end ?_
    refine c_dec rfl (fun c3 => ?_) (fun c3 => ?_)
    ·
      refine c_reg ?_
      refine l_as rfl ?_
      refine l_as rfl ?_
      refine l_as rfl ?_
      refine l_end ?_
      exact c_ret (ret3 (v := .int .u64 (0 : Nat)) (v' := .int .u64 (0 : Nat)) (v'' := .int .i64 12) rfl rfl rfl rfl (fun w' hw => ⟨rv, ms, 0, 0, 12, rfl, (app_gap hm c3).1, (app_gap hm c3).2, fun p hp => .inl hp, hw⟩))
    ·
      have hf := Decidable.not_not.1 c3
      have hi3 := (LogA.fits_end hf).1
      rw [LG.last_eq] at hi3
      have hi4 : i ≤ index := hi3.1
      refine c_skipC ?_
      refine c_reg ?_
      refine l_as rfl ?_
      refine l_end ?_
      refine c_seq ?_
      refine c_reg ?_
      refine l_as rfl ?_
      refine l_end ?_
      refine c_block ?_
      refine c_loop4 (fun (k : Nat) (y : Nat) (rv' : Value) (ms' : List EntD) => [(0, .pointer (some ⟨wb, 0, none⟩)), (1, .int .u64 (index : Nat)), (3, v), (13, .int .u64 (y : Nat)), (14, .int .i64 (k : Nat))]) (fun (k : Nat) (y : Nat) (rv' : Value) (ms' : List EntD) => k ≤ m.length ∧ RApp (LG i t ms) ms m k y ms') (fun (k : Nat) (y : Nat) (rv' : Value) (ms' : List EntD) => [Res.row wb 48 [.int .u64 (i : Nat), .int .u64 (t : Nat), rv'], Res.vec 38 5 rv' ms'.length (ms'.flatMap EntD.cells)]) (fun (k : Nat) (y : Nat) (rv' : Value) (ms' : List EntD) => m.length - k) (fun w' hw => ⟨0, 0, rv, ms, ⟨rfl, rfl, rfl, rfl, rfl, trivial⟩, ⟨Nat.zero_le _, .inl ⟨rfl, rfl, by simp⟩⟩, hw⟩) (fun k y rv' ms' g hΦ => ?_)
      have hΨ := hΦ
      have hall := fun p (hp : p ∈ ms') => (hΨ.2.mem p hp).elim (hms p) (all_hv p)
      have hlen := hΨ.2.len
      refine c_seq ?_
      refine c_reg ?_
      refine l_mv rfl ?_
      refine l_mv rfl ?_
      refine l_lenS (len := m.length) (cs := (m.flatMap EntD.cells)) (by kernel_rfl) rfl (fun w' hw' => Own.rd hv hw') rfl ?_
      refine l_lss rfl rfl rfl ?_
      refine l_end ?_
      refine c_dec rfl (fun c4 => ?_) (fun c4 => ?_)
      ·
        have hidx : (nth m k).index = index + k + 1 := by have h := hm.idx k (by simpa using (by omega : k < m.length)); rwa [nthA (by omega)] at h
        refine c_skipC ?_
        refine c_seq ?_
        refine c_block ?_
        refine c_seq ?_
        refine c_seq ?_
        refine c_heldo [0, 1] rfl (by decide) (by kernel_rfl) (fun w' hw hS => ?_)
        refine h_take 0 rfl (by kernel_rfl) (by kernel_rfl) (by kernel_rfl) (v_mv) rfl hS ?_
        refine h_take 1 rfl (by kernel_rfl) (by kernel_rfl) (by kernel_rfl) (v_eq rfl rfl) rfl hS ?_
        refine h_take 2 rfl (by kernel_rfl) (by kernel_rfl) (by kernel_rfl) (v_mv) rfl hS ?_
        by_cases g14_2 : ((y : Nat) : Int) = ((0 : Nat) : Int)
        ·
          have hz := hΨ.2.zero (by omega)
          have hg' : (LG i t ms').good := hz.1 ▸ hg
          refine h_takeg 3 rfl rfl (gT g14_2) (by kernel_rfl) (by kernel_rfl) (by kernel_rfl) (v_mv) rfl hS ?_
          refine h_takeg 4 rfl rfl (gT g14_2) (by kernel_rfl) (by kernel_rfl) (by kernel_rfl) (v_mv) rfl hS ?_
          refine h_takeg 5 rfl rfl (gT g14_2) (by kernel_rfl) (by kernel_rfl) (by kernel_rfl) (v_mv) rfl hS ?_
          refine h_takeg 6 rfl rfl (gT g14_2) (by kernel_rfl) (by kernel_rfl) (by kernel_rfl) (v_idxS (j := k) (sz := 5) (len := m.length) (cs := (m.flatMap EntD.cells)) rfl rfl (by kernel_rfl) (fun w' hw' => Own.rd hv hw') rfl (by omega)) rfl hS ?_
          refine h_takeg 7 rfl rfl (gT g14_2) (by kernel_rfl) (by kernel_rfl) (by kernel_rfl) (v_fld (o := 0) rfl (by kernel_rfl)) rfl hS ?_
          refine h_takeg 8 rfl rfl (gT g14_2) (by kernel_rfl) (by kernel_rfl) (by kernel_rfl) (v_ldS (k * 5 + 0) (cs := (m.flatMap EntD.cells)) rfl (by omega) (fun w' hw' => Own.rd hv hw') (flat_at (sz := 5) (fun _ => rfl) (nth_some (by omega)) (i := 0) rfl) (by kernel_rfl)) rfl hS ?_
          refine h_takeg 9 rfl rfl (gT g14_2) (by kernel_rfl) (by kernel_rfl) (by kernel_rfl) (v_mv) rfl hS ?_
          refine h_takeg 10 rfl rfl (gT g14_2) (by kernel_rfl) (by kernel_rfl) (by kernel_rfl) (v_mv) rfl hS ?_
          refine h_takeg 11 rfl rfl (gT g14_2) (by kernel_rfl) (by kernel_rfl) (by kernel_rfl) (v_idxS (j := k) (sz := 5) (len := m.length) (cs := (m.flatMap EntD.cells)) rfl rfl (by kernel_rfl) (fun w' hw' => Own.rd hv hw') rfl (by omega)) rfl hS ?_
          refine h_takeg 12 rfl rfl (gT g14_2) (by kernel_rfl) (by kernel_rfl) (by kernel_rfl) (v_fld (o := 1) rfl (by kernel_rfl)) rfl hS ?_
          refine h_takeg 13 rfl rfl (gT g14_2) (by kernel_rfl) (by kernel_rfl) (by kernel_rfl) (v_ldS (k * 5 + 1) (cs := (m.flatMap EntD.cells)) rfl (by omega) (fun w' hw' => Own.rd hv hw') (flat_at (sz := 5) (fun _ => rfl) (nth_some (by omega)) (i := 1) rfl) (by kernel_rfl)) rfl hS ?_
          refine h_one 14 (by kernel_rfl) rfl hw ?_
          refine l_on rfl (gT g14_2) ?_
          refine l_call (by kernel_rfl) rfl rfl (fun w' hw => ?_)
          refine (rfits_s wb i t rv' ms' ((nth m k).index) ((nth m k).term) w' (by first | assumption | omega | (simp <;> omega) | (constructor <;> (first | omega | (simp only [LenOk]; omega) | (simp <;> omega)))) (by first | assumption | omega | (simp <;> omega) | (constructor <;> (first | omega | (simp only [LenOk]; omega) | (simp <;> omega)))) (hw.rdRes0 0 rfl) (hw.rdVec0 1 rfl) (fun p hp => EntD.rd.at0 (hall p hp) hw)).mono ?_
          rintro _ w1 ⟨rfl, hO⟩
          refine (?_ : CL _ _ _ _ _ _ (Own w (fps [Res.row wb 48 [.int .u64 (i : Nat), .int .u64 (t : Nat), rv], Res.vec 38 5 rv ms.length (ms.flatMap EntD.cells)]) [Res.row wb 48 [.int .u64 (i : Nat), .int .u64 (t : Nat), rv'], Res.vec 38 5 rv' ms'.length (ms'.flatMap EntD.cells)])) w1 (hw.frame0 hO)
          refine l_nil (fun w' hw => ?_)
          have hS := hw.sel [0, 1] rfl (by decide)
          refine ⟨hS, ?_⟩
          refine h_take 15 rfl (by kernel_rfl) (by kernel_rfl) (by kernel_rfl) (v_pickT (gT g14_2)) rfl hS ?_
          refine h_done (by kernel_rfl) ?_
          refine (?_ : C _ _ _ _ _ _ _ (Own w (fps [Res.row wb 48 [.int .u64 (i : Nat), .int .u64 (t : Nat), rv], Res.vec 38 5 rv ms.length (ms.flatMap EntD.cells)]) [Res.row wb 48 [.int .u64 (i : Nat), .int .u64 (t : Nat), rv'], Res.vec 38 5 rv' ms'.length (ms'.flatMap EntD.cells)])) _ hw
          refine c_dec rfl (fun c5 => ?_) (fun c5 => ?_)
          ·
            refine c_exitC rfl ?_
            refine c_last ?_
            refine l_mv rfl ?_
            refine l_add rfl rfl (wi64 (by omega)) rfl ?_
            refine l_as rfl ?_
            exact l_nil (fun w' hw => ⟨k + 1, y, rv', ms', ⟨rfl, rfl, rfl, rfl, rfl, trivial⟩, ⟨by omega, hΨ.2.skip (by omega) (by omega) (by have h := c5; rw [hz.1] at h; exact h)⟩, hw, (by omega)⟩)
          ·
            refine c_skipC ?_
            refine c_seq ?_
            refine c_reg ?_
            refine l_mv rfl ?_
            refine l_eq rfl rfl rfl ?_
            refine l_end ?_
            refine c_dec rfl (fun c6 => ?_) (fun c6 => ?_)
            ·
              refine c_reg ?_
              refine l_mv rfl ?_
              refine l_mv rfl ?_
              refine l_idxS (j := k) (sz := 5) (len := m.length) (cs := (m.flatMap EntD.cells)) rfl rfl (by kernel_rfl) (fun w' hw' => Own.rd hv hw') rfl (by omega) rfl ?_
              refine l_fld (o := 0) rfl (by kernel_rfl) rfl ?_
              refine l_ldS (k * 5 + 0) (cs := (m.flatMap EntD.cells)) rfl (by omega) (fun w' hw' => Own.rd hv hw') (flat_at (sz := 5) (fun _ => rfl) (nth_some (by omega)) (i := 0) rfl) (by kernel_rfl) rfl ?_
              refine l_as rfl ?_
              refine l_end ?_
              refine c_reg ?_
              refine l_as rfl ?_
              refine l_end ?_
              refine c_seq ?_
              refine c_reg ?_
              refine l_as rfl ?_
              refine l_end ?_
              refine c_block ?_
              refine c_loop3 (fun (q : Nat) (kv : Value) (ks : List EntD) => [(0, .pointer (some ⟨wb, 0, none⟩)), (1, .int .u64 (index : Nat)), (3, v), (13, .int .u64 ((nth m k).index : Nat)), (14, .int .i64 (k : Nat)), (15, kv), (16, .int .i64 (q : Nat))]) (fun (q : Nat) (kv : Value) (ks : List EntD) => q ≤ ms'.length ∧ ks = (ms'.take q).filter (fun e => decide (e.index < (nth m k).index))) (fun (q : Nat) (kv : Value) (ks : List EntD) => [Res.row wb 48 [.int .u64 (i : Nat), .int .u64 (t : Nat), rv'], Res.vec 38 5 rv' ms'.length (ms'.flatMap EntD.cells), Res.vec 38 5 kv ks.length (ks.flatMap EntD.cells)]) (fun (q : Nat) (kv : Value) (ks : List EntD) => ms'.length - q) (fun w' hw => ⟨0, .slice none 0 0, [], ⟨rfl, rfl, rfl, rfl, rfl, rfl, rfl, trivial⟩, ⟨Nat.zero_le _, by simp⟩, own_nil hw 38 5⟩) (fun q kv ks g hΦ => ?_)
              have hks : ks.length ≤ ms'.length := by rw [hΦ.2]; exact Nat.le_trans (List.length_filter_le _ _) (by simp; omega)
              refine c_seq ?_
              refine c_reg ?_
              refine l_mv rfl ?_
              refine l_mv rfl ?_
              refine l_nck rfl rfl ?_
              refine l_fld (o := 2) rfl (by kernel_rfl) rfl ?_
              refine l_ldo 0 (v := rv') rfl rfl rfl (by kernel_rfl) rfl ?_
              refine l_lenS (len := ms'.length) (cs := (ms'.flatMap EntD.cells)) (by kernel_rfl) rfl (fun w' hw' => Vec.sl (Own.holds hw' 1 _ rfl)) rfl ?_
              refine l_lss rfl rfl rfl ?_
              refine l_end ?_
              refine c_dec rfl (fun c7 => ?_) (fun c7 => ?_)
              ·
                refine c_skipC ?_
                refine c_seq ?_
                refine c_block ?_
                refine c_reg ?_
                refine l_mv rfl ?_
                refine l_nck rfl rfl ?_
                refine l_fld (o := 2) rfl (by kernel_rfl) rfl ?_
                refine l_ldo 0 (v := rv') rfl rfl rfl (by kernel_rfl) rfl ?_
                refine l_mv rfl ?_
                refine l_idxS (j := q) (sz := 5) (len := ms'.length) (cs := (ms'.flatMap EntD.cells)) rfl rfl (by kernel_rfl) (fun w' hw' => Vec.sl (Own.holds hw' 1 _ rfl)) rfl (by omega) rfl ?_
                refine l_fld (o := 0) rfl (by kernel_rfl) rfl ?_
                refine l_ldS (q * 5 + 0) (cs := (ms'.flatMap EntD.cells)) rfl (by omega) (fun w' hw' => Vec.sl (Own.holds hw' 1 _ rfl)) (flat_at (sz := 5) (fun _ => rfl) (nth_some (by omega)) (i := 0) rfl) (by kernel_rfl) rfl ?_
                refine l_mv rfl ?_
                refine l_lss rfl rfl rfl ?_
                refine l_end ?_
                refine c_dec rfl (fun c8 => ?_) (fun c8 => ?_)
                ·
                  refine c_last ?_
                  refine l_mv rfl ?_
                  refine l_mv rfl ?_
                  refine l_nck rfl rfl ?_
                  refine l_fld (o := 2) rfl (by kernel_rfl) rfl ?_
                  refine l_ldo 0 (v := rv') rfl rfl rfl (by kernel_rfl) rfl ?_
                  refine l_mv rfl ?_
                  refine l_idxS (j := q) (sz := 5) (len := ms'.length) (cs := (ms'.flatMap EntD.cells)) rfl rfl (by kernel_rfl) (fun w' hw' => Vec.sl (Own.holds hw' 1 _ rfl)) rfl (by omega) rfl ?_
                  refine l_ldSN (q * 5 + 0) (cs := (ms'.flatMap EntD.cells)) (EntD.cells (nth ms' q)) rfl (by omega) (fun w' hw' => Vec.sl (Own.holds hw' 1 _ rfl)) (flat_atN (sz := 5) (fun _ => rfl) (nth_some (by omega)) (o := 0) (us := (EntD.cells (nth ms' q))) (fun k u h => by rw [Nat.zero_add]; exact h)) (by kernel_rfl) rfl ?_
                  refine l_bsl (e := 38) (sz := 5) (vs := [.agg (EntD.cells (nth ms' q)).toArray]) (by kernel_rfl) rfl rfl (by simp [Value.cells, EntD.cells]) (by decide) rfl (fun b118 => ?_)
                  refine l_appF (g := EntD.cells) (sz := 5) (by' := 56) (fun _ => rfl) (l := ks) (l' := [(nth ms' q)]) (all_cons ((allc_cons rfl (allc_cons rfl (allc_cons rfl (allc_cons rfl (allc_cons (Sl.cell1 (Rd.φ ((hall _ (nth_mem (by omega))).dv))) allc_nil)))))) (by simp)) 2 (by kernel_rfl) rfl rfl rfl (fun w' hw' => Vec.sl (Own.holds hw' 3 _ rfl)) (by first | omega | (simp; omega)) (by decide) rfl (fun v119 => ?_)
                  refine l_as rfl ?_
                  refine l_end ?_
                  refine c_last ?_
                  refine l_mv rfl ?_
                  refine l_add rfl rfl (wi64 (by omega)) rfl ?_
                  refine l_as rfl ?_
                  exact l_nil (fun w' hw => ⟨q + 1, v119, ks ++ [nth ms' q], ⟨rfl, rfl, rfl, rfl, rfl, rfl, rfl, trivial⟩, ⟨by omega, by rw [filter_snoc (by omega), if_pos (by rw [decide_eq_true_iff]; omega), ← hΦ.2]⟩, hw.sel [0, 1, 2] rfl (by decide), (by omega)⟩)
                ·
                  refine c_skipC ?_
                  refine c_last ?_
                  refine l_mv rfl ?_
                  refine l_add rfl rfl (wi64 (by omega)) rfl ?_
                  refine l_as rfl ?_
                  exact l_nil (fun w' hw => ⟨q + 1, kv, ks, ⟨rfl, rfl, rfl, rfl, rfl, rfl, rfl, trivial⟩, ⟨by omega, by rw [filter_snoc (by omega), if_neg (by rw [decide_eq_true_iff]; omega), ← hΦ.2, List.append_nil]⟩, hw, (by omega)⟩)
              ·
                have hks2 : ks = ms.take ((nth m k).index - i - 1) := by rw [hΦ.2, List.take_of_length_le (by omega), hz.1]; exact LG.below hg _
                refine c_exitC rfl ?_
                refine c_last ?_
                refine l_mv rfl ?_
                refine l_mv rfl ?_
                refine l_nck rfl rfl ?_
                refine l_fld (o := 2) rfl (by kernel_rfl) rfl ?_
                refine l_haveO (fun w' hw => Own.cell1Vec (i := 2) rfl hw) (fun hc1_ => ?_)
                refine l_st (cs := [.int .u64 (i : Nat), .int .u64 (t : Nat), rv']) 0 rfl rfl rfl (by kernel_rfl) hc1_ (Nat.le_of_ble_eq_true rfl) ?_
                refine l_end ?_
                refine c_heldo [1] rfl (by decide) (by kernel_rfl) (fun w' hw hS => ?_)
                refine h_take 0 rfl (by kernel_rfl) (by kernel_rfl) (by kernel_rfl) (v_mv) rfl hS ?_
                refine h_take 1 rfl (by kernel_rfl) (by kernel_rfl) (by kernel_rfl) (v_mv) rfl hS ?_
                refine h_take 2 rfl (by kernel_rfl) (by kernel_rfl) (by kernel_rfl) (v_nck rfl) rfl hS ?_
                refine h_take 3 rfl (by kernel_rfl) (by kernel_rfl) (by kernel_rfl) (v_fld (o := 2) rfl (by kernel_rfl)) rfl hS ?_
                refine h_take 5 rfl (by kernel_rfl) (by kernel_rfl) (by kernel_rfl) (v_mv) rfl hS ?_
                refine h_take 6 rfl (by kernel_rfl) (by kernel_rfl) (by kernel_rfl) (v_mv) rfl hS ?_
                refine h_take 7 rfl (by kernel_rfl) (by kernel_rfl) (by kernel_rfl) (v_idxS (j := k) (sz := 5) (len := m.length) (cs := (m.flatMap EntD.cells)) rfl rfl (by kernel_rfl) (fun w' hw' => Own.rd hv hw') rfl (by omega)) rfl hS ?_
                refine h_take 8 rfl (by kernel_rfl) (by kernel_rfl) (by kernel_rfl) (v_ldSN (k * 5 + 0) (cs := (m.flatMap EntD.cells)) (EntD.cells (nth m k)) rfl (by omega) (fun w' hw' => Own.rd hv hw') (flat_atN (sz := 5) (fun _ => rfl) (nth_some (by omega)) (o := 0) (us := (EntD.cells (nth m k))) (fun k u h => by rw [Nat.zero_add]; exact h)) (by kernel_rfl)) rfl hS ?_
                refine h_pick2 (i := 4) (j := 9) (by kernel_rfl) ?_ ?_
                ·
                  refine pk_of 4 rfl hw ?_
                  refine l_ldo 0 (v := kv) rfl rfl rfl (by kernel_rfl) rfl ?_
                  refine l_nil (fun w' hw => ?_)
                  have hS := hw.sel [1] rfl (by decide)
                  refine ⟨hS, ?_⟩
                  refine h_one 9 (by kernel_rfl) rfl hw ?_
                  refine l_bsl (e := 38) (sz := 5) (vs := [.agg (EntD.cells (nth m k)).toArray]) (by kernel_rfl) rfl rfl (by simp [Value.cells, EntD.cells]) (by decide) rfl (fun b133 => ?_)
                  refine l_nil (fun w' hw => ?_)
                  have hS := hw.sel [1] rfl (by decide)
                  refine ⟨hS, ?_⟩
                  refine h_one 10 (by kernel_rfl) rfl hw ?_
                  refine l_appF (g := EntD.cells) (sz := 5) (by' := 56) (fun _ => rfl) (l := ks) (l' := [(nth m k)]) (all_cons ((allc_cons rfl (allc_cons rfl (allc_cons rfl (allc_cons rfl (allc_cons (Sl.cell1 (Rd.φ ((all_hv _ (nth_mem (by omega))).dv))) allc_nil)))))) (by simp)) 2 (by kernel_rfl) rfl rfl rfl (fun w' hw' => Vec.sl (Own.holds hw' 3 _ rfl)) (by first | omega | (simp; omega)) (by decide) rfl (fun v134 => ?_)
                  refine l_nil (fun w' hw => ?_)
                  have hS := hw.sel [1] rfl (by decide)
                  refine ⟨hS, ?_⟩
                  refine h_take 11 rfl (by kernel_rfl) (by kernel_rfl) (by kernel_rfl) (v_nck rfl) rfl hS ?_
                  refine h_take 12 rfl (by kernel_rfl) (by kernel_rfl) (by kernel_rfl) (v_fld (o := 2) rfl (by kernel_rfl)) rfl hS ?_
                  refine h_one 13 (by kernel_rfl) rfl hw ?_
                  refine l_haveO (fun w' hw => Own.cell1Vec (i := 2) rfl hw) (fun hc3_ => ?_)
                  refine l_st (cs := [.int .u64 (i : Nat), .int .u64 (t : Nat), kv]) 0 rfl rfl rfl (by kernel_rfl) hc3_ (Nat.le_of_ble_eq_true rfl) ?_
                  refine l_nil (fun w' hw => ?_)
                  have hS := hw.sel [1] rfl (by decide)
                  refine ⟨hS, ?_⟩
                  refine h_done (by kernel_rfl) ?_
                  refine (?_ : C _ _ _ _ _ _ _ (Own w (fps [Res.row wb 48 [.int .u64 (i : Nat), .int .u64 (t : Nat), rv], Res.vec 38 5 rv ms.length (ms.flatMap EntD.cells)]) [Res.row wb 48 [.int .u64 (i : Nat), .int .u64 (t : Nat), v134], Res.vec 38 5 rv' ms'.length (ms'.flatMap EntD.cells), Res.vec 38 5 v134 (ks ++ [(nth m k)]).length ((ks ++ [(nth m k)]).flatMap EntD.cells), Res.vec 38 5 (.slice (some ⟨b133, 0, none⟩) 1 1) [(nth m k)].length ([(nth m k)].flatMap EntD.cells)])) _ hw
                  refine c_last ?_
                  refine l_mv rfl ?_
                  refine l_add rfl rfl (wi64 (by omega)) rfl ?_
                  refine l_as rfl ?_
                  exact l_nil (fun w' hw => ⟨k + 1, (nth m k).index, v134, ks ++ [nth m k], ⟨rfl, rfl, rfl, rfl, rfl, trivial⟩, ⟨by omega, by rw [hks2]; exact hΨ.2.first (by omega) (by omega) (by have h := c5; rw [hz.1] at h; exact h) (by omega)⟩, hw.sel [0, 2] rfl (by decide), (by omega)⟩)
                ·
                  refine pk_of 9 rfl hw ?_
                  refine l_bsl (e := 38) (sz := 5) (vs := [.agg (EntD.cells (nth m k)).toArray]) (by kernel_rfl) rfl rfl (by simp [Value.cells, EntD.cells]) (by decide) rfl (fun b133 => ?_)
                  refine l_nil (fun w' hw => ?_)
                  have hS := hw.sel [1] rfl (by decide)
                  refine ⟨hS, ?_⟩
                  refine h_one 4 (by kernel_rfl) rfl hw ?_
                  refine l_ldo 0 (v := kv) rfl rfl rfl (by kernel_rfl) rfl ?_
                  refine l_nil (fun w' hw => ?_)
                  have hS := hw.sel [1] rfl (by decide)
                  refine ⟨hS, ?_⟩
                  refine h_one 10 (by kernel_rfl) rfl hw ?_
                  refine l_appF (g := EntD.cells) (sz := 5) (by' := 56) (fun _ => rfl) (l := ks) (l' := [(nth m k)]) (all_cons ((allc_cons rfl (allc_cons rfl (allc_cons rfl (allc_cons rfl (allc_cons (Sl.cell1 (Rd.φ ((all_hv _ (nth_mem (by omega))).dv))) allc_nil)))))) (by simp)) 2 (by kernel_rfl) rfl rfl rfl (fun w' hw' => Vec.sl (Own.holds hw' 3 _ rfl)) (by first | omega | (simp; omega)) (by decide) rfl (fun v134 => ?_)
                  refine l_nil (fun w' hw => ?_)
                  have hS := hw.sel [1] rfl (by decide)
                  refine ⟨hS, ?_⟩
                  refine h_take 11 rfl (by kernel_rfl) (by kernel_rfl) (by kernel_rfl) (v_nck rfl) rfl hS ?_
                  refine h_take 12 rfl (by kernel_rfl) (by kernel_rfl) (by kernel_rfl) (v_fld (o := 2) rfl (by kernel_rfl)) rfl hS ?_
                  refine h_one 13 (by kernel_rfl) rfl hw ?_
                  refine l_haveO (fun w' hw => Own.cell1Vec (i := 2) rfl hw) (fun hc4_ => ?_)
                  refine l_st (cs := [.int .u64 (i : Nat), .int .u64 (t : Nat), kv]) 0 rfl rfl rfl (by kernel_rfl) hc4_ (Nat.le_of_ble_eq_true rfl) ?_
                  refine l_nil (fun w' hw => ?_)
                  have hS := hw.sel [1] rfl (by decide)
                  refine ⟨hS, ?_⟩
                  refine h_done (by kernel_rfl) ?_
                  refine (?_ : C _ _ _ _ _ _ _ (Own w (fps [Res.row wb 48 [.int .u64 (i : Nat), .int .u64 (t : Nat), rv], Res.vec 38 5 rv ms.length (ms.flatMap EntD.cells)]) [Res.row wb 48 [.int .u64 (i : Nat), .int .u64 (t : Nat), v134], Res.vec 38 5 rv' ms'.length (ms'.flatMap EntD.cells), Res.vec 38 5 v134 (ks ++ [(nth m k)]).length ((ks ++ [(nth m k)]).flatMap EntD.cells), Res.vec 38 5 (.slice (some ⟨b133, 0, none⟩) 1 1) [(nth m k)].length ([(nth m k)].flatMap EntD.cells)])) _ hw
                  refine c_last ?_
                  refine l_mv rfl ?_
                  refine l_add rfl rfl (wi64 (by omega)) rfl ?_
                  refine l_as rfl ?_
                  exact l_nil (fun w' hw => ⟨k + 1, (nth m k).index, v134, ks ++ [nth m k], ⟨rfl, rfl, rfl, rfl, rfl, trivial⟩, ⟨by omega, by rw [hks2]; exact hΨ.2.first (by omega) (by omega) (by have h := c5; rw [hz.1] at h; exact h) (by omega)⟩, hw.sel [0, 2] rfl (by decide), (by omega)⟩)
            ·
              exact absurd g14_2 c6
        ·
          refine h_offg 3 rfl rfl (gF g14_2) rfl (by kernel_rfl) (by kernel_rfl) (by kernel_rfl) rfl hS ?_
          refine h_offg 4 rfl rfl (gF g14_2) rfl (by kernel_rfl) (by kernel_rfl) (by kernel_rfl) rfl hS ?_
          refine h_offg 5 rfl rfl (gF g14_2) rfl (by kernel_rfl) (by kernel_rfl) (by kernel_rfl) rfl hS ?_
          refine h_offg 6 rfl rfl (gF g14_2) rfl (by kernel_rfl) (by kernel_rfl) (by kernel_rfl) rfl hS ?_
          refine h_offg 7 rfl rfl (gF g14_2) rfl (by kernel_rfl) (by kernel_rfl) (by kernel_rfl) rfl hS ?_
          refine h_offg 8 rfl rfl (gF g14_2) rfl (by kernel_rfl) (by kernel_rfl) (by kernel_rfl) rfl hS ?_
          refine h_offg 9 rfl rfl (gF g14_2) rfl (by kernel_rfl) (by kernel_rfl) (by kernel_rfl) rfl hS ?_
          refine h_offg 10 rfl rfl (gF g14_2) rfl (by kernel_rfl) (by kernel_rfl) (by kernel_rfl) rfl hS ?_
          refine h_offg 11 rfl rfl (gF g14_2) rfl (by kernel_rfl) (by kernel_rfl) (by kernel_rfl) rfl hS ?_
          refine h_offg 12 rfl rfl (gF g14_2) rfl (by kernel_rfl) (by kernel_rfl) (by kernel_rfl) rfl hS ?_
          refine h_offg 13 rfl rfl (gF g14_2) rfl (by kernel_rfl) (by kernel_rfl) (by kernel_rfl) rfl hS ?_
          refine h_offg 14 rfl rfl (gF g14_2) rfl (by kernel_rfl) (by kernel_rfl) (by kernel_rfl) rfl hS ?_
          refine h_take 15 rfl (by kernel_rfl) (by kernel_rfl) (by kernel_rfl) (v_pickF (gF g14_2)) rfl hS ?_
          refine h_done (by kernel_rfl) ?_
          refine (?_ : C _ _ _ _ _ _ _ (Own w (fps [Res.row wb 48 [.int .u64 (i : Nat), .int .u64 (t : Nat), rv], Res.vec 38 5 rv ms.length (ms.flatMap EntD.cells)]) [Res.row wb 48 [.int .u64 (i : Nat), .int .u64 (t : Nat), rv'], Res.vec 38 5 rv' ms'.length (ms'.flatMap EntD.cells)])) _ hw
          refine c_no rfl ?_
          refine c_skipC ?_
          refine c_seq ?_
          refine c_reg ?_
          refine l_mv rfl ?_
          refine l_eq rfl rfl rfl ?_
          refine l_end ?_
          refine c_dec rfl (fun c10 => ?_) (fun c10 => ?_)
          ·
            exact absurd c10 g14_2
          ·
            refine c_skipC ?_
            refine c_heldo [] rfl (by decide) (by kernel_rfl) (fun w' hw hS => ?_)
            refine h_take 0 rfl (by kernel_rfl) (by kernel_rfl) (by kernel_rfl) (v_mv) rfl hS ?_
            refine h_take 1 rfl (by kernel_rfl) (by kernel_rfl) (by kernel_rfl) (v_mv) rfl hS ?_
            refine h_take 2 rfl (by kernel_rfl) (by kernel_rfl) (by kernel_rfl) (v_nck rfl) rfl hS ?_
            refine h_take 3 rfl (by kernel_rfl) (by kernel_rfl) (by kernel_rfl) (v_fld (o := 2) rfl (by kernel_rfl)) rfl hS ?_
            refine h_take 5 rfl (by kernel_rfl) (by kernel_rfl) (by kernel_rfl) (v_mv) rfl hS ?_
            refine h_take 6 rfl (by kernel_rfl) (by kernel_rfl) (by kernel_rfl) (v_mv) rfl hS ?_
            refine h_take 7 rfl (by kernel_rfl) (by kernel_rfl) (by kernel_rfl) (v_idxS (j := k) (sz := 5) (len := m.length) (cs := (m.flatMap EntD.cells)) rfl rfl (by kernel_rfl) (fun w' hw' => Own.rd hv hw') rfl (by omega)) rfl hS ?_
            refine h_take 8 rfl (by kernel_rfl) (by kernel_rfl) (by kernel_rfl) (v_ldSN (k * 5 + 0) (cs := (m.flatMap EntD.cells)) (EntD.cells (nth m k)) rfl (by omega) (fun w' hw' => Own.rd hv hw') (flat_atN (sz := 5) (fun _ => rfl) (nth_some (by omega)) (o := 0) (us := (EntD.cells (nth m k))) (fun k u h => by rw [Nat.zero_add]; exact h)) (by kernel_rfl)) rfl hS ?_
            refine h_pick2 (i := 4) (j := 9) (by kernel_rfl) ?_ ?_
            ·
              refine pk_of 4 rfl hw ?_
              refine l_ldo 0 (v := rv') rfl rfl rfl (by kernel_rfl) rfl ?_
              refine l_nil (fun w' hw => ?_)
              have hS := hw.sel [] rfl (by decide)
              refine ⟨hS, ?_⟩
              refine h_one 9 (by kernel_rfl) rfl hw ?_
              refine l_bsl (e := 38) (sz := 5) (vs := [.agg (EntD.cells (nth m k)).toArray]) (by kernel_rfl) rfl rfl (by simp [Value.cells, EntD.cells]) (by decide) rfl (fun b133 => ?_)
              refine l_nil (fun w' hw => ?_)
              have hS := hw.sel [] rfl (by decide)
              refine ⟨hS, ?_⟩
              refine h_one 10 (by kernel_rfl) rfl hw ?_
              refine l_appF (g := EntD.cells) (sz := 5) (by' := 56) (fun _ => rfl) (l := ms') (l' := [(nth m k)]) (all_cons ((allc_cons rfl (allc_cons rfl (allc_cons rfl (allc_cons rfl (allc_cons (Sl.cell1 (Rd.φ ((all_hv _ (nth_mem (by omega))).dv))) allc_nil)))))) (by simp)) 1 (by kernel_rfl) rfl rfl rfl (fun w' hw' => Vec.sl (Own.holds hw' 2 _ rfl)) (by first | omega | (simp; omega)) (by decide) rfl (fun v134 => ?_)
              refine l_nil (fun w' hw => ?_)
              have hS := hw.sel [] rfl (by decide)
              refine ⟨hS, ?_⟩
              refine h_take 11 rfl (by kernel_rfl) (by kernel_rfl) (by kernel_rfl) (v_nck rfl) rfl hS ?_
              refine h_take 12 rfl (by kernel_rfl) (by kernel_rfl) (by kernel_rfl) (v_fld (o := 2) rfl (by kernel_rfl)) rfl hS ?_
              refine h_one 13 (by kernel_rfl) rfl hw ?_
              refine l_haveO (fun w' hw => Own.cell1Vec (i := 1) rfl hw) (fun hc6_ => ?_)
              refine l_st (cs := [.int .u64 (i : Nat), .int .u64 (t : Nat), rv']) 0 rfl rfl rfl (by kernel_rfl) hc6_ (Nat.le_of_ble_eq_true rfl) ?_
              refine l_nil (fun w' hw => ?_)
              have hS := hw.sel [] rfl (by decide)
              refine ⟨hS, ?_⟩
              refine h_done (by kernel_rfl) ?_
              refine (?_ : C _ _ _ _ _ _ _ (Own w (fps [Res.row wb 48 [.int .u64 (i : Nat), .int .u64 (t : Nat), rv], Res.vec 38 5 rv ms.length (ms.flatMap EntD.cells)]) [Res.row wb 48 [.int .u64 (i : Nat), .int .u64 (t : Nat), v134], Res.vec 38 5 v134 (ms' ++ [(nth m k)]).length ((ms' ++ [(nth m k)]).flatMap EntD.cells), Res.vec 38 5 (.slice (some ⟨b133, 0, none⟩) 1 1) [(nth m k)].length ([(nth m k)].flatMap EntD.cells)])) _ hw
              refine c_last ?_
              refine l_mv rfl ?_
              refine l_add rfl rfl (wi64 (by omega)) rfl ?_
              refine l_as rfl ?_
              exact l_nil (fun w' hw => ⟨k + 1, y, v134, ms' ++ [nth m k], ⟨rfl, rfl, rfl, rfl, rfl, trivial⟩, ⟨by omega, hΨ.2.more (by omega) (by omega)⟩, hw.sel [0, 1] rfl (by decide), (by omega)⟩)
            ·
              refine pk_of 9 rfl hw ?_
              refine l_bsl (e := 38) (sz := 5) (vs := [.agg (EntD.cells (nth m k)).toArray]) (by kernel_rfl) rfl rfl (by simp [Value.cells, EntD.cells]) (by decide) rfl (fun b133 => ?_)
              refine l_nil (fun w' hw => ?_)
              have hS := hw.sel [] rfl (by decide)
              refine ⟨hS, ?_⟩
              refine h_one 4 (by kernel_rfl) rfl hw ?_
              refine l_ldo 0 (v := rv') rfl rfl rfl (by kernel_rfl) rfl ?_
              refine l_nil (fun w' hw => ?_)
              have hS := hw.sel [] rfl (by decide)
              refine ⟨hS, ?_⟩
              refine h_one 10 (by kernel_rfl) rfl hw ?_
              refine l_appF (g := EntD.cells) (sz := 5) (by' := 56) (fun _ => rfl) (l := ms') (l' := [(nth m k)]) (all_cons ((allc_cons rfl (allc_cons rfl (allc_cons rfl (allc_cons rfl (allc_cons (Sl.cell1 (Rd.φ ((all_hv _ (nth_mem (by omega))).dv))) allc_nil)))))) (by simp)) 1 (by kernel_rfl) rfl rfl rfl (fun w' hw' => Vec.sl (Own.holds hw' 2 _ rfl)) (by first | omega | (simp; omega)) (by decide) rfl (fun v134 => ?_)
              refine l_nil (fun w' hw => ?_)
              have hS := hw.sel [] rfl (by decide)
              refine ⟨hS, ?_⟩
              refine h_take 11 rfl (by kernel_rfl) (by kernel_rfl) (by kernel_rfl) (v_nck rfl) rfl hS ?_
              refine h_take 12 rfl (by kernel_rfl) (by kernel_rfl) (by kernel_rfl) (v_fld (o := 2) rfl (by kernel_rfl)) rfl hS ?_
              refine h_one 13 (by kernel_rfl) rfl hw ?_
              refine l_haveO (fun w' hw => Own.cell1Vec (i := 1) rfl hw) (fun hc7_ => ?_)
              refine l_st (cs := [.int .u64 (i : Nat), .int .u64 (t : Nat), rv']) 0 rfl rfl rfl (by kernel_rfl) hc7_ (Nat.le_of_ble_eq_true rfl) ?_
              refine l_nil (fun w' hw => ?_)
              have hS := hw.sel [] rfl (by decide)
              refine ⟨hS, ?_⟩
              refine h_done (by kernel_rfl) ?_
              refine (?_ : C _ _ _ _ _ _ _ (Own w (fps [Res.row wb 48 [.int .u64 (i : Nat), .int .u64 (t : Nat), rv], Res.vec 38 5 rv ms.length (ms.flatMap EntD.cells)]) [Res.row wb 48 [.int .u64 (i : Nat), .int .u64 (t : Nat), v134], Res.vec 38 5 v134 (ms' ++ [(nth m k)]).length ((ms' ++ [(nth m k)]).flatMap EntD.cells), Res.vec 38 5 (.slice (some ⟨b133, 0, none⟩) 1 1) [(nth m k)].length ([(nth m k)].flatMap EntD.cells)])) _ hw
              refine c_last ?_
              refine l_mv rfl ?_
              refine l_add rfl rfl (wi64 (by omega)) rfl ?_
              refine l_as rfl ?_
              exact l_nil (fun w' hw => ⟨k + 1, y, v134, ms' ++ [nth m k], ⟨rfl, rfl, rfl, rfl, rfl, trivial⟩, ⟨by omega, hΨ.2.more (by omega) (by omega)⟩, hw.sel [0, 1] rfl (by decide), (by omega)⟩)
      ·
        have hR : RApp (LG i t ms) ms m m.length y ms' := by rw [show m.length = k by omega]; exact hΨ.2
        have hend := hR.end_ hm hf
        refine c_exitC rfl ?_
        refine c_reg ?_
        refine l_mv rfl ?_
        refine l_mv rfl ?_
        refine l_lenS (len := m.length) (cs := (m.flatMap EntD.cells)) (by kernel_rfl) rfl (fun w' hw' => Own.rd hv hw') rfl ?_
        refine l_cvt (by kernel_rfl) rfl (wu64 (by omega)) rfl ?_ (by kernel_rfl)
        refine l_add rfl rfl (wu64 (by omega)) rfl ?_
        refine l_mv rfl ?_
        refine l_as rfl ?_
        refine l_as rfl ?_
        refine l_as rfl ?_
        refine l_end ?_
        exact c_ret (ret3 (v := .int .u64 (index + m.length : Nat)) (v' := .int .u64 (y : Nat)) (v'' := .int .i64 0) rfl rfl rfl rfl (fun w' hw => ⟨rv', ms', index + m.length, y, 0, rfl, hend.1, hend.2, hΨ.2.mem, hw⟩))
theorem rhint_s (wb i t : Nat) (rv : Value) (ms : List EntD) (k u : Nat) (w : World) (hl : LenOk ms.length) (hwb : Rd w [] (Res.row wb 48 [.int .u64 (i : Nat), .int .u64 (t : Nat), rv])) (hrv : Rd w [] (Res.sl rv ms.length (ms.flatMap EntD.cells))) (all_hrv : ∀ p ∈ ms, EntD.rd p w []) : Rets Try.prog 38 #[.pointer (some ⟨wb, 0, none⟩), .int .u64 (k : Nat), .int .u64 (u : Nat)] w fun u_ w' => ∃ (x : Nat) (y : Nat), u_ = .tuple #[.int .u64 (x : Nat), .int .u64 (y : Nat)] ∧ (LG i t ms).hint k u = (x, y) ∧ Own w [] [] w' := by
  refine fn_enter (args := [.pointer (some ⟨wb, 0, none⟩), .int .u64 (k : Nat), .int .u64 (u : Nat)]) Try.func38 rfl Try.ntmps38 rfl (Own.start w) ?_
  refine c_reg ?_
  refine l_as rfl ?_
  refine l_as rfl ?_
  refine l_end ?_
  refine c_reg ?_
  refine l_mv rfl ?_
  refine l_nck rfl rfl ?_
  refine l_fld (o := 0) rfl (by kernel_rfl) rfl ?_
  refine l_ldq (v := .int .u64 (i : Nat)) rfl (hwb.φ.cell rfl) (hwb.far _ (by simp [Res.row])) (by kernel_rfl) rfl ?_
  refine l_as rfl ?_
  refine l_end ?_
  refine c_reg ?_
  refine l_mv rfl ?_
  refine l_nck rfl rfl ?_
  refine l_fld (o := 1) rfl (by kernel_rfl) rfl ?_
  refine l_ldq (v := .int .u64 (t : Nat)) rfl (hwb.φ.cell rfl) (hwb.far _ (by simp [Res.row])) (by kernel_rfl) rfl ?_
  refine l_as rfl ?_
  refine l_end ?_
  refine c_seq ?_
  refine c_reg ?_
  refine l_as rfl ?_
  refine l_end ?_
  refine c_block ?_
  refine c_loop3 (fun (q : Nat) (x : Nat) (y : Nat) => [(0, .pointer (some ⟨wb, 0, none⟩)), (1, .int .u64 (k : Nat)), (2, .int .u64 (u : Nat)), (8, .int .u64 (x : Nat)), (9, .int .u64 (y : Nat)), (10, .int .i64 (q : Nat))]) (fun (q : Nat) (x : Nat) (y : Nat) => q ≤ ms.length ∧ (LG i t ms).hintN k u q = (x, y)) (fun (q : Nat) (x : Nat) (y : Nat) => []) (fun (q : Nat) (x : Nat) (y : Nat) => ms.length - q) (fun w' hw => ⟨0, i, t, ⟨rfl, rfl, rfl, rfl, rfl, rfl, trivial⟩, ⟨Nat.zero_le _, rfl⟩, hw⟩) (fun q x y g hΦ => ?_)
  refine c_seq ?_
  refine c_reg ?_
  refine l_mv rfl ?_
  refine l_mv rfl ?_
  refine l_nck rfl rfl ?_
  refine l_fld (o := 2) rfl (by kernel_rfl) rfl ?_
  refine l_ldq (v := rv) rfl (hwb.φ.cell rfl) (hwb.far _ (by simp [Res.row])) (by kernel_rfl) rfl ?_
  refine l_lenS (len := ms.length) (cs := (ms.flatMap EntD.cells)) (by kernel_rfl) rfl (fun w' hw' => Own.rd hrv hw') rfl ?_
  refine l_lss rfl rfl rfl ?_
  refine l_end ?_
  refine c_dec rfl (fun c1 => ?_) (fun c1 => ?_)
  ·
    refine c_skipC ?_
    refine c_seq ?_
    refine c_block ?_
    refine c_reg ?_
    refine l_mv rfl ?_
    refine l_nck rfl rfl ?_
    refine l_fld (o := 2) rfl (by kernel_rfl) rfl ?_
    refine l_ldq (v := rv) rfl (hwb.φ.cell rfl) (hwb.far _ (by simp [Res.row])) (by kernel_rfl) rfl ?_
    refine l_mv rfl ?_
    refine l_idxS (j := q) (sz := 5) (len := ms.length) (cs := (ms.flatMap EntD.cells)) rfl rfl (by kernel_rfl) (fun w' hw' => Own.rd hrv hw') rfl (by omega) rfl ?_
    refine l_fld (o := 0) rfl (by kernel_rfl) rfl ?_
    refine l_ldS (q * 5 + 0) (cs := (ms.flatMap EntD.cells)) rfl (by omega) (fun w' hw' => Own.rd hrv hw') (flat_at (sz := 5) (fun _ => rfl) (nth_some (by omega)) (i := 0) rfl) (by kernel_rfl) rfl ?_
    refine l_mv rfl ?_
    refine l_leq rfl rfl rfl ?_
    refine l_mv rfl ?_
    refine l_band (q := (((nth ms q).index : Nat) : Int) ≤ ((k : Nat) : Int)) 10 10 [48, 47, 46, 45, 44, 43, 42, 41, 40, 39] ((((nth ms q).term : Nat) : Int) ≤ ((u : Nat) : Int)) rfl rfl rfl rfl rfl rfl trivial rfl (fun h6_10 => ?_) (fun g6_21 => ?_)
    ·
      refine l_on rfl (gT h6_10) ?_
      refine l_mv rfl ?_
      refine l_on rfl (gT h6_10) ?_
      refine l_nck rfl rfl ?_
      refine l_on rfl (gT h6_10) ?_
      refine l_fld (o := 2) rfl (by kernel_rfl) rfl ?_
      refine l_on rfl (gT h6_10) ?_
      refine l_ldq (v := rv) rfl (hwb.φ.cell rfl) (hwb.far _ (by simp [Res.row])) (by kernel_rfl) rfl ?_
      refine l_on rfl (gT h6_10) ?_
      refine l_mv rfl ?_
      refine l_on rfl (gT h6_10) ?_
      refine l_idxS (j := q) (sz := 5) (len := ms.length) (cs := (ms.flatMap EntD.cells)) rfl rfl (by kernel_rfl) (fun w' hw' => Own.rd hrv hw') rfl (by omega) rfl ?_
      refine l_on rfl (gT h6_10) ?_
      refine l_fld (o := 1) rfl (by kernel_rfl) rfl ?_
      refine l_on rfl (gT h6_10) ?_
      refine l_ldS (q * 5 + 1) (cs := (ms.flatMap EntD.cells)) rfl (by omega) (fun w' hw' => Own.rd hrv hw') (flat_at (sz := 5) (fun _ => rfl) (nth_some (by omega)) (i := 1) rfl) (by kernel_rfl) rfl ?_
      refine l_on rfl (gT h6_10) ?_
      refine l_mv rfl ?_
      refine l_on rfl (gT h6_10) ?_
      refine l_leq rfl rfl rfl ?_
      exact l_nil (fun w' hw => ⟨(by repeat (first | exact Out.refl _ _ | refine Out.upd rfl ?_ | refine Out.msk rfl ?_)), rfl, hw⟩)
    refine l_end ?_
    refine c_dec rfl (fun c2 => ?_) (fun c2 => ?_)
    ·
      refine c_reg ?_
      refine l_mv rfl ?_
      refine l_nck rfl rfl ?_
      refine l_fld (o := 2) rfl (by kernel_rfl) rfl ?_
      refine l_ldq (v := rv) rfl (hwb.φ.cell rfl) (hwb.far _ (by simp [Res.row])) (by kernel_rfl) rfl ?_
      refine l_mv rfl ?_
      refine l_idxS (j := q) (sz := 5) (len := ms.length) (cs := (ms.flatMap EntD.cells)) rfl rfl (by kernel_rfl) (fun w' hw' => Own.rd hrv hw') rfl (by omega) rfl ?_
      refine l_fld (o := 0) rfl (by kernel_rfl) rfl ?_
      refine l_ldS (q * 5 + 0) (cs := (ms.flatMap EntD.cells)) rfl (by omega) (fun w' hw' => Own.rd hrv hw') (flat_at (sz := 5) (fun _ => rfl) (nth_some (by omega)) (i := 0) rfl) (by kernel_rfl) rfl ?_
      refine l_as rfl ?_
      refine l_end ?_
      refine c_last ?_
      refine l_mv rfl ?_
      refine l_nck rfl rfl ?_
      refine l_fld (o := 2) rfl (by kernel_rfl) rfl ?_
      refine l_ldq (v := rv) rfl (hwb.φ.cell rfl) (hwb.far _ (by simp [Res.row])) (by kernel_rfl) rfl ?_
      refine l_mv rfl ?_
      refine l_idxS (j := q) (sz := 5) (len := ms.length) (cs := (ms.flatMap EntD.cells)) rfl rfl (by kernel_rfl) (fun w' hw' => Own.rd hrv hw') rfl (by omega) rfl ?_
      refine l_fld (o := 1) rfl (by kernel_rfl) rfl ?_
      refine l_ldS (q * 5 + 1) (cs := (ms.flatMap EntD.cells)) rfl (by omega) (fun w' hw' => Own.rd hrv hw') (flat_at (sz := 5) (fun _ => rfl) (nth_some (by omega)) (i := 1) rfl) (by kernel_rfl) rfl ?_
      refine l_as rfl ?_
      refine l_end ?_
      refine c_last ?_
      refine l_mv rfl ?_
      refine l_add rfl rfl (wi64 (by omega)) rfl ?_
      refine l_as rfl ?_
      exact l_nil (fun w' hw => ⟨q + 1, (nth ms q).index, (nth ms q).term, ⟨rfl, rfl, rfl, rfl, rfl, rfl, trivial⟩, ⟨by omega, hint_hit (n := q + 1) (by omega) (by omega) (by show (nth ms q).index ≤ k ∧ (nth ms q).term ≤ u; omega)⟩, hw, (by omega)⟩)
    ·
      refine c_skipC ?_
      refine c_last ?_
      refine l_mv rfl ?_
      refine l_add rfl rfl (wi64 (by omega)) rfl ?_
      refine l_as rfl ?_
      exact l_nil (fun w' hw => ⟨q + 1, x, y, ⟨rfl, rfl, rfl, rfl, rfl, rfl, trivial⟩, ⟨by omega, (hint_miss (n := q + 1) (by omega) (by omega) (by show ¬ ((nth ms q).index ≤ k ∧ (nth ms q).term ≤ u); omega)).trans hΦ.2⟩, hw, (by omega)⟩)
  ·
    refine c_exitC rfl ?_
    refine c_reg ?_
    refine l_mv rfl ?_
    refine l_mv rfl ?_
    refine l_as rfl ?_
    refine l_as rfl ?_
    refine l_end ?_
    exact c_ret (ret2 (v := .int .u64 (x : Nat)) (v' := .int .u64 (y : Nat)) rfl rfl rfl (fun w' hw => ⟨x, y, rfl, hint_end hΦ.2 (by omega), hw.drop⟩))
theorem rshrink_s (wb i t : Nat) (rv : Value) (ms : List EntD) (k : Nat) (w : World) (hl : ms.length ≤ 100000000000) (hg : (LG i t ms).good) (hms : ∀ p ∈ ms, EntD.rd p w (fps [Res.row wb 48 [.int .u64 (i : Nat), .int .u64 (t : Nat), rv], Res.vec 38 5 rv ms.length (ms.flatMap EntD.cells)])) (hin : Own w (fps [Res.row wb 48 [.int .u64 (i : Nat), .int .u64 (t : Nat), rv], Res.vec 38 5 rv ms.length (ms.flatMap EntD.cells)]) [Res.row wb 48 [.int .u64 (i : Nat), .int .u64 (t : Nat), rv], Res.vec 38 5 rv ms.length (ms.flatMap EntD.cells)] w) : Rets Try.prog 36 #[.pointer (some ⟨wb, 0, none⟩), .int .u64 (k : Nat)] w fun u_ w' => ∃ (i' : Nat) (t' : Nat) (rv' : Value) (ms' : List EntD) (e : Int), u_ = .int .i64 e ∧ LG i' t' ms' = (LG i t ms).shrink k ∧ e = ((LG i t ms).termE k).2 ∧ (∀ p ∈ ms', p ∈ ms) ∧ Own w (fps [Res.row wb 48 [.int .u64 (i : Nat), .int .u64 (t : Nat), rv], Res.vec 38 5 rv ms.length (ms.flatMap EntD.cells)]) [Res.row wb 48 [.int .u64 (i' : Nat), .int .u64 (t' : Nat), rv'], Res.vec 38 5 rv' ms'.length (ms'.flatMap EntD.cells)] w' := by
  refine fn_enter (args := [.pointer (some ⟨wb, 0, none⟩), .int .u64 (k : Nat)]) Try.func36 rfl Try.ntmps36 rfl (show Own w (fps [Res.row wb 48 [.int .u64 (i : Nat), .int .u64 (t : Nat), rv], Res.vec 38 5 rv ms.length (ms.flatMap EntD.cells)]) [Res.row wb 48 [.int .u64 (i : Nat), .int .u64 (t : Nat), rv], Res.vec 38 5 rv ms.length (ms.flatMap EntD.cells)] w from hin) ?_
  refine c_reg ?_
  refine l_as rfl ?_
  refine l_end ?_
  refine c_reg ?_
  refine l_mv rfl ?_
  refine l_mv rfl ?_
  refine l_call (by kernel_rfl) rfl rfl (fun w' hw => ?_)
  refine (rterm_s wb i t rv ms k w' (by first | assumption | omega | (simp <;> omega) | (constructor <;> (first | omega | (simp only [LenOk]; omega) | (simp <;> omega)))) (by first | assumption | omega | (simp <;> omega) | (constructor <;> (first | omega | (simp only [LenOk]; omega) | (simp <;> omega)))) (hw.rdRes0 0 rfl) (hw.rdVec0 1 rfl) (fun p hp => EntD.rd.at0 (hms p hp) hw)).mono ?_
  rintro _ w1 ⟨x1_, e2_, rfl, hf1_2, hO⟩
  refine (?_ : CL _ _ _ _ _ _ (Own w (fps [Res.row wb 48 [.int .u64 (i : Nat), .int .u64 (t : Nat), rv], Res.vec 38 5 rv ms.length (ms.flatMap EntD.cells)]) [Res.row wb 48 [.int .u64 (i : Nat), .int .u64 (t : Nat), rv], Res.vec 38 5 rv ms.length (ms.flatMap EntD.cells)])) w1 (hw.frame0 hO)
  refine l_mv rfl ?_
  refine l_ext (vs := [.int .u64 (x1_ : Nat), .int .i64 e2_]) rfl rfl rfl ?_
  refine l_ext (vs := [.int .u64 (x1_ : Nat), .int .i64 e2_]) rfl rfl rfl ?_
  refine l_as rfl ?_
  refine l_as rfl ?_
  refine l_end ?_
  refine c_seq ?_
  refine c_reg ?_
  refine l_mv rfl ?_
  refine l_ne rfl rfl rfl ?_
  refine l_end ?_
  refine c_dec rfl (fun c1 => ?_) (fun c1 => ?_)
  ·
    refine c_reg ?_
    refine l_mv rfl ?_
    refine l_as rfl ?_
    refine l_end ?_
    exact c_ret (ret1 (v := .int .i64 e2_) rfl rfl (fun w' hw => ⟨i, t, rv, ms, e2_, rfl, shr_no hf1_2 c1, (by rw [hf1_2]), (fun p hp => hp), hw⟩))
  ·
    refine c_skipC ?_
    refine c_reg ?_
    refine l_as rfl ?_
    refine l_end ?_
    refine c_seq ?_
    refine c_reg ?_
    refine l_as rfl ?_
    refine l_end ?_
    refine c_block ?_
    refine c_loop3 (fun (q : Nat) (kv : Value) (ks : List EntD) => [(0, .pointer (some ⟨wb, 0, none⟩)), (1, .int .u64 (k : Nat)), (5, .int .u64 (x1_ : Nat)), (7, kv), (8, .int .i64 (q : Nat))]) (fun (q : Nat) (kv : Value) (ks : List EntD) => q ≤ ms.length ∧ ks = (ms.take q).filter (fun e => decide (k < e.index))) (fun (q : Nat) (kv : Value) (ks : List EntD) => [Res.row wb 48 [.int .u64 (i : Nat), .int .u64 (t : Nat), rv], Res.vec 38 5 rv ms.length (ms.flatMap EntD.cells), Res.vec 38 5 kv ks.length (ks.flatMap EntD.cells)]) (fun (q : Nat) (kv : Value) (ks : List EntD) => ms.length - q) (fun w' hw => ⟨0, .slice none 0 0, [], ⟨rfl, rfl, rfl, rfl, rfl, trivial⟩, ⟨Nat.zero_le _, by simp⟩, own_nil hw 38 5⟩) (fun q kv ks g hΦ => ?_)
    have hks : ks.length ≤ ms.length := by rw [hΦ.2]; exact Nat.le_trans (List.length_filter_le _ _) (by simp; omega)
    refine c_seq ?_
    refine c_reg ?_
    refine l_mv rfl ?_
    refine l_mv rfl ?_
    refine l_nck rfl rfl ?_
    refine l_fld (o := 2) rfl (by kernel_rfl) rfl ?_
    refine l_ldo 0 (v := rv) rfl rfl rfl (by kernel_rfl) rfl ?_
    refine l_lenS (len := ms.length) (cs := (ms.flatMap EntD.cells)) (by kernel_rfl) rfl (fun w' hw' => Vec.sl (Own.holds hw' 1 _ rfl)) rfl ?_
    refine l_lss rfl rfl rfl ?_
    refine l_end ?_
    refine c_dec rfl (fun c2 => ?_) (fun c2 => ?_)
    ·
      refine c_skipC ?_
      refine c_seq ?_
      refine c_block ?_
      refine c_reg ?_
      refine l_mv rfl ?_
      refine l_nck rfl rfl ?_
      refine l_fld (o := 2) rfl (by kernel_rfl) rfl ?_
      refine l_ldo 0 (v := rv) rfl rfl rfl (by kernel_rfl) rfl ?_
      refine l_mv rfl ?_
      refine l_idxS (j := q) (sz := 5) (len := ms.length) (cs := (ms.flatMap EntD.cells)) rfl rfl (by kernel_rfl) (fun w' hw' => Vec.sl (Own.holds hw' 1 _ rfl)) rfl (by omega) rfl ?_
      refine l_fld (o := 0) rfl (by kernel_rfl) rfl ?_
      refine l_ldS (q * 5 + 0) (cs := (ms.flatMap EntD.cells)) rfl (by omega) (fun w' hw' => Vec.sl (Own.holds hw' 1 _ rfl)) (flat_at (sz := 5) (fun _ => rfl) (nth_some (by omega)) (i := 0) rfl) (by kernel_rfl) rfl ?_
      refine l_mv rfl ?_
      refine l_gtr rfl rfl rfl ?_
      refine l_end ?_
      refine c_dec rfl (fun c3 => ?_) (fun c3 => ?_)
      ·
        refine c_last ?_
        refine l_mv rfl ?_
        refine l_mv rfl ?_
        refine l_nck rfl rfl ?_
        refine l_fld (o := 2) rfl (by kernel_rfl) rfl ?_
        refine l_ldo 0 (v := rv) rfl rfl rfl (by kernel_rfl) rfl ?_
        refine l_mv rfl ?_
        refine l_idxS (j := q) (sz := 5) (len := ms.length) (cs := (ms.flatMap EntD.cells)) rfl rfl (by kernel_rfl) (fun w' hw' => Vec.sl (Own.holds hw' 1 _ rfl)) rfl (by omega) rfl ?_
        refine l_ldSN (q * 5 + 0) (cs := (ms.flatMap EntD.cells)) (EntD.cells (nth ms q)) rfl (by omega) (fun w' hw' => Vec.sl (Own.holds hw' 1 _ rfl)) (flat_atN (sz := 5) (fun _ => rfl) (nth_some (by omega)) (o := 0) (us := (EntD.cells (nth ms q))) (fun k u h => by rw [Nat.zero_add]; exact h)) (by kernel_rfl) rfl ?_
        refine l_bsl (e := 38) (sz := 5) (vs := [.agg (EntD.cells (nth ms q)).toArray]) (by kernel_rfl) rfl rfl (by simp [Value.cells, EntD.cells]) (by decide) rfl (fun b45 => ?_)
        refine l_appF (g := EntD.cells) (sz := 5) (by' := 56) (fun _ => rfl) (l := ks) (l' := [(nth ms q)]) (all_cons ((allc_cons rfl (allc_cons rfl (allc_cons rfl (allc_cons rfl (allc_cons (Sl.cell1 (Rd.φ ((hms _ (nth_mem (by omega))).dv))) allc_nil)))))) (by simp)) 2 (by kernel_rfl) rfl rfl rfl (fun w' hw' => Vec.sl (Own.holds hw' 3 _ rfl)) (by first | omega | (simp; omega)) (by decide) rfl (fun v46 => ?_)
        refine l_as rfl ?_
        refine l_end ?_
        refine c_last ?_
        refine l_mv rfl ?_
        refine l_add rfl rfl (wi64 (by omega)) rfl ?_
        refine l_as rfl ?_
        exact l_nil (fun w' hw => ⟨q + 1, v46, ks ++ [nth ms q], ⟨rfl, rfl, rfl, rfl, rfl, trivial⟩, ⟨by omega, by rw [filter_snoc (by omega), if_pos (by rw [decide_eq_true_iff]; omega), ← hΦ.2]⟩, hw.sel [0, 1, 2] rfl (by decide), (by omega)⟩)
      ·
        refine c_skipC ?_
        refine c_last ?_
        refine l_mv rfl ?_
        refine l_add rfl rfl (wi64 (by omega)) rfl ?_
        refine l_as rfl ?_
        exact l_nil (fun w' hw => ⟨q + 1, kv, ks, ⟨rfl, rfl, rfl, rfl, rfl, trivial⟩, ⟨by omega, by rw [filter_snoc (by omega), if_neg (by rw [decide_eq_true_iff]; omega), ← hΦ.2, List.append_nil]⟩, hw, (by omega)⟩)
    ·
      have hks2 : ks = ms.drop (k - i) := by rw [hΦ.2, List.take_of_length_le (by omega)]; exact LG.above hg _
      refine c_exitC rfl ?_
      refine c_reg ?_
      refine l_mv rfl ?_
      refine l_mv rfl ?_
      refine l_nck rfl rfl ?_
      refine l_fld (o := 2) rfl (by kernel_rfl) rfl ?_
      refine l_haveO (fun w' hw => Own.cell1Vec (i := 2) rfl hw) (fun hc1_ => ?_)
      refine l_st (cs := [.int .u64 (i : Nat), .int .u64 (t : Nat), rv]) 0 rfl rfl rfl (by kernel_rfl) hc1_ (Nat.le_of_ble_eq_true rfl) ?_
      refine l_end ?_
      refine c_reg ?_
      refine l_mv rfl ?_
      refine l_mv rfl ?_
      refine l_nck rfl rfl ?_
      refine l_fld (o := 0) rfl (by kernel_rfl) rfl ?_
      refine l_st (cs := [.int .u64 (i : Nat), .int .u64 (t : Nat), kv]) 0 rfl rfl rfl (by kernel_rfl) rfl (Nat.le_of_ble_eq_true rfl) ?_
      refine l_end ?_
      refine c_reg ?_
      refine l_mv rfl ?_
      refine l_mv rfl ?_
      refine l_nck rfl rfl ?_
      refine l_fld (o := 1) rfl (by kernel_rfl) rfl ?_
      refine l_st (cs := [.int .u64 (k : Nat), .int .u64 (t : Nat), kv]) 0 rfl rfl rfl (by kernel_rfl) rfl (Nat.le_of_ble_eq_true rfl) ?_
      refine l_end ?_
      refine c_reg ?_
      refine l_as rfl ?_
      refine l_end ?_
      exact c_ret (ret1 (v := .int .i64 0) rfl rfl (fun w' hw => ⟨k, x1_, kv, ks, 0, rfl, (by rw [hks2]; exact shr_ok hf1_2 (by omega)), (by rw [hf1_2]; show (0 : Int) = _; omega), (fun p hp => by rw [hks2] at hp; exact List.mem_of_mem_drop hp), hw.sel [0, 2] rfl (by decide)⟩))
end Go.Proofs.Ytibbkbgodomfkaa
