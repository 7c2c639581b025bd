/-
  THE WALKS OF the log.
-/
import Derived.Test.YtibbkbgodomfkaaRlogA
import Derived.Test.YtibbkbgodomfkaaEnc2
import Derived.Test.YtibbkbgodomfkaaFwU
set_option linter.unusedVariables false
set_option maxRecDepth 10000
namespace Go.Proofs.Ytibbkbgodomfkaa
open Go Go.Sc Go.Proofs

abbrev LG (i t : Nat) (es : List EntD) : LogA := ⟨i, t, es.map EntD.toEntA⟩
theorem LG.last_eq {i t : Nat} {es : List EntD} : (LG i t es).last = i + es.length := by simp [LogA.last]
theorem LG.le {i t : Nat} {es : List EntD} (h : (LG i t es).good) : i + es.length ≤ 4611686018427387904 ∧ t ≤ 4611686018427387904 ∧ (LG i t es).end_ ≤ 4611686018427387904 := ⟨LG.last_eq ▸ h.last_le, h.t, h.end_le⟩
theorem nthA {es : List EntD} {k : Nat} (h : k < es.length) : nth (es.map EntD.toEntA) k = (nth es k).toEntA := nth_map h
theorem LG.ent {i t : Nat} {es : List EntD} (h : (LG i t es).good) {k : Nat} (hk : k < es.length) : (nth es k).index = i + k + 1 ∧ (nth es k).term ≤ 4611686018427387904 ∧ (nth es k).data.length ≤ 4096 := by
  have h1 := h.fol.idx k (by simpa using hk)
  have h2 := h.fol.ok _ (nth_mem (l := es.map EntD.toEntA) (j := k) (by simpa using hk))
  rw [nthA hk] at h1 h2
  exact ⟨h1, h2.1.2.1.2, h2.1.2.2.2⟩
theorem LG.data {i t : Nat} {es : List EntD} (h : (LG i t es).good) : ∀ e ∈ es, e.data.length ≤ 4096 := fun e he => (h.fol.ok _ (List.mem_map_of_mem (f := EntD.toEntA) he)).1.2.2.2

theorem LG.termE_eq {i t k : Nat} {es : List EntD} : (LG i t es).termE k = if k < i then (0, 13) else if k = i then (t, 0) else if k ≤ i + es.length then ((nth (es.map EntD.toEntA) (k - i - 1)).term, 0) else (0, 8) := by
  unfold LogA.termE; rw [LG.last_eq]
theorem LG.term_lo {i t k : Nat} {es : List EntD} (h : k < i) : (LG i t es).termE k = (0, 13) := if_pos h
theorem LG.term_at {i t k : Nat} {es : List EntD} (h : k = i) : (LG i t es).termE k = (t, 0) := by
  rw [LG.termE_eq, if_neg (by omega), if_pos h]
theorem LG.term_in {i t k j : Nat} {es : List EntD} (h : i < k) (h2 : k ≤ i + es.length) (hj : j = k - i - 1) : (LG i t es).termE k = ((nth es j).term, 0) := by
  rw [LG.termE_eq, if_neg (by omega), if_neg (by omega), if_pos h2, ← hj, nthA (by omega)]
theorem LG.term_hi {i t k : Nat} {es : List EntD} (h : i + es.length < k) : (LG i t es).termE k = (0, 8) := by
  rw [LG.termE_eq, if_neg (by omega), if_neg (by omega), if_neg (by omega)]
theorem LG.fromE_eq {i t k : Nat} {n : Int} {es : List EntD} : (LG i t es).fromE k n = if k ≤ i then ([], 13) else if i + es.length + 1 < k then ([], 8) else if n < 0 then ([], 1) else (((es.map EntD.toEntA).drop (k - i - 1)).take n.toNat, 0) := by
  unfold LogA.fromE; rw [LG.last_eq]
theorem LG.end_eq {i t x : Nat} {e : Int} {es : List EntD} (h : (LG i t es).termE (i + es.length) = (x, e)) : x = (LG i t es).end_ := by
  by_cases hl : es.length = 0
  · rw [LG.term_at (by omega)] at h
    cases h
    unfold LogA.end_; rw [List.eq_nil_of_length_eq_zero hl]; rfl
  · rw [LG.term_in (j := es.length - 1) (by omega) (by omega) (by omega)] at h
    cases h
    unfold LogA.end_; rw [endT_eq (by simpa using (by omega : 0 < es.length)), List.length_map, nthA (by omega)]
theorem EntD.c1all {l : List EntD} {w : World} {S : List Nat} (h : ∀ p ∈ l, EntD.rd p w S) : ∀ x ∈ l, ∀ v ∈ EntD.cells x, cell1 v = true := by
  intro x hx v hv
  simp only [EntD.cells, List.mem_cons, List.not_mem_nil, or_false] at hv
  rcases hv with rfl | rfl | rfl | rfl | rfl
  · rfl
  · rfl
  · rfl
  · rfl
  · exact Sl.cell1 (Rd.φ (h x hx).dv)
theorem LG.term_ok {i t k x : Nat} {e : Int} {es : List EntD} (h : (LG i t es).termE k = (x, e)) (he : e = 0) : i ≤ k ∧ k ≤ i + es.length := by
  by_cases h1 : k < i
  · rw [LG.term_lo h1] at h; cases h; cases he
  · by_cases h2 : i + es.length < k
    · rw [LG.term_hi h2] at h; cases h; cases he
    · omega
theorem shr_ok {i t k x : Nat} {e : Int} {es : List EntD} (h : (LG i t es).termE k = (x, e)) (he : e = 0) : LG k x (es.drop (k - i)) = (LG i t es).shrink k := by
  unfold LogA.shrink; rw [h, if_pos (show e = 0 from he)]; simp [List.map_drop]
theorem shr_no {i t k x : Nat} {e : Int} {es : List EntD} (h : (LG i t es).termE k = (x, e)) (he : e ≠ 0) : LG i t es = (LG i t es).shrink k := by
  unfold LogA.shrink; rw [h, if_neg (show ¬ e = 0 from he)]
theorem hint_hit {i t k u n : Nat} {es : List EntD} (hn : 0 < n) (hl : n ≤ es.length) (h : (nth es (n - 1)).index ≤ k ∧ (nth es (n - 1)).term ≤ u) : (LG i t es).hintN k u n = ((nth es (n - 1)).index, (nth es (n - 1)).term) := by
  obtain ⟨n, rfl⟩ : ∃ q, n = q + 1 := ⟨n - 1, by omega⟩
  simp only [Nat.add_sub_cancel] at h ⊢
  unfold LogA.hintN; rw [nthA (by omega), if_pos h]
theorem hint_miss {i t k u n : Nat} {es : List EntD} (hn : 0 < n) (hl : n ≤ es.length) (h : ¬ ((nth es (n - 1)).index ≤ k ∧ (nth es (n - 1)).term ≤ u)) : (LG i t es).hintN k u n = (LG i t es).hintN k u (n - 1) := by
  obtain ⟨n, rfl⟩ : ∃ q, n = q + 1 := ⟨n - 1, by omega⟩
  simp only [Nat.add_sub_cancel] at h ⊢
  rw [LogA.hintN, nthA (by omega), if_neg h]
theorem hint_zero {i t k u n : Nat} {es : List EntD} (h : (LG i t es).hint k u = (LG i t es).hintN k u n) (hn : n = 0) : (LG i t es).hint k u = (i, t) := by rw [h, hn]; rfl
theorem fol_step {i t k j u : Nat} {m : List EntD} (hk : k < m.length) (h : folA i t ((m.take k).map EntD.toEntA)) (hj : j = endI i ((m.take k).map EntD.toEntA)) (hu : u = endT t ((m.take k).map EntD.toEntA)) :
    (folA i t ((m.take (k + 1)).map EntD.toEntA) ↔ (nth m k).ok ∧ (nth m k).index = j + 1 ∧ u ≤ (nth m k).term) ∧ ((nth m k).index = j + 1 → (nth m k).index = endI i ((m.take (k + 1)).map EntD.toEntA)) ∧ (nth m k).term = endT t ((m.take (k + 1)).map EntD.toEntA) := by
  rw [take_nth hk, List.map_append, List.map_cons, List.map_nil, folA.snoc, endT_snoc]
  refine ⟨⟨fun q => ⟨q.2.1, by rw [hj]; exact q.2.2.1, by rw [hu]; exact q.2.2.2⟩, fun q => ⟨h, q.1, by rw [← hj]; exact q.2.1, by rw [← hu]; exact q.2.2⟩⟩, fun q => ?_, rfl⟩
  rw [q, hj]; simp only [endI, List.length_append, List.length_cons, List.length_nil]; omega
theorem fol_no {i t k j u : Nat} {m : List EntD} (hk : k < m.length) (h : folA i t ((m.take k).map EntD.toEntA)) (hj : j = endI i ((m.take k).map EntD.toEntA)) (hu : u = endT t ((m.take k).map EntD.toEntA)) (hn : ¬ ((nth m k).ok ∧ (nth m k).index = j + 1 ∧ u ≤ (nth m k).term)) : ¬ folA i t (m.map EntD.toEntA) := by
  intro q
  apply hn
  rw [← (fol_step hk h hj hu).1, List.map_take]
  exact q.take _
theorem put_at {i t index term k : Nat} {es m : List EntD} (hm : folA index term (m.map EntD.toEntA)) (hf : (LG i t es).fits index term) (hk : k < m.length) (h1 : ∀ e ∈ m.take k, (LG i t es).fits e.index e.term) (h2 : ¬ (LG i t es).fits (nth m k).index (nth m k).term) :
    (LG i t es).kn (m.map EntD.toEntA) = k ∧ (nth m k).index = index + k + 1 ∧ i ≤ index + k ∧ index + k ≤ i + es.length := by
  have hkn : (LG i t es).kn (m.map EntD.toEntA) = k := (LG i t es).kn_of (by simp; omega) (fun e he => by
    rw [← List.map_take] at he; obtain ⟨x, hx, rfl⟩ := List.mem_map.1 he; exact h1 x hx) (fun _ => by rw [nthA hk]; exact h2)
  have h3 := hm.idx k (by simpa using hk)
  rw [nthA hk] at h3
  have h4 := (LogA.fits_end (put_pre hm hf)).1
  rw [hkn, LG.last_eq] at h4
  have e : endI index ((m.map EntD.toEntA).take k) = index + k := by unfold endI; simp; omega
  rw [e] at h4
  exact ⟨hkn, h3, h4⟩
theorem put_res {i t index term k : Nat} {es m es' : List EntD} (hm : folA index term (m.map EntD.toEntA)) (hf : (LG i t es).fits index term) (hk : k < m.length) (h1 : ∀ e ∈ m.take k, (LG i t es).fits e.index e.term) (h2 : ¬ (LG i t es).fits (nth m k).index (nth m k).term)
    (he : es'.map EntD.toEntA = (es.map EntD.toEntA).take ((nth m k).index - i - 1) ++ (m.map EntD.toEntA).drop k) : LG i t es' = (LG i t es).append index term (m.map EntD.toEntA) ∧ (LG i t es).ans index term (m.map EntD.toEntA) = (index + m.length, (nth m k).index, 0) := by
  have h := (put_at hm hf hk h1 h2).1
  constructor
  · unfold LogA.append LogA.put
    rw [if_pos ⟨hm, hf⟩, h, if_pos (by simpa using hk), nthA hk, ← he]
  · unfold LogA.ans LogA.put0
    rw [if_pos hm, if_pos hf, h, if_pos (by simpa using hk), nthA hk, List.length_map]
theorem put_ans {i t index term k : Nat} {es m : List EntD} (hm : folA index term (m.map EntD.toEntA)) (hf : (LG i t es).fits index term) (hk : k < m.length) (h1 : ∀ e ∈ m.take k, (LG i t es).fits e.index e.term) (h2 : ¬ (LG i t es).fits (nth m k).index (nth m k).term) : (LG i t es).ans index term (m.map EntD.toEntA) = (index + m.length, (nth m k).index, 0) := by
  have h := (put_at hm hf hk h1 h2).1
  unfold LogA.ans LogA.put0
  rw [if_pos hm, if_pos hf, h, if_pos (by simpa using hk), nthA hk, List.length_map]
theorem put_none {i t index term : Nat} {es m : List EntD} (hm : folA index term (m.map EntD.toEntA)) (hf : (LG i t es).fits index term) (h1 : ∀ e ∈ m, (LG i t es).fits e.index e.term) :
    LG i t es = (LG i t es).append index term (m.map EntD.toEntA) ∧ (LG i t es).ans index term (m.map EntD.toEntA) = (index + m.length, 0, 0) := by
  have h := LogA.put_same (x := LG i t es) (m := m.map EntD.toEntA) (fun e he => by obtain ⟨x, hx, rfl⟩ := List.mem_map.1 he; exact h1 x hx)
  constructor
  · unfold LogA.append; rw [if_pos ⟨hm, hf⟩, h.1]
  · unfold LogA.ans; rw [if_pos hm, if_pos hf, h.2, List.length_map]
theorem app_form {x : LogA} {index term : Nat} {m : List EntA} (h : ¬ folA index term m) : x = x.append index term m ∧ x.ans index term m = (0, 0, 2) :=
  ⟨by unfold LogA.append; rw [if_neg fun q => h q.1], by unfold LogA.ans; rw [if_neg h]⟩
theorem app_gap {x : LogA} {index term : Nat} {m : List EntA} (hm : folA index term m) (h : ¬ x.fits index term) : x = x.append index term m ∧ x.ans index term m = (0, 0, 12) :=
  ⟨by unfold LogA.append; rw [if_neg fun q => h q.2], by unfold LogA.ans; rw [if_pos hm, if_neg h]⟩
theorem nth_ent {m : List EntD} {k : Nat} (h : k < m.length) : (nth (m.map EntD.toEntA) k) = (nth m k).toEntA := nth_map h

theorem new_s (i t : Nat) (w : World) (hi : i ≤ 4611686018427387904) (ht : t ≤ 4611686018427387904) : Rets Try.prog 9 #[.int .u64 (i : Nat), .int .u64 (t : Nat)] w fun u_ w' => ∃ (b : Nat), u_ = .pointer (some ⟨b, 0, none⟩) ∧ Own w [] [Res.row b 66 [.int .u64 (i : Nat), .int .u64 (t : Nat), (.slice none 0 0)], Res.vec 38 5 (.slice none 0 0) ([] : List EntD).length (([] : List EntD).flatMap EntD.cells), Res.star (([] : List EntD).map EntD.dres)] w' := by
  refine fn_enter (args := [.int .u64 (i : Nat), .int .u64 (t : Nat)]) Try.func9 rfl Try.ntmps9 rfl (Own.start w) ?_
  refine c_reg ?_
  refine l_as rfl ?_
  refine l_end ?_
  refine c_seq ?_
  refine c_reg ?_
  refine l_mv rfl ?_
  refine l_mv rfl ?_
  refine l_max (c := ((max i t : Nat) : Int)) rfl rfl (maxc _ _) rfl ?_
  refine l_gtr rfl rfl rfl ?_
  refine l_end ?_
  refine c_dec rfl (fun c1 => ?_) (fun c1 => ?_)
  ·
    exact absurd c1 (by omega)
  ·
    refine c_skipC ?_
    refine c_reg ?_
    refine l_mv rfl ?_
    refine l_mv rfl ?_
    refine l_bld (cs := [.int .u64 (i : Nat), .int .u64 (t : Nat)]) (z := [.int .u64 (0 : Nat), .int .u64 (0 : Nat)]) (pl := [(0, 1), (1, 1)]) (by kernel_rfl) (by kernel_rfl) rfl ?_
    refine l_bld (cs := [.int .u64 (i : Nat), .int .u64 (t : Nat), .slice none 0 0]) (z := [.int .u64 (0 : Nat), .int .u64 (0 : Nat), .slice none 0 0]) (pl := [(0, 2), (2, 1)]) (by kernel_rfl) (by kernel_rfl) rfl ?_
    refine l_box rfl rfl (fun b13 => ?_)
    refine l_as rfl ?_
    refine l_end ?_
    exact c_ret (ret1 (v := .pointer (some ⟨b13, 0, none⟩)) rfl rfl (fun w' hw => ⟨b13, rfl, (own_nil hw 38 5).starNil⟩))
theorem newNil_s (i t : Nat) (w : World) (hi : ¬ (i ≤ 4611686018427387904 ∧ t ≤ 4611686018427387904)) : Rets Try.prog 9 #[.int .u64 (i : Nat), .int .u64 (t : Nat)] w fun u_ w' => u_ = .pointer none ∧ Own w [] [] w' := by
  refine fn_enter (args := [.int .u64 (i : Nat), .int .u64 (t : Nat)]) Try.func9 rfl Try.ntmps9 rfl (Own.start w) ?_
  refine c_reg ?_
  refine l_as rfl ?_
  refine l_end ?_
  refine c_seq ?_
  refine c_reg ?_
  refine l_mv rfl ?_
  refine l_mv rfl ?_
  refine l_max (c := ((max i t : Nat) : Int)) rfl rfl (maxc _ _) rfl ?_
  refine l_gtr rfl rfl rfl ?_
  refine l_end ?_
  refine c_dec rfl (fun c1 => ?_) (fun c1 => ?_)
  ·
    refine c_reg ?_
    refine l_as rfl ?_
    refine l_end ?_
    exact c_ret (ret1 (v := .pointer none) rfl rfl (fun w' hw => ⟨rfl, hw.drop⟩))
  ·
    exact absurd c1 (by omega)
theorem base_s (lb i t : Nat) (lv : Value) (es : List EntD) (w : World) (hlb : Rd w [] (Res.row lb 66 [.int .u64 (i : Nat), .int .u64 (t : Nat), lv])) (hlv : Rd w [] (Res.sl lv es.length (es.flatMap EntD.cells))) (all_hlv : ∀ p ∈ es, EntD.rd p w []) : Rets Try.prog 33 #[.pointer (some ⟨lb, 0, none⟩)] w fun u_ w' => u_ = .tuple #[.int .u64 (i : Nat), .int .u64 (t : Nat)] ∧ Own w [] [] w' := by
  refine fn_enter (args := [.pointer (some ⟨lb, 0, none⟩)]) Try.func33 rfl Try.ntmps33 rfl (Own.start w) ?_
  refine c_reg ?_
  refine l_as rfl ?_
  refine l_as rfl ?_
  refine l_end ?_
  refine c_seq ?_
  refine c_reg ?_
  refine l_mv rfl ?_
  refine l_nilp (by kernel_rfl) rfl rfl rfl ?_
  refine l_end ?_
  refine c_no rfl ?_
  refine c_skipC ?_
  refine c_quiets (by kernel_rfl) (by kernel_rfl) ?_
  refine q_val rfl (v_mv) ?_
  refine q_val rfl (v_nck rfl) ?_
  refine q_val rfl (v_fld (o := 0) rfl (by kernel_rfl)) ?_
  refine q_val rfl (v_fld (o := 0) rfl (by kernel_rfl)) ?_
  refine q_val rfl (v_ldq (v := .int .u64 (i : Nat)) rfl (hlb.φ.cell rfl) (hlb.far _ (by simp [Res.row])) (by kernel_rfl)) ?_
  refine q_val rfl (v_mv) ?_
  refine q_val rfl (v_nck rfl) ?_
  refine q_val rfl (v_fld (o := 0) rfl (by kernel_rfl)) ?_
  refine q_val rfl (v_fld (o := 1) rfl (by kernel_rfl)) ?_
  refine q_val rfl (v_ldq (v := .int .u64 (t : Nat)) rfl (hlb.φ.cell rfl) (hlb.far _ (by simp [Res.row])) (by kernel_rfl)) ?_
  refine q_val rfl (v_as) ?_
  refine q_val rfl (v_as) ?_
  refine q_end ?_
  exact c_ret (ret2 (v := .int .u64 (i : Nat)) (v' := .int .u64 (t : Nat)) rfl rfl rfl (fun w' hw => ⟨rfl, hw.drop⟩))
theorem last0_s (lb i t : Nat) (lv : Value) (es : List EntD) (w : World) (hb : i + es.length ≤ 4611686018427387904) (hlb : Rd w [] (Res.row lb 66 [.int .u64 (i : Nat), .int .u64 (t : Nat), lv])) (hlv : Rd w [] (Res.sl lv es.length (es.flatMap EntD.cells))) (all_hlv : ∀ p ∈ es, EntD.rd p w []) : Rets Try.prog 28 #[.pointer (some ⟨lb, 0, none⟩)] w fun u_ w' => u_ = .int .u64 (i + es.length : Nat) ∧ Own w [] [] w' := by
  refine fn_enter (args := [.pointer (some ⟨lb, 0, none⟩)]) Try.func28 rfl Try.ntmps28 rfl (Own.start w) ?_
  refine c_reg ?_
  refine l_as rfl ?_
  refine l_end ?_
  refine c_quiets (by kernel_rfl) (by kernel_rfl) ?_
  refine q_val rfl (v_mv) ?_
  refine q_val rfl (v_nck rfl) ?_
  refine q_val rfl (v_fld (o := 0) rfl (by kernel_rfl)) ?_
  refine q_val rfl (v_fld (o := 0) rfl (by kernel_rfl)) ?_
  refine q_val rfl (v_ldq (v := .int .u64 (i : Nat)) rfl (hlb.φ.cell rfl) (hlb.far _ (by simp [Res.row])) (by kernel_rfl)) ?_
  refine q_val rfl (v_mv) ?_
  refine q_val rfl (v_nck rfl) ?_
  refine q_val rfl (v_fld (o := 2) rfl (by kernel_rfl)) ?_
  refine q_val rfl (v_ldq (v := lv) rfl (hlb.φ.cell rfl) (hlb.far _ (by simp [Res.row])) (by kernel_rfl)) ?_
  refine q_val rfl (v_lenS (len := es.length) (cs := (es.flatMap EntD.cells)) (by kernel_rfl) rfl (fun w' hw' => Own.rd hlv hw')) ?_
  refine q_val rfl (v_cvt (by kernel_rfl) rfl (wu64 (by omega)) (by kernel_rfl)) ?_
  refine q_val rfl (v_add rfl rfl (wu64 (by omega))) ?_
  refine q_val rfl (v_as) ?_
  refine q_end ?_
  exact c_ret (ret1 (v := .int .u64 (i + es.length : Nat)) rfl rfl (fun w' hw => ⟨rfl, hw.drop⟩))
theorem term_s (lb i t : Nat) (lv : Value) (es : List EntD) (k : Nat) (w : World) (hl : LenOk es.length) (hb : i + es.length ≤ 4611686018427387904) (hk : k < 18446744073709551616) (hlb : Rd w [] (Res.row lb 66 [.int .u64 (i : Nat), .int .u64 (t : Nat), lv])) (hlv : Rd w [] (Res.sl lv es.length (es.flatMap EntD.cells))) (all_hlv : ∀ p ∈ es, EntD.rd p w []) : Rets Try.prog 18 #[.pointer (some ⟨lb, 0, none⟩), .int .u64 (k : Nat)] w fun u_ w' => ∃ (x : Nat) (e : Int), u_ = .tuple #[.int .u64 (x : Nat), .int .i64 e] ∧ (LG i t es).termE k = (x, e) ∧ Own w [] [] w' := by
  refine fn_enter (args := [.pointer (some ⟨lb, 0, none⟩), .int .u64 (k : Nat)]) Try.func18 rfl Try.ntmps18 rfl (Own.start w) ?_
  refine c_reg ?_
  refine l_as rfl ?_
  refine l_as rfl ?_
  refine l_end ?_
  refine c_seq ?_
  refine c_block ?_
  refine c_reg ?_
  refine l_mv rfl ?_
  refine l_nilp (by kernel_rfl) rfl rfl rfl ?_
  refine l_as rfl ?_
  refine l_end ?_
  refine c_no rfl ?_
  refine c_reg ?_
  refine l_mv rfl ?_
  refine l_mv rfl ?_
  refine l_nck rfl rfl ?_
  refine l_fld (o := 0) rfl (by kernel_rfl) rfl ?_
  refine l_fld (o := 0) rfl (by kernel_rfl) rfl ?_
  refine l_ldq (v := .int .u64 (i : Nat)) rfl (hlb.φ.cell rfl) (hlb.far _ (by simp [Res.row])) (by kernel_rfl) rfl ?_
  refine l_lss rfl rfl rfl ?_
  refine l_as rfl ?_
  refine l_end ?_
  refine c_dec rfl (fun c2 => ?_) (fun c2 => ?_)
  ·
    refine c_reg ?_
    refine l_as rfl ?_
    refine l_as rfl ?_
    refine l_end ?_
    exact c_ret (ret2 (v := .int .u64 (0 : Nat)) (v' := .int .i64 13) rfl rfl rfl (fun w' hw => ⟨0, 13, rfl, LG.term_lo (by omega), hw.drop⟩))
  ·
    refine c_reg ?_
    refine l_mv rfl ?_
    refine l_mv rfl ?_
    refine l_call (by kernel_rfl) rfl rfl (fun w' hw => ?_)
    refine (last0_s lb i t lv es w' (by first | assumption | omega | (simp <;> omega) | (constructor <;> (first | omega | (simp only [LenOk]; omega) | (simp <;> omega)))) (hw.rd0 hlb) (hw.rd0 hlv) (fun p hp => EntD.rd.at0 (all_hlv p hp) hw)).mono ?_
    rintro _ w1 ⟨rfl, hO⟩
    refine (?_ : CL _ _ _ _ _ _ (Own w [] [])) w1 (hw.frame0 hO)
    refine l_gtr rfl rfl rfl ?_
    refine l_as rfl ?_
    refine l_end ?_
    refine c_dec rfl (fun c3 => ?_) (fun c3 => ?_)
    ·
      refine c_reg ?_
      refine l_as rfl ?_
      refine l_as rfl ?_
      refine l_end ?_
      exact c_ret (ret2 (v := .int .u64 (0 : Nat)) (v' := .int .i64 8) rfl rfl rfl (fun w' hw => ⟨0, 8, rfl, LG.term_hi (by omega), hw.drop⟩))
    ·
      refine c_reg ?_
      refine l_mv rfl ?_
      refine l_mv rfl ?_
      refine l_nck rfl rfl ?_
      refine l_fld (o := 0) rfl (by kernel_rfl) rfl ?_
      refine l_fld (o := 0) rfl (by kernel_rfl) rfl ?_
      refine l_ldq (v := .int .u64 (i : Nat)) rfl (hlb.φ.cell rfl) (hlb.far _ (by simp [Res.row])) (by kernel_rfl) rfl ?_
      refine l_eq rfl rfl rfl ?_
      refine l_as rfl ?_
      refine l_end ?_
      refine c_dec rfl (fun c4 => ?_) (fun c4 => ?_)
      ·
        refine c_reg ?_
        refine l_mv rfl ?_
        refine l_nck rfl rfl ?_
        refine l_fld (o := 0) rfl (by kernel_rfl) rfl ?_
        refine l_fld (o := 1) rfl (by kernel_rfl) rfl ?_
        refine l_ldq (v := .int .u64 (t : Nat)) rfl (hlb.φ.cell rfl) (hlb.far _ (by simp [Res.row])) (by kernel_rfl) rfl ?_
        refine l_as rfl ?_
        refine l_as rfl ?_
        refine l_end ?_
        exact c_ret (ret2 (v := .int .u64 (t : Nat)) (v' := .int .i64 0) rfl rfl rfl (fun w' hw => ⟨t, 0, rfl, LG.term_at (by omega), hw.drop⟩))
      ·
        refine c_skipC ?_
        refine c_quiets (by kernel_rfl) (by kernel_rfl) ?_
        refine q_val rfl (v_mv) ?_
        refine q_val rfl (v_nck rfl) ?_
        refine q_val rfl (v_fld (o := 2) rfl (by kernel_rfl)) ?_
        refine q_val rfl (v_ldq (v := lv) rfl (hlb.φ.cell rfl) (hlb.far _ (by simp [Res.row])) (by kernel_rfl)) ?_
        refine q_val rfl (v_mv) ?_
        refine q_val rfl (v_mv) ?_
        refine q_val rfl (v_nck rfl) ?_
        refine q_val rfl (v_fld (o := 0) rfl (by kernel_rfl)) ?_
        refine q_val rfl (v_fld (o := 0) rfl (by kernel_rfl)) ?_
        refine q_val rfl (v_ldq (v := .int .u64 (i : Nat)) rfl (hlb.φ.cell rfl) (hlb.far _ (by simp [Res.row])) (by kernel_rfl)) ?_
        refine q_val rfl (v_sub (c := ((k - i : Nat) : Int)) rfl rfl (ws (by omega) (by omega))) ?_
        refine q_val rfl (v_sub (c := ((k - i - 1 : Nat) : Int)) rfl rfl (ws (a := k - i) (b := 1) (by omega) (by omega))) ?_
        refine q_val rfl (v_idxS (j := k - i - 1) (sz := 5) (len := es.length) (cs := (es.flatMap EntD.cells)) rfl rfl (by kernel_rfl) (fun w' hw' => Own.rd hlv hw') rfl (by omega)) ?_
        refine q_val rfl (v_fld (o := 1) rfl (by kernel_rfl)) ?_
        refine q_val rfl (v_ldS ((k - i - 1) * 5 + 1) (cs := (es.flatMap EntD.cells)) rfl (by omega) (fun w' hw' => Own.rd hlv hw') (flat_at (sz := 5) (fun _ => rfl) (nth_some (by omega)) (i := 1) rfl) (by kernel_rfl)) ?_
        refine q_val rfl (v_as) ?_
        refine q_val rfl (v_as) ?_
        refine q_end ?_
        exact c_ret (ret2 (v := .int .u64 ((nth es (k - i - 1)).term : Nat)) (v' := .int .i64 0) rfl rfl rfl (fun w' hw => ⟨(nth es (k - i - 1)).term, 0, rfl, LG.term_in (by omega) (by omega) rfl, hw.drop⟩))
theorem termNil_s (k : Nat) (w : World) : Rets Try.prog 18 #[.pointer none, .int .u64 (k : Nat)] w fun u_ w' => u_ = .tuple #[.int .u64 (0 : Nat), .int .i64 1] ∧ Own w [] [] w' := by
  refine fn_enter (args := [.pointer none, .int .u64 (k : Nat)]) Try.func18 rfl Try.ntmps18 rfl (Own.start w) ?_
  refine c_reg ?_
  refine l_as rfl ?_
  refine l_as rfl ?_
  refine l_end ?_
  refine c_seq ?_
  refine c_block ?_
  refine c_reg ?_
  refine l_mv rfl ?_
  refine l_nilp (by kernel_rfl) rfl rfl rfl ?_
  refine l_as rfl ?_
  refine l_end ?_
  refine c_yes rfl ?_
  refine c_reg ?_
  refine l_as rfl ?_
  refine l_as rfl ?_
  refine l_end ?_
  exact c_ret (ret2 (v := .int .u64 (0 : Nat)) (v' := .int .i64 1) rfl rfl rfl (fun w' hw => ⟨rfl, hw.drop⟩))
theorem last_s (lb i t : Nat) (lv : Value) (es : List EntD) (w : World) (hl : LenOk es.length) (hb : i + es.length ≤ 4611686018427387904) (hlb : Rd w [] (Res.row lb 66 [.int .u64 (i : Nat), .int .u64 (t : Nat), lv])) (hlv : Rd w [] (Res.sl lv es.length (es.flatMap EntD.cells))) (all_hlv : ∀ p ∈ es, EntD.rd p w []) : Rets Try.prog 11 #[.pointer (some ⟨lb, 0, none⟩)] w fun u_ w' => u_ = .tuple #[.int .u64 (i + es.length : Nat), .int .u64 ((LG i t es).end_ : Nat)] ∧ Own w [] [] w' := by
  refine fn_enter (args := [.pointer (some ⟨lb, 0, none⟩)]) Try.func11 rfl Try.ntmps11 rfl (Own.start w) ?_
  refine c_reg ?_
  refine l_as rfl ?_
  refine l_as rfl ?_
  refine l_end ?_
  refine c_seq ?_
  refine c_reg ?_
  refine l_mv rfl ?_
  refine l_nilp (by kernel_rfl) rfl rfl rfl ?_
  refine l_end ?_
  refine c_no rfl ?_
  refine c_skipC ?_
  refine c_reg ?_
  refine l_mv rfl ?_
  refine l_mv rfl ?_
  refine l_call (by kernel_rfl) rfl rfl (fun w' hw => ?_)
  refine (last0_s lb i t lv es w' (by first | assumption | omega | (simp <;> omega) | (constructor <;> (first | omega | (simp only [LenOk]; omega) | (simp <;> omega)))) (hw.rd0 hlb) (hw.rd0 hlv) (fun p hp => EntD.rd.at0 (all_hlv p hp) hw)).mono ?_
  rintro _ w1 ⟨rfl, hO⟩
  refine (?_ : CL _ _ _ _ _ _ (Own w [] [])) w1 (hw.frame0 hO)
  refine l_call (by kernel_rfl) rfl rfl (fun w' hw => ?_)
  refine (term_s lb i t lv es (i + es.length) w' (by first | assumption | omega | (simp <;> omega) | (constructor <;> (first | omega | (simp only [LenOk]; omega) | (simp <;> omega)))) (by first | assumption | omega | (simp <;> omega) | (constructor <;> (first | omega | (simp only [LenOk]; omega) | (simp <;> omega)))) (by first | assumption | omega | (simp <;> omega) | (constructor <;> (first | omega | (simp only [LenOk]; omega) | (simp <;> omega)))) (hw.rd0 hlb) (hw.rd0 hlv) (fun p hp => EntD.rd.at0 (all_hlv p hp) hw)).mono ?_
  rintro _ w1 ⟨x1_, e2_, rfl, hf3_3, hO⟩
  refine (?_ : CL _ _ _ _ _ _ (Own w [] [])) w1 (hw.frame0 hO)
  refine l_mv rfl ?_
  refine l_ext (vs := [.int .u64 (x1_ : Nat), .int .i64 e2_]) rfl rfl rfl ?_
  refine l_ext (vs := [.int .u64 (x1_ : Nat), .int .i64 e2_]) rfl rfl rfl ?_
  refine l_as rfl ?_
  refine l_as rfl ?_
  refine l_end ?_
  refine c_reg ?_
  refine l_mv rfl ?_
  refine l_call (by kernel_rfl) rfl rfl (fun w' hw => ?_)
  refine (last0_s lb i t lv es w' (by first | assumption | omega | (simp <;> omega) | (constructor <;> (first | omega | (simp only [LenOk]; omega) | (simp <;> omega)))) (hw.rd0 hlb) (hw.rd0 hlv) (fun p hp => EntD.rd.at0 (all_hlv p hp) hw)).mono ?_
  rintro _ w1 ⟨rfl, hO⟩
  refine (?_ : CL _ _ _ _ _ _ (Own w [] [])) w1 (hw.frame0 hO)
  refine l_mv rfl ?_
  refine l_as rfl ?_
  refine l_as rfl ?_
  refine l_end ?_
  exact c_ret (ret2 (v := .int .u64 (i + es.length : Nat)) (v' := .int .u64 (x1_ : Nat)) rfl rfl rfl (fun w' hw => ⟨(by rw [LG.end_eq hf3_3]), hw.drop⟩))
theorem lastNil_s (w : World) : Rets Try.prog 11 #[.pointer none] w fun u_ w' => u_ = .tuple #[.int .u64 (0 : Nat), .int .u64 (0 : Nat)] ∧ Own w [] [] w' := by
  refine fn_enter (args := [.pointer none]) Try.func11 rfl Try.ntmps11 rfl (Own.start w) ?_
  refine c_reg ?_
  refine l_as rfl ?_
  refine l_as rfl ?_
  refine l_end ?_
  refine c_seq ?_
  refine c_reg ?_
  refine l_mv rfl ?_
  refine l_nilp (by kernel_rfl) rfl rfl rfl ?_
  refine l_end ?_
  refine c_yes rfl ?_
  refine c_reg ?_
  refine l_as rfl ?_
  refine l_as rfl ?_
  refine l_end ?_
  exact c_ret (ret2 (v := .int .u64 (0 : Nat)) (v' := .int .u64 (0 : Nat)) rfl rfl rfl (fun w' hw => ⟨rfl, hw.drop⟩))
theorem fits_s' (lb i t : Nat) (lv : Value) (es : List EntD) (k u : Nat) (w : World) (hl : LenOk es.length) (hb : i + es.length ≤ 4611686018427387904) (hk : k < 18446744073709551616) (hlb : Rd w [] (Res.row lb 66 [.int .u64 (i : Nat), .int .u64 (t : Nat), lv])) (hlv : Rd w [] (Res.sl lv es.length (es.flatMap EntD.cells))) (all_hlv : ∀ p ∈ es, EntD.rd p w []) : Rets Try.prog 20 #[.pointer (some ⟨lb, 0, none⟩), .int .u64 (k : Nat), .int .u64 (u : Nat)] w fun u_ w' => u_ = .bool (decide ((LG i t es).fits k u)) ∧ Own w [] [] w' := by
  refine fn_enter (args := [.pointer (some ⟨lb, 0, none⟩), .int .u64 (k : Nat), .int .u64 (u : Nat)]) Try.func20 rfl Try.ntmps20 rfl (Own.start w) ?_
  refine c_reg ?_
  refine l_as rfl ?_
  refine l_end ?_
  refine c_reg ?_
  refine l_mv rfl ?_
  refine l_mv rfl ?_
  refine l_call (by kernel_rfl) rfl rfl (fun w' hw => ?_)
  refine (term_s lb i t lv es k w' (by first | assumption | omega | (simp <;> omega) | (constructor <;> (first | omega | (simp only [LenOk]; omega) | (simp <;> omega)))) (by first | assumption | omega | (simp <;> omega) | (constructor <;> (first | omega | (simp only [LenOk]; omega) | (simp <;> omega)))) (by first | assumption | omega | (simp <;> omega) | (constructor <;> (first | omega | (simp only [LenOk]; omega) | (simp <;> omega)))) (hw.rd0 hlb) (hw.rd0 hlv) (fun p hp => EntD.rd.at0 (all_hlv p hp) hw)).mono ?_
  rintro _ w1 ⟨x1_, e2_, rfl, hf1_2, hO⟩
  refine (?_ : CL _ _ _ _ _ _ (Own w [] [])) w1 (hw.frame0 hO)
  refine l_mv rfl ?_
  refine l_ext (vs := [.int .u64 (x1_ : Nat), .int .i64 e2_]) rfl rfl rfl ?_
  refine l_ext (vs := [.int .u64 (x1_ : Nat), .int .i64 e2_]) rfl rfl rfl ?_
  refine l_as rfl ?_
  refine l_as rfl ?_
  refine l_end ?_
  refine c_reg ?_
  refine l_mv rfl ?_
  refine l_eq rfl rfl rfl ?_
  refine l_mv rfl ?_
  refine l_band (q := e2_ = 0) 3 2 [20, 19, 18] (((x1_ : Nat) : Int) = ((u : Nat) : Int)) rfl rfl rfl rfl rfl rfl trivial rfl (fun h2_2 => ?_) (fun g2_6 => ?_)
  ·
    refine l_on rfl (gT h2_2) ?_
    refine l_mv rfl ?_
    refine l_on rfl (gT h2_2) ?_
    refine l_mv rfl ?_
    refine l_on rfl (gT h2_2) ?_
    refine l_eq rfl rfl rfl ?_
    exact l_nil (fun w' hw => ⟨(by repeat (first | exact Out.refl _ _ | refine Out.upd rfl ?_ | refine Out.msk rfl ?_)), rfl, hw⟩)
  refine l_as rfl ?_
  refine l_end ?_
  exact c_ret (ret1 (v := .bool (decide ((e2_ = 0) ∧ (((x1_ : Nat) : Int) = ((u : Nat) : Int))))) rfl rfl (fun w' hw => ⟨(by congr 1; exact decide_eq_decide.2 (by unfold LogA.fits; rw [hf1_2]; exact ⟨fun h => ⟨h.1, by have := h.2; dsimp only; omega⟩, fun h => ⟨h.1, by have := h.2; dsimp only at this; omega⟩⟩)), hw.drop⟩))
theorem fitsNil_s (k u : Nat) (w : World) : Rets Try.prog 20 #[.pointer none, .int .u64 (k : Nat), .int .u64 (u : Nat)] w fun u_ w' => u_ = .bool false ∧ Own w [] [] w' := by
  refine fn_enter (args := [.pointer none, .int .u64 (k : Nat), .int .u64 (u : Nat)]) Try.func20 rfl Try.ntmps20 rfl (Own.start w) ?_
  refine c_reg ?_
  refine l_as rfl ?_
  refine l_end ?_
  refine c_reg ?_
  refine l_mv rfl ?_
  refine l_mv rfl ?_
  refine l_call (by kernel_rfl) rfl rfl (fun w' hw => ?_)
  refine (termNil_s k w').mono ?_
  rintro _ w1 ⟨rfl, hO⟩
  refine (?_ : CL _ _ _ _ _ _ (Own w [] [])) w1 (hw.frame0 hO)
  refine l_mv rfl ?_
  refine l_ext (vs := [.int .u64 (0 : Nat), .int .i64 1]) rfl rfl rfl ?_
  refine l_ext (vs := [.int .u64 (0 : Nat), .int .i64 1]) rfl rfl rfl ?_
  refine l_as rfl ?_
  refine l_as rfl ?_
  refine l_end ?_
  refine c_reg ?_
  refine l_mv rfl ?_
  refine l_eq rfl rfl rfl ?_
  refine l_mv rfl ?_
  refine l_band (q := 1 = 0) 3 2 [20, 19, 18] (((0 : Nat) : Int) = ((u : Nat) : Int)) rfl rfl rfl rfl rfl rfl trivial rfl (fun h2_2 => ?_) (fun g2_6 => ?_)
  ·
    refine l_on rfl (gT h2_2) ?_
    refine l_mv rfl ?_
    refine l_on rfl (gT h2_2) ?_
    refine l_mv rfl ?_
    refine l_on rfl (gT h2_2) ?_
    refine l_eq rfl rfl rfl ?_
    exact l_nil (fun w' hw => ⟨(by repeat (first | exact Out.refl _ _ | refine Out.upd rfl ?_ | refine Out.msk rfl ?_)), rfl, hw⟩)
  refine l_as rfl ?_
  refine l_end ?_
  exact c_ret (ret1 (v := .bool (decide ((1 = 0) ∧ (((0 : Nat) : Int) = ((u : Nat) : Int))))) rfl rfl (fun w' hw => ⟨rfl, hw.drop⟩))
theorem fresh_s (lb i t : Nat) (lv : Value) (es : List EntD) (k u : Nat) (w : World) (hl : LenOk es.length) (hb : i + es.length ≤ 4611686018427387904) (hlb : Rd w [] (Res.row lb 66 [.int .u64 (i : Nat), .int .u64 (t : Nat), lv])) (hlv : Rd w [] (Res.sl lv es.length (es.flatMap EntD.cells))) (all_hlv : ∀ p ∈ es, EntD.rd p w []) : Rets Try.prog 12 #[.pointer (some ⟨lb, 0, none⟩), .int .u64 (k : Nat), .int .u64 (u : Nat)] w fun u_ w' => u_ = .bool (decide ((LG i t es).fresh k u)) ∧ Own w [] [] w' := by
  refine fn_enter (args := [.pointer (some ⟨lb, 0, none⟩), .int .u64 (k : Nat), .int .u64 (u : Nat)]) Try.func12 rfl Try.ntmps12 rfl (Own.start w) ?_
  refine c_reg ?_
  refine l_as rfl ?_
  refine l_end ?_
  refine c_seq ?_
  refine c_reg ?_
  refine l_mv rfl ?_
  refine l_nilp (by kernel_rfl) rfl rfl rfl ?_
  refine l_end ?_
  refine c_no rfl ?_
  refine c_skipC ?_
  refine c_reg ?_
  refine l_mv rfl ?_
  refine l_call (by kernel_rfl) rfl rfl (fun w' hw => ?_)
  refine (last_s lb i t lv es w' (by first | assumption | omega | (simp <;> omega) | (constructor <;> (first | omega | (simp only [LenOk]; omega) | (simp <;> omega)))) (by first | assumption | omega | (simp <;> omega) | (constructor <;> (first | omega | (simp only [LenOk]; omega) | (simp <;> omega)))) (hw.rd0 hlb) (hw.rd0 hlv) (fun p hp => EntD.rd.at0 (all_hlv p hp) hw)).mono ?_
  rintro _ w1 ⟨rfl, hO⟩
  refine (?_ : CL _ _ _ _ _ _ (Own w [] [])) w1 (hw.frame0 hO)
  refine l_mv rfl ?_
  refine l_ext (vs := [.int .u64 (i + es.length : Nat), .int .u64 ((LG i t es).end_ : Nat)]) rfl rfl rfl ?_
  refine l_ext (vs := [.int .u64 (i + es.length : Nat), .int .u64 ((LG i t es).end_ : Nat)]) rfl rfl rfl ?_
  refine l_as rfl ?_
  refine l_as rfl ?_
  refine l_end ?_
  refine c_reg ?_
  refine l_mv rfl ?_
  refine l_mv rfl ?_
  refine l_gtr rfl rfl rfl ?_
  refine l_mv rfl ?_
  refine l_bor (q := (((LG i t es).end_ : Nat) : Int) < ((u : Nat) : Int)) 8 3 [27, 26, 25, 24, 23, 22, 21, 20] ((((u : Nat) : Int) = (((LG i t es).end_ : Nat) : Int)) ∧ (((i + es.length : Nat) : Int) ≤ ((k : Nat) : Int))) rfl rfl rfl rfl rfl rfl trivial rfl (fun h4_3 => ?_) (fun g4_12 => ?_)
  ·
    refine l_on rfl (gF h4_3) ?_
    refine l_mv rfl ?_
    refine l_on rfl (gF h4_3) ?_
    refine l_mv rfl ?_
    refine l_on rfl (gF h4_3) ?_
    refine l_eq rfl rfl rfl ?_
    refine l_on rfl (gF h4_3) ?_
    refine l_mv rfl ?_
    refine l_band (q := ((u : Nat) : Int) = (((LG i t es).end_ : Nat) : Int)) 3 7 [26, 25, 24] (((i + es.length : Nat) : Int) ≤ ((k : Nat) : Int)) rfl rfl rfl rfl rfl rfl ⟨_, rfl, rfl, gF h4_3⟩ rfl (fun h4_7 => ?_) (fun g4_11 => ?_)
    ·
      refine l_on rfl (gT h4_7) ?_
      refine l_mv rfl ?_
      refine l_on rfl (gT h4_7) ?_
      refine l_mv rfl ?_
      refine l_on rfl (gT h4_7) ?_
      refine l_geq rfl rfl rfl ?_
      exact l_nil (fun w' hw => ⟨(by repeat (first | exact Out.refl _ _ | refine Out.upd rfl ?_ | refine Out.msk rfl ?_)), rfl, hw⟩)
    exact l_nil (fun w' hw => ⟨(by repeat (first | exact Out.refl _ _ | refine Out.upd rfl ?_ | refine Out.msk rfl ?_)), rfl, hw⟩)
  refine l_as rfl ?_
  refine l_end ?_
  exact c_ret (ret1 (v := .bool (decide (((((LG i t es).end_ : Nat) : Int) < ((u : Nat) : Int)) ∨ ((((u : Nat) : Int) = (((LG i t es).end_ : Nat) : Int)) ∧ (((i + es.length : Nat) : Int) ≤ ((k : Nat) : Int)))))) rfl rfl (fun w' hw => ⟨(by congr 1; exact decide_eq_decide.2 (by unfold LogA.fresh; rw [LG.last_eq]; omega)), hw.drop⟩))
theorem freshNil_s (k u : Nat) (w : World) : Rets Try.prog 12 #[.pointer none, .int .u64 (k : Nat), .int .u64 (u : Nat)] w fun u_ w' => u_ = .bool false ∧ Own w [] [] w' := by
  refine fn_enter (args := [.pointer none, .int .u64 (k : Nat), .int .u64 (u : Nat)]) Try.func12 rfl Try.ntmps12 rfl (Own.start w) ?_
  refine c_reg ?_
  refine l_as rfl ?_
  refine l_end ?_
  refine c_seq ?_
  refine c_reg ?_
  refine l_mv rfl ?_
  refine l_nilp (by kernel_rfl) rfl rfl rfl ?_
  refine l_end ?_
  refine c_yes rfl ?_
  refine c_reg ?_
  refine l_as rfl ?_
  refine l_end ?_
  exact c_ret (ret1 (v := .bool false) rfl rfl (fun w' hw => ⟨rfl, hw.drop⟩))
theorem cloneE_s (v : Value) (l : List EntD) (w : World) (hl : l.length ≤ 100000000000) (hv : Rd w [] (Res.sl v l.length (l.flatMap EntD.cells))) (all_hv : ∀ p ∈ l, EntD.rd p w []) : Rets Try.prog 30 #[v] w fun u_ w' => ∃ (r : Value), u_ = r ∧ Own w [] [Res.vec 38 5 r l.length (l.flatMap EntD.cells)] w' := by
  refine fn_enter (args := [v]) Try.func30 rfl Try.ntmps30 rfl (Own.start w) ?_
  refine c_reg ?_
  refine l_as rfl ?_
  refine l_end ?_
  refine c_seq ?_
  refine c_reg ?_
  refine l_mv rfl ?_
  refine l_nilsS (len := l.length) (cs := (l.flatMap EntD.cells)) (by kernel_rfl) rfl rfl (fun w' hw' => Own.rd hv hw') rfl ?_
  refine l_end ?_
  refine c_if rfl (fun c1 => ?_) (fun c1 => ?_)
  ·
    refine c_reg ?_
    refine l_as rfl ?_
    refine l_end ?_
    exact c_ret (ret1 (v := .slice none 0 0) rfl rfl (fun w' hw => ⟨.slice none 0 0, rfl, by obtain ⟨_, h0⟩ := Sl.isNil hv.φ c1; rw [List.eq_nil_of_length_eq_zero h0]; exact own_nil hw 38 5⟩))
  ·
    refine c_skipC ?_
    refine c_reg ?_
    refine l_bsl (e := 38) (sz := 5) (vs := []) (by kernel_rfl) rfl rfl (by simp [Value.cells, EntD.cells]) (by decide) rfl (fun b5 => ?_)
    refine l_mv rfl ?_
    refine l_appF (g := EntD.cells) (sz := 5) (by' := 56) (fun _ => rfl) (l := []) (l' := l) (EntD.c1all all_hv) 0 (by kernel_rfl) rfl rfl rfl (fun w' hw' => Own.rd hv hw') (by first | omega | (simp; omega)) (by decide) rfl (fun v7 => ?_)
    refine l_as rfl ?_
    refine l_end ?_
    exact c_ret (ret1 (v := v7) rfl rfl (fun w' hw => ⟨v7, rfl, hw⟩))
theorem clone_s (x : EntD) (w : World) (hx : x.data.length ≤ 1000000000) (rd_x : EntD.rd x w []) : Rets Try.prog 41 #[.agg (EntD.cells x).toArray] w fun u_ w' => ∃ (r : Value), u_ = .agg #[.int .u64 (x.index : Nat), .int .u64 (x.term : Nat), .int .i64 x.kind, .int .i64 x.delta, r] ∧ Own w [] [Res.vec 5 1 r x.data.length (x.data.map vb)] w' := by
  refine fn_enter (args := [.agg (EntD.cells x).toArray]) Try.func41 rfl Try.ntmps41 rfl (Own.start w) ?_
  refine c_reg ?_
  refine l_box rfl rfl (fun b1 => ?_)
  refine l_new (v := .agg #[.int .u64 (0 : Nat), .int .u64 (0 : Nat), .int .i64 0, .int .i64 0, .slice none 0 0]) (by kernel_rfl) rfl (fun b2 => ?_)
  refine l_end ?_
  refine c_reg ?_
  refine l_fld (o := 4) rfl (by kernel_rfl) rfl ?_
  refine l_ldo 0 (v := x.dv) rfl rfl rfl (by kernel_rfl) rfl ?_
  refine l_call (by kernel_rfl) rfl rfl (fun w' hw => ?_)
  refine (cloneB_s x.dv x.data w' (by first | assumption | omega | (simp <;> omega) | (constructor <;> (first | omega | (simp only [LenOk]; omega) | (simp <;> omega)))) (hw.rd0 rd_x.dv)).mono ?_
  rintro r1_ w1 ⟨_, rfl, hO⟩
  refine (?_ : CL _ _ _ _ _ _ (Own w [] [Res.row b1 38 (EntD.cells x), Res.row b2 38 [.int .u64 (0 : Nat), .int .u64 (0 : Nat), .int .i64 0, .int .i64 0, .slice none 0 0], Res.vec 5 1 r1_ x.data.length (x.data.map vb)])) w1 (hw.frame0 hO)
  refine l_fld (o := 4) rfl (by kernel_rfl) rfl ?_
  refine l_haveO (fun w' hw => Own.cell1Vec (i := 2) rfl hw) (fun hc1_ => ?_)
  refine l_st (cs := (EntD.cells x)) 0 rfl rfl rfl (by kernel_rfl) hc1_ (Nat.le_of_ble_eq_true rfl) ?_
  refine l_end ?_
  refine c_reg ?_
  refine l_ldr (cs := [.int .u64 (x.index : Nat), .int .u64 (x.term : Nat), .int .i64 x.kind, .int .i64 x.delta, r1_]) 0 rfl rfl (by kernel_rfl) rfl ?_
  refine l_stN (cs := [.int .u64 (0 : Nat), .int .u64 (0 : Nat), .int .i64 0, .int .i64 0, .slice none 0 0]) (vs := [.int .u64 (x.index : Nat), .int .u64 (x.term : Nat), .int .i64 x.kind, .int .i64 x.delta, r1_]) 1 rfl rfl rfl (by kernel_rfl) (allc_cons rfl (allc_cons rfl (allc_cons rfl (allc_cons rfl (allc_cons hc1_ allc_nil))))) (Nat.le_of_ble_eq_true rfl) ?_
  refine l_end ?_
  exact c_ret (retc (cs := [.int .u64 (x.index : Nat), .int .u64 (x.term : Nat), .int .i64 x.kind, .int .i64 x.delta, r1_]) rfl rfl (by kernel_rfl) (Own.rowCells (i := 1) rfl) (fun w' hw => ⟨r1_, rfl, hw.sel [2] rfl (by decide)⟩))
theorem clones_s (v : Value) (l : List EntD) (w : World) (hl : l.length ≤ 100000000000) (hd : ∀ x ∈ l, x.data.length ≤ 1000000000) (hv : Rd w [] (Res.sl v l.length (l.flatMap EntD.cells))) (all_hv : ∀ p ∈ l, EntD.rd p w []) : Rets Try.prog 31 #[v] w fun u_ w' => ∃ (r : Value) (es : List EntD), u_ = r ∧ es.map EntD.toEntA = l.map EntD.toEntA ∧ Own w [] [Res.vec 38 5 r es.length (es.flatMap EntD.cells), Res.star (es.map EntD.dres)] w' := by
  refine fn_enter (args := [v]) Try.func31 rfl Try.ntmps31 rfl (Own.start w) ?_
  refine c_reg ?_
  refine l_as rfl ?_
  refine l_end ?_
  refine c_reg ?_
  refine l_as rfl ?_
  refine l_end ?_
  refine c_seq ?_
  refine c_reg ?_
  refine l_mv rfl ?_
  refine l_lenS (len := l.length) (cs := (l.flatMap EntD.cells)) (by kernel_rfl) rfl (fun w' hw' => Own.rd hv hw') rfl ?_
  refine l_mv rfl ?_
  refine l_end ?_
  refine c_block ?_
  refine c_loop3 (fun (k : Nat) (lv : Value) (es : List EntD) => [(3, lv), (6, v), (7, .int .i64 (l.length : Nat)), (8, .int .i64 (k : Nat))]) (fun (k : Nat) (lv : Value) (es : List EntD) => k ≤ l.length ∧ es.map EntD.toEntA = (l.take k).map EntD.toEntA) (fun (k : Nat) (lv : Value) (es : List EntD) => [Res.vec 38 5 lv es.length (es.flatMap EntD.cells), Res.star (es.map EntD.dres)]) (fun (k : Nat) (lv : Value) (es : List EntD) => l.length - k) (fun w' hw => ⟨0, .slice none 0 0, [], ⟨rfl, rfl, rfl, rfl, trivial⟩, ⟨Nat.zero_le _, rfl⟩, (own_nil hw 38 5).starNil⟩) (fun k lv es g hΦ => ?_)
  have hlen : es.length = min k l.length := by have := congrArg List.length hΦ.2; simpa using this
  refine c_reg ?_
  refine l_lss rfl rfl rfl ?_
  refine l_end ?_
  refine c_seq ?_
  refine c_dec rfl (fun c1 => ?_) (fun c1 => ?_)
  ·
    have hnd := hd _ (nth_mem (l := l) (j := k) (by omega))
    refine c_skipC ?_
    refine c_seq ?_
    refine c_block ?_
    refine c_reg ?_
    refine l_idxS (j := k) (sz := 5) (len := l.length) (cs := (l.flatMap EntD.cells)) rfl rfl (by kernel_rfl) (fun w' hw' => Own.rd hv hw') rfl (by omega) rfl ?_
    refine l_ldSN (k * 5 + 0) (cs := (l.flatMap EntD.cells)) (EntD.cells (nth l k)) rfl (by omega) (fun w' hw' => Own.rd hv hw') (flat_atN (sz := 5) (fun _ => rfl) (nth_some (by omega)) (o := 0) (us := (EntD.cells (nth l k))) (fun k u h => by rw [Nat.zero_add]; exact h)) (by kernel_rfl) rfl ?_
    refine l_new (v := .agg #[.int .u64 (0 : Nat), .int .u64 (0 : Nat), .int .i64 0, .int .i64 0, .slice none 0 0]) (by kernel_rfl) rfl (fun b5 => ?_)
    refine l_stN (cs := [.int .u64 (0 : Nat), .int .u64 (0 : Nat), .int .i64 0, .int .i64 0, .slice none 0 0]) (vs := [.int .u64 ((nth l k).index : Nat), .int .u64 ((nth l k).term : Nat), .int .i64 ((nth l k).kind), .int .i64 ((nth l k).delta), (nth l k).dv]) 2 rfl rfl rfl (by kernel_rfl) (allc_cons rfl (allc_cons rfl (allc_cons rfl (allc_cons rfl (allc_cons (Sl.cell1 (Rd.φ ((all_hv _ (nth_mem (by omega))).dv))) allc_nil))))) (Nat.le_of_ble_eq_true rfl) ?_
    refine l_end ?_
    refine c_last ?_
    refine l_mv rfl ?_
    refine l_ldr (cs := (EntD.cells (nth l k))) 2 rfl rfl (by kernel_rfl) rfl ?_
    refine l_call (by kernel_rfl) rfl rfl (fun w' hw => ?_)
    refine (clone_s (nth l k) w' (by first | assumption | omega | (simp <;> omega) | (constructor <;> (first | omega | (simp only [LenOk]; omega) | (simp <;> omega)))) ((all_hv _ (nth_mem (by omega))).at0 hw)).mono ?_
    rintro _ w1 ⟨r1_, rfl, hO⟩
    refine (?_ : CL _ _ _ _ _ _ (Own w [] [Res.vec 38 5 lv es.length (es.flatMap EntD.cells), Res.star (es.map EntD.dres), Res.row b5 38 (EntD.cells (nth l k)), Res.vec 5 1 r1_ ((nth l k).data).length (((nth l k).data).map vb)])) w1 (hw.frame0 hO)
    refine l_bsl (e := 38) (sz := 5) (vs := [.agg #[.int .u64 ((nth l k).index : Nat), .int .u64 ((nth l k).term : Nat), .int .i64 ((nth l k).kind), .int .i64 ((nth l k).delta), r1_]]) (by kernel_rfl) rfl rfl (by simp [Value.cells, EntD.cells]) (by decide) rfl (fun b15 => ?_)
    refine l_haveO (fun w' hw => Own.cell1Vec (i := 3) rfl hw) (fun hc1_ => ?_)
    refine l_appF (g := EntD.cells) (sz := 5) (by' := 56) (fun _ => rfl) (l := es) (l' := [({ (nth l k) with dv := r1_ } : EntD)]) (all_cons ((allc_cons rfl (allc_cons rfl (allc_cons rfl (allc_cons rfl (allc_cons hc1_ allc_nil)))))) (by simp)) 0 (by kernel_rfl) rfl rfl rfl (fun w' hw' => Vec.sl (Own.holds hw' 4 _ rfl)) (by first | omega | (simp; omega)) (by decide) rfl (fun v16 => ?_)
    refine l_as rfl ?_
    refine l_end ?_
    refine c_last ?_
    refine l_add rfl rfl (wi64 (by omega)) rfl ?_
    refine l_mv rfl ?_
    exact l_nil (fun w' hw => ⟨k + 1, v16, es ++ [({ (nth l k) with dv := r1_ } : EntD)], ⟨rfl, rfl, rfl, rfl, trivial⟩, ⟨by omega, by rw [List.map_append, take_nth (by omega), List.map_append, hΦ.2]; rfl⟩, ((hw.starMap (x := ({ (nth l k) with dv := r1_ } : EntD)) 1 3 (by decide) rfl rfl).sel [0, 1] rfl (by decide)), (by omega)⟩)
  ·
    refine c_exitC rfl ?_
    refine c_reg ?_
    refine l_mv rfl ?_
    refine l_as rfl ?_
    refine l_end ?_
    exact c_ret (ret1 (v := lv) rfl rfl (fun w' hw => ⟨lv, es, rfl, by rw [hΦ.2, List.take_of_length_le (by omega)], hw⟩))
theorem from_s (lb i t : Nat) (lv : Value) (es : List EntD) (k : Nat) (n : Int) (w : World) (hl : es.length ≤ 100000000000) (hg : (LG i t es).good) (hlb : Rd w [] (Res.row lb 66 [.int .u64 (i : Nat), .int .u64 (t : Nat), lv])) (hlv : Rd w [] (Res.sl lv es.length (es.flatMap EntD.cells))) (all_hlv : ∀ p ∈ es, EntD.rd p w []) : Rets Try.prog 26 #[.pointer (some ⟨lb, 0, none⟩), .int .u64 (k : Nat), .int .i64 n] w fun u_ w' => ∃ (r : Value) (rs : List EntD) (e : Int), u_ = .tuple #[r, .int .i64 e] ∧ (LG i t es).fromE k n = (rs.map EntD.toEntA, e) ∧ Own w [] [Res.vec 38 5 r rs.length (rs.flatMap EntD.cells), Res.star (rs.map EntD.dres)] w' := by
  have hb := (LG.le hg).1
  refine fn_enter (args := [.pointer (some ⟨lb, 0, none⟩), .int .u64 (k : Nat), .int .i64 n]) Try.func26 rfl Try.ntmps26 rfl (Own.start w) ?_
  refine c_reg ?_
  refine l_as rfl ?_
  refine l_as rfl ?_
  refine l_end ?_
  refine c_seq ?_
  refine c_block ?_
  refine c_reg ?_
  refine l_mv rfl ?_
  refine l_nilp (by kernel_rfl) rfl rfl rfl ?_
  refine l_mv rfl ?_
  refine l_on rfl rfl ?_
  refine l_mv rfl ?_
  refine l_on rfl rfl ?_
  refine l_lss rfl rfl rfl ?_
  refine l_on rfl rfl ?_
  refine l_mv rfl ?_
  refine l_band (q := n < 0) 7 5 [22, 21, 20, 19, 18, 17, 16] (((i : Nat) : Int) < ((k : Nat) : Int)) rfl rfl rfl rfl rfl rfl ⟨_, rfl, rfl, rfl⟩ rfl (fun h1_5 => ?_) (fun g1_13 => ?_)
  ·
    refine l_on rfl (gT h1_5) ?_
    refine l_mv rfl ?_
    refine l_on rfl (gT h1_5) ?_
    refine l_mv rfl ?_
    refine l_on rfl (gT h1_5) ?_
    refine l_nck rfl rfl ?_
    refine l_on rfl (gT h1_5) ?_
    refine l_fld (o := 0) rfl (by kernel_rfl) rfl ?_
    refine l_on rfl (gT h1_5) ?_
    refine l_fld (o := 0) rfl (by kernel_rfl) rfl ?_
    refine l_on rfl (gT h1_5) ?_
    refine l_ldq (v := .int .u64 (i : Nat)) rfl (hlb.φ.cell rfl) (hlb.far _ (by simp [Res.row])) (by kernel_rfl) rfl ?_
    refine l_on rfl (gT h1_5) ?_
    refine l_gtr rfl rfl rfl ?_
    exact l_nil (fun w' hw => ⟨(by repeat (first | exact Out.refl _ _ | refine Out.upd rfl ?_ | refine Out.msk rfl ?_)), rfl, hw⟩)
  refine l_on rfl rfl ?_
  refine l_mv rfl ?_
  refine l_band (q := (n < 0) ∧ (((i : Nat) : Int) < ((k : Nat) : Int))) 5 14 [29, 28, 27, 26, 25] (((k : Nat) : Int) ≤ (((i + es.length) + 1 : Nat) : Int)) rfl rfl rfl rfl rfl rfl ⟨_, rfl, rfl, rfl⟩ rfl (fun h1_14 => ?_) (fun g1_20 => ?_)
  ·
    refine l_on rfl (gT h1_14) ?_
    refine l_mv rfl ?_
    refine l_on rfl (gT h1_14) ?_
    refine l_mv rfl ?_
    refine l_on rfl (gT h1_14) ?_
    refine l_call (by kernel_rfl) rfl rfl (fun w' hw => ?_)
    refine (last0_s lb i t lv es w' (by first | assumption | omega | (simp <;> omega) | (constructor <;> (first | omega | (simp only [LenOk]; omega) | (simp <;> omega)))) (hw.rd0 hlb) (hw.rd0 hlv) (fun p hp => EntD.rd.at0 (all_hlv p hp) hw)).mono ?_
    rintro _ w1 ⟨rfl, hO⟩
    refine (?_ : CL _ _ _ _ _ _ (Own w [] [])) w1 (hw.frame0 hO)
    refine l_on rfl (gT h1_14) ?_
    refine l_add rfl rfl (wu64 (by omega)) rfl ?_
    refine l_on rfl (gT h1_14) ?_
    refine l_leq rfl rfl rfl ?_
    exact l_nil (fun w' hw => ⟨(by repeat (first | exact Out.refl _ _ | refine Out.upd rfl ?_ | refine Out.msk rfl ?_)), rfl, hw⟩)
  refine l_pickF rfl rfl ?_
  refine l_as rfl ?_
  refine l_end ?_
  refine c_dec rfl (fun c1 => ?_) (fun c1 => ?_)
  ·
    refine c_reg ?_
    refine l_as rfl ?_
    refine l_as rfl ?_
    refine l_end ?_
    exact c_ret (ret2 (v := .slice none 0 0) (v' := .int .i64 1) rfl rfl rfl (fun w' hw => ⟨.slice none 0 0, [], 1, rfl, by rw [LG.fromE_eq, if_neg (by omega), if_neg (by omega), if_pos (by omega)]; rfl, (Own.starNil (own_nil hw 38 5))⟩))
  ·
    refine c_reg ?_
    refine l_mv rfl ?_
    refine l_mv rfl ?_
    refine l_nck rfl rfl ?_
    refine l_fld (o := 0) rfl (by kernel_rfl) rfl ?_
    refine l_fld (o := 0) rfl (by kernel_rfl) rfl ?_
    refine l_ldq (v := .int .u64 (i : Nat)) rfl (hlb.φ.cell rfl) (hlb.far _ (by simp [Res.row])) (by kernel_rfl) rfl ?_
    refine l_leq rfl rfl rfl ?_
    refine l_as rfl ?_
    refine l_end ?_
    refine c_dec rfl (fun c2 => ?_) (fun c2 => ?_)
    ·
      refine c_reg ?_
      refine l_as rfl ?_
      refine l_as rfl ?_
      refine l_end ?_
      exact c_ret (ret2 (v := .slice none 0 0) (v' := .int .i64 13) rfl rfl rfl (fun w' hw => ⟨.slice none 0 0, [], 13, rfl, by rw [LG.fromE_eq, if_pos (by omega)]; rfl, (Own.starNil (own_nil hw 38 5))⟩))
    ·
      refine c_reg ?_
      refine l_mv rfl ?_
      refine l_mv rfl ?_
      refine l_call (by kernel_rfl) rfl rfl (fun w' hw => ?_)
      refine (last0_s lb i t lv es w' (by first | assumption | omega | (simp <;> omega) | (constructor <;> (first | omega | (simp only [LenOk]; omega) | (simp <;> omega)))) (hw.rd0 hlb) (hw.rd0 hlv) (fun p hp => EntD.rd.at0 (all_hlv p hp) hw)).mono ?_
      rintro _ w1 ⟨rfl, hO⟩
      refine (?_ : CL _ _ _ _ _ _ (Own w [] [])) w1 (hw.frame0 hO)
      refine l_add rfl rfl (wu64 (by omega)) rfl ?_
      refine l_gtr rfl rfl rfl ?_
      refine l_as rfl ?_
      refine l_end ?_
      refine c_dec rfl (fun c3 => ?_) (fun c3 => ?_)
      ·
        refine c_reg ?_
        refine l_as rfl ?_
        refine l_as rfl ?_
        refine l_end ?_
        exact c_ret (ret2 (v := .slice none 0 0) (v' := .int .i64 8) rfl rfl rfl (fun w' hw => ⟨.slice none 0 0, [], 8, rfl, by rw [LG.fromE_eq, if_neg (by omega), if_pos (by omega)]; rfl, (Own.starNil (own_nil hw 38 5))⟩))
      ·
        refine c_skipC ?_
        refine c_quiets (by kernel_rfl) (by kernel_rfl) ?_
        refine q_val rfl (v_mv) ?_
        refine q_val rfl (v_nck rfl) ?_
        refine q_val rfl (v_fld (o := 2) rfl (by kernel_rfl)) ?_
        refine q_val rfl (v_ldq (v := lv) rfl (hlb.φ.cell rfl) (hlb.far _ (by simp [Res.row])) (by kernel_rfl)) ?_
        refine q_val rfl (v_mv) ?_
        refine q_val rfl (v_mv) ?_
        refine q_val rfl (v_nck rfl) ?_
        refine q_val rfl (v_fld (o := 0) rfl (by kernel_rfl)) ?_
        refine q_val rfl (v_fld (o := 0) rfl (by kernel_rfl)) ?_
        refine q_val rfl (v_ldq (v := .int .u64 (i : Nat)) rfl (hlb.φ.cell rfl) (hlb.far _ (by simp [Res.row])) (by kernel_rfl)) ?_
        refine q_val rfl (v_sub (c := ((k - i : Nat) : Int)) rfl rfl (ws (by omega) (by omega))) ?_
        refine q_val rfl (v_sub (c := ((k - i - 1 : Nat) : Int)) rfl rfl (ws (a := k - i) (b := 1) (by omega) (by omega))) ?_
        refine q_val rfl (v_slcS (sz := 5) (l := k - i - 1) (h := es.length) (len := es.length) (cs := (es.flatMap EntD.cells)) (by kernel_rfl) rfl (fun w' hw' => Own.rd hlv hw') ⟨_, rfl⟩ rfl (by omega) (by omega)) ?_
        have hs1_ := Rd.dropL_f (g := EntD.cells) (xs := es) (sz := 5) (fun _ => rfl) hlv (l := k - i - 1) (by omega)
        refine q_val rfl (v_as) ?_
        refine q_end ?_
        refine c_reg ?_
        refine l_mv rfl ?_
        refine l_mv rfl ?_
        refine l_mv rfl ?_
        refine l_lenS (len := (es.drop (k - i - 1)).length) (cs := ((es.drop (k - i - 1)).flatMap EntD.cells)) (by kernel_rfl) rfl (fun w' hw' => Own.rd hs1_ hw') rfl ?_
        refine l_min (c := min n (((es.drop (k - i - 1)).length : Nat) : Int)) rfl rfl (mini _ _) rfl ?_
        refine l_slcS (sz := 5) (l := 0) (h := (min n (((es.drop (k - i - 1)).length : Nat) : Int)).toNat) (len := (es.drop (k - i - 1)).length) (cs := ((es.drop (k - i - 1)).flatMap EntD.cells)) (by kernel_rfl) rfl (fun w' hw' => Own.rd hs1_ hw') rfl ⟨_, (show Value.int .i64 _ = Value.int .i64 _ by congr 1; omega)⟩ (by omega) (by omega) rfl ?_
        have hs2_ := Rd.subL_f (g := EntD.cells) (xs := (es.drop (k - i - 1))) (sz := 5) (fun _ => rfl) hs1_ (l := 0) (h := (min n (((es.drop (k - i - 1)).length : Nat) : Int)).toNat) (by omega) (by omega)
        refine l_call (by kernel_rfl) rfl rfl (fun w' hw => ?_)
        refine (clones_s (cutV (cutV lv (k - i - 1) es.length 5) 0 ((min n (((es.drop (k - i - 1)).length : Nat) : Int)).toNat) 5) (((es.drop (k - i - 1)).take ((min n (((es.drop (k - i - 1)).length : Nat) : Int)).toNat)).drop 0) w' (by first | assumption | omega | (simp <;> omega) | (constructor <;> (first | omega | (simp only [LenOk]; omega) | (simp <;> omega)))) (fun e he => by have := LG.data hg e (List.mem_of_mem_drop (List.mem_of_mem_take (List.mem_of_mem_drop he))); omega) (hw.rd0 hs2_) (all_drop (all_take (all_drop (fun p hp => EntD.rd.at0 (all_hlv p hp) hw))))).mono ?_
        rintro r3_ w1 ⟨_, es4_, rfl, hf8_6, hO⟩
        refine (?_ : CL _ _ _ _ _ _ (Own w [] [Res.vec 38 5 r3_ es4_.length (es4_.flatMap EntD.cells), Res.star (es4_.map EntD.dres)])) w1 (hw.frame0 hO)
        refine l_as rfl ?_
        refine l_as rfl ?_
        refine l_end ?_
        exact c_ret (ret2 (v := r3_) (v' := .int .i64 0) rfl rfl rfl (fun w' hw => ⟨r3_, es4_, 0, rfl, by rw [LG.fromE_eq, if_neg (by omega), if_neg (by omega), if_neg (by omega), hf8_6, List.drop_zero, List.map_take, List.map_drop]; congr 1; rw [List.take_eq_take_iff]; simp; omega, hw⟩))
theorem fromNil_s (k : Nat) (n : Int) (w : World) : Rets Try.prog 26 #[.pointer none, .int .u64 (k : Nat), .int .i64 n] w fun u_ w' => u_ = .tuple #[.slice none 0 0, .int .i64 1] ∧ Own w [] [] w' := by
  refine fn_enter (args := [.pointer none, .int .u64 (k : Nat), .int .i64 n]) Try.func26 rfl Try.ntmps26 rfl (Own.start w) ?_
  refine c_reg ?_
  refine l_as rfl ?_
  refine l_as rfl ?_
  refine l_end ?_
  refine c_seq ?_
  refine c_block ?_
  refine c_reg ?_
  refine l_mv rfl ?_
  refine l_nilp (by kernel_rfl) rfl rfl rfl ?_
  refine l_mv rfl ?_
  refine l_off rfl rfl rfl rfl ?_
  refine l_off rfl rfl rfl rfl ?_
  refine l_off rfl rfl rfl rfl ?_
  refine l_offu rfl rfl rfl ?_
  refine l_offu rfl rfl rfl ?_
  refine l_offu rfl rfl rfl ?_
  refine l_offu rfl rfl rfl ?_
  refine l_offu rfl rfl rfl ?_
  refine l_offu rfl rfl rfl ?_
  refine l_offu rfl rfl rfl ?_
  refine l_off rfl rfl rfl rfl ?_
  refine l_off rfl rfl rfl rfl ?_
  refine l_offu rfl rfl rfl ?_
  refine l_offu rfl rfl rfl ?_
  refine l_offu rfl rfl rfl ?_
  refine l_offu rfl rfl rfl ?_
  refine l_offu rfl rfl rfl ?_
  refine l_off rfl rfl rfl rfl ?_
  refine l_pickT rfl rfl ?_
  refine l_as rfl ?_
  refine l_end ?_
  refine c_yes rfl ?_
  refine c_reg ?_
  refine l_as rfl ?_
  refine l_as rfl ?_
  refine l_end ?_
  exact c_ret (ret2 (v := .slice none 0 0) (v' := .int .i64 1) rfl rfl rfl (fun w' hw => ⟨rfl, hw.drop⟩))
theorem follow_s (i t : Nat) (v : Value) (m : List EntD) (w : World) (hl : LenOk m.length) (hx : ∀ e ∈ m, e.wf) (hi : i < 18446744073709551616) (hv : Rd w [] (Res.sl v m.length (m.flatMap EntD.cells))) (all_hv : ∀ p ∈ m, EntD.rd p w []) : Rets Try.prog 29 #[.agg #[.int .u64 (i : Nat), .int .u64 (t : Nat)], v] w fun u_ w' => u_ = .bool (decide (folA i t (m.map EntD.toEntA))) ∧ Own w [] [] w' := by
  refine fn_enter (args := [.agg #[.int .u64 (i : Nat), .int .u64 (t : Nat)], v]) Try.func29 rfl Try.ntmps29 rfl (Own.start w) ?_
  refine c_reg ?_
  refine l_box rfl rfl (fun b2 => ?_)
  refine l_as rfl ?_
  refine l_end ?_
  refine c_seq ?_
  refine c_reg ?_
  refine l_mv rfl ?_
  refine l_lenS (len := m.length) (cs := (m.flatMap EntD.cells)) (by kernel_rfl) rfl (fun w' hw' => Own.rd hv hw') rfl ?_
  refine l_mv rfl ?_
  refine l_end ?_
  refine c_block ?_
  refine c_loop3 (fun (k : Nat) (j : Nat) (u : Nat) => [(2, .pointer (some ⟨b2, 0, none⟩)), (9, v), (10, .int .i64 (m.length : Nat)), (11, .int .i64 (k : Nat))]) (fun (k : Nat) (j : Nat) (u : Nat) => (k ≤ m.length ∧ j < 18446744073709551616) ∧ folA i t ((m.take k).map EntD.toEntA) ∧ j = endI i ((m.take k).map EntD.toEntA) ∧ u = endT t ((m.take k).map EntD.toEntA)) (fun (k : Nat) (j : Nat) (u : Nat) => [Res.row b2 64 [.int .u64 (j : Nat), .int .u64 (u : Nat)]]) (fun (k : Nat) (j : Nat) (u : Nat) => m.length - k) (fun w' hw => ⟨0, i, t, ⟨rfl, rfl, rfl, rfl, trivial⟩, ⟨⟨Nat.zero_le _, hi⟩, trivial, rfl, rfl⟩, hw⟩) (fun k j u g hΦ => ?_)
  refine c_reg ?_
  refine l_lss rfl rfl rfl ?_
  refine l_end ?_
  refine c_seq ?_
  refine c_dec rfl (fun c1 => ?_) (fun c1 => ?_)
  ·
    refine c_skipC ?_
    refine c_seq ?_
    refine c_block ?_
    refine c_reg ?_
    refine l_idxS (j := k) (sz := 5) (len := m.length) (cs := (m.flatMap EntD.cells)) rfl rfl (by kernel_rfl) (fun w' hw' => Own.rd hv hw') rfl (by omega) rfl ?_
    refine l_ldSN (k * 5 + 0) (cs := (m.flatMap EntD.cells)) (EntD.cells (nth m k)) rfl (by omega) (fun w' hw' => Own.rd hv hw') (flat_atN (sz := 5) (fun _ => rfl) (nth_some (by omega)) (o := 0) (us := (EntD.cells (nth m k))) (fun k u h => by rw [Nat.zero_add]; exact h)) (by kernel_rfl) rfl ?_
    refine l_new (v := .agg #[.int .u64 (0 : Nat), .int .u64 (0 : Nat), .int .i64 0, .int .i64 0, .slice none 0 0]) (by kernel_rfl) rfl (fun b6 => ?_)
    refine l_stN (cs := [.int .u64 (0 : Nat), .int .u64 (0 : Nat), .int .i64 0, .int .i64 0, .slice none 0 0]) (vs := [.int .u64 ((nth m k).index : Nat), .int .u64 ((nth m k).term : Nat), .int .i64 ((nth m k).kind), .int .i64 ((nth m k).delta), (nth m k).dv]) 1 rfl rfl rfl (by kernel_rfl) (allc_cons rfl (allc_cons rfl (allc_cons rfl (allc_cons rfl (allc_cons (Sl.cell1 (Rd.φ ((all_hv _ (nth_mem (by omega))).dv))) allc_nil))))) (Nat.le_of_ble_eq_true rfl) ?_
    refine l_end ?_
    refine c_seq ?_
    refine c_reg ?_
    refine l_ldr (cs := (EntD.cells (nth m k))) 1 rfl rfl (by kernel_rfl) rfl ?_
    refine l_call (by kernel_rfl) rfl rfl (fun w' hw => ?_)
    refine (msgEntry_s (nth m k) w' (hx _ (nth_mem (by omega))) ((all_hv _ (nth_mem (by omega))).at0 hw)).mono ?_
    rintro _ w1 ⟨r1_, rfl, hO⟩
    refine (?_ : CL _ _ _ _ _ _ (Own w [] [Res.row b2 64 [.int .u64 (j : Nat), .int .u64 (u : Nat)], Res.row b6 38 (EntD.cells (nth m k)), Res.vec 5 1 r1_ (if (nth m k).ok then (nth m k).enc else []).length ((if (nth m k).ok then (nth m k).enc else []).map vb)])) w1 (hw.frame0 hO)
    refine l_mv rfl ?_
    refine l_ext (vs := [r1_, .int .i64 (errOf (nth m k).ok)]) rfl rfl rfl ?_
    refine l_ext (vs := [r1_, .int .i64 (errOf (nth m k).ok)]) rfl rfl rfl ?_
    refine l_as rfl ?_
    refine l_as rfl ?_
    refine l_end ?_
    refine c_reg ?_
    refine l_mv rfl ?_
    refine l_ne rfl rfl rfl ?_
    refine l_mv rfl ?_
    refine l_bor (q := (errOf (nth m k).ok) ≠ 0) 6 2 [28, 27, 26, 25, 24, 23] ((((nth m k).index : Nat) : Int) ≠ (((j + 1) % 18446744073709551616 : Nat) : Int)) rfl rfl rfl rfl rfl rfl trivial rfl (fun h5_2 => ?_) (fun g5_9 => ?_)
    ·
      refine l_on rfl (gF h5_2) ?_
      refine l_fld (o := 0) rfl (by kernel_rfl) rfl ?_
      refine l_on rfl (gF h5_2) ?_
      refine l_ldo 1 (v := .int .u64 ((nth m k).index : Nat)) rfl rfl rfl (by kernel_rfl) rfl ?_
      refine l_on rfl (gF h5_2) ?_
      refine l_fld (o := 0) rfl (by kernel_rfl) rfl ?_
      refine l_on rfl (gF h5_2) ?_
      refine l_ldo 0 (v := .int .u64 (j : Nat)) rfl rfl rfl (by kernel_rfl) rfl ?_
      refine l_on rfl (gF h5_2) ?_
      refine l_add (c := (((j + 1) % 18446744073709551616 : Nat) : Int)) rfl rfl (wadd _ _) rfl ?_
      refine l_on rfl (gF h5_2) ?_
      refine l_ne rfl rfl rfl ?_
      exact l_nil (fun w' hw => ⟨(by repeat (first | exact Out.refl _ _ | refine Out.upd rfl ?_ | refine Out.msk rfl ?_)), rfl, hw⟩)
    refine l_mv rfl ?_
    refine l_bor (q := ((errOf (nth m k).ok) ≠ 0) ∨ ((((nth m k).index : Nat) : Int) ≠ (((j + 1) % 18446744073709551616 : Nat) : Int))) 5 10 [35, 34, 33, 32, 31] ((((nth m k).term : Nat) : Int) < ((u : Nat) : Int)) rfl rfl rfl rfl rfl rfl trivial rfl (fun h5_10 => ?_) (fun g5_16 => ?_)
    ·
      refine l_on rfl (gF h5_10) ?_
      refine l_fld (o := 1) rfl (by kernel_rfl) rfl ?_
      refine l_on rfl (gF h5_10) ?_
      refine l_ldo 1 (v := .int .u64 ((nth m k).term : Nat)) rfl rfl rfl (by kernel_rfl) rfl ?_
      refine l_on rfl (gF h5_10) ?_
      refine l_fld (o := 1) rfl (by kernel_rfl) rfl ?_
      refine l_on rfl (gF h5_10) ?_
      refine l_ldo 0 (v := .int .u64 (u : Nat)) rfl rfl rfl (by kernel_rfl) rfl ?_
      refine l_on rfl (gF h5_10) ?_
      refine l_lss rfl rfl rfl ?_
      exact l_nil (fun w' hw => ⟨(by repeat (first | exact Out.refl _ _ | refine Out.upd rfl ?_ | refine Out.msk rfl ?_)), rfl, hw⟩)
    refine l_end ?_
    refine c_dec rfl (fun c2 => ?_) (fun c2 => ?_)
    ·
      refine c_reg ?_
      refine l_as rfl ?_
      refine l_end ?_
      exact c_ret (ret1 (v := .bool false) rfl rfl (fun w' hw => ⟨(by rw [decide_eq_false]; exact fol_no (by omega) hΦ.2.1 hΦ.2.2.1 hΦ.2.2.2 (fun q => by have q1 := q.1.1; have q2 := errOf_zero.2 q.1; have q3 := q1.2.1.1; omega)), hw.drop⟩))
    ·
      have hok := errOf_zero.1 (show errOf (nth m k).ok = 0 by omega)
      have hok1 := hok.1.1.1
      refine c_skipC ?_
      refine c_last ?_
      refine l_fld (o := 0) rfl (by kernel_rfl) rfl ?_
      refine l_ldo 1 (v := .int .u64 ((nth m k).index : Nat)) rfl rfl rfl (by kernel_rfl) rfl ?_
      refine l_fld (o := 1) rfl (by kernel_rfl) rfl ?_
      refine l_ldo 1 (v := .int .u64 ((nth m k).term : Nat)) rfl rfl rfl (by kernel_rfl) rfl ?_
      refine l_bld (cs := [.int .u64 ((nth m k).index : Nat), .int .u64 ((nth m k).term : Nat)]) (z := [.int .u64 (0 : Nat), .int .u64 (0 : Nat)]) (pl := [(0, 1), (1, 1)]) (by kernel_rfl) (by kernel_rfl) rfl ?_
      refine l_stN (cs := [.int .u64 (j : Nat), .int .u64 (u : Nat)]) (vs := [.int .u64 ((nth m k).index : Nat), .int .u64 ((nth m k).term : Nat)]) 0 rfl rfl rfl (by kernel_rfl) (allc_cons rfl (allc_cons rfl allc_nil)) (Nat.le_of_ble_eq_true rfl) ?_
      refine l_end ?_
      refine c_last ?_
      refine l_add rfl rfl (wi64 (by omega)) rfl ?_
      refine l_mv rfl ?_
      exact l_nil (fun w' hw => ⟨k + 1, (nth m k).index, (nth m k).term, ⟨rfl, rfl, rfl, rfl, trivial⟩, ⟨⟨by omega, (hx _ (nth_mem (by omega))).index⟩, (fol_step (by omega) hΦ.2.1 hΦ.2.2.1 hΦ.2.2.2).1.2 ⟨errOf_zero.1 (by omega), by omega, by omega⟩, (fol_step (by omega) hΦ.2.1 hΦ.2.2.1 hΦ.2.2.2).2.1 (by omega), (fol_step (by omega) hΦ.2.1 hΦ.2.2.1 hΦ.2.2.2).2.2⟩, hw.sel [0] rfl (by decide), (by omega)⟩)
  ·
    refine c_exitC rfl ?_
    refine c_reg ?_
    refine l_as rfl ?_
    refine l_end ?_
    exact c_ret (ret1 (v := .bool true) rfl rfl (fun w' hw => ⟨(by rw [decide_eq_true]; have h := hΦ.2.1; rwa [List.take_of_length_le (by omega)] at h), hw.drop⟩))
theorem append_s (lb i t : Nat) (lv : Value) (es : List EntD) (index term : Nat) (v : Value) (m : List EntD) (w : World) (hl : es.length + m.length ≤ 100000000000) (hg : (LG i t es).good) (hx : ∀ e ∈ m, e.wf) (hi : index < 18446744073709551616) (hv : Rd w (fps [Res.row lb 66 [.int .u64 (i : Nat), .int .u64 (t : Nat), lv], Res.vec 38 5 lv es.length (es.flatMap EntD.cells), Res.star (es.map EntD.dres)]) (Res.sl v m.length (m.flatMap EntD.cells))) (all_hv : ∀ p ∈ m, EntD.rd p w (fps [Res.row lb 66 [.int .u64 (i : Nat), .int .u64 (t : Nat), lv], Res.vec 38 5 lv es.length (es.flatMap EntD.cells), Res.star (es.map EntD.dres)])) (hin : Own w (fps [Res.row lb 66 [.int .u64 (i : Nat), .int .u64 (t : Nat), lv], Res.vec 38 5 lv es.length (es.flatMap EntD.cells), Res.star (es.map EntD.dres)]) [Res.row lb 66 [.int .u64 (i : Nat), .int .u64 (t : Nat), lv], Res.vec 38 5 lv es.length (es.flatMap EntD.cells), Res.star (es.map EntD.dres)] w) : Rets Try.prog 16 #[.pointer (some ⟨lb, 0, none⟩), .int .u64 (index : Nat), .int .u64 (term : Nat), v] w fun u_ w' => ∃ (lv' : Value) (es' : List EntD) (x : Nat) (y : Nat) (e : Int), u_ = .tuple #[.int .u64 (x : Nat), .int .u64 (y : Nat), .int .i64 e] ∧ LG i t es' = (LG i t es).append index term (m.map EntD.toEntA) ∧ (LG i t es).ans index term (m.map EntD.toEntA) = (x, y, e) ∧ Own w (fps [Res.row lb 66 [.int .u64 (i : Nat), .int .u64 (t : Nat), lv], Res.vec 38 5 lv es.length (es.flatMap EntD.cells), Res.star (es.map EntD.dres)]) [Res.row lb 66 [.int .u64 (i : Nat), .int .u64 (t : Nat), lv'], Res.vec 38 5 lv' es'.length (es'.flatMap EntD.cells), Res.star (es'.map EntD.dres)] w' := by
  have hb := (LG.le hg).1
  refine fn_enter (args := [.pointer (some ⟨lb, 0, none⟩), .int .u64 (index : Nat), .int .u64 (term : Nat), v]) Try.func16 rfl Try.ntmps16 rfl (show Own w (fps [Res.row lb 66 [.int .u64 (i : Nat), .int .u64 (t : Nat), lv], Res.vec 38 5 lv es.length (es.flatMap EntD.cells), Res.star (es.map EntD.dres)]) [Res.row lb 66 [.int .u64 (i : Nat), .int .u64 (t : Nat), lv], Res.vec 38 5 lv es.length (es.flatMap EntD.cells), Res.star (es.map EntD.dres)] w from hin) ?_
  refine c_reg ?_
  refine l_as rfl ?_
  refine l_as rfl ?_
  refine l_as rfl ?_
  refine l_end ?_
  refine c_seq ?_
  refine c_block ?_
  refine c_reg ?_
  refine l_mv rfl ?_
  refine l_nilp (by kernel_rfl) rfl rfl rfl ?_
  refine l_as rfl ?_
  refine l_end ?_
  refine c_no rfl ?_
  refine c_reg ?_
  refine l_mv rfl ?_
  refine l_mv rfl ?_
  refine l_bld (cs := [.int .u64 (index : Nat), .int .u64 (term : Nat)]) (z := [.int .u64 (0 : Nat), .int .u64 (0 : Nat)]) (pl := [(0, 1), (1, 1)]) (by kernel_rfl) (by kernel_rfl) rfl ?_
  refine l_mv rfl ?_
  refine l_call (by kernel_rfl) rfl rfl (fun w' hw => ?_)
  refine (follow_s index term v m w' (by first | assumption | omega | (simp <;> omega) | (constructor <;> (first | omega | (simp only [LenOk]; omega) | (simp <;> omega)))) (by first | assumption | omega | (simp <;> omega) | (constructor <;> (first | omega | (simp only [LenOk]; omega) | (simp <;> omega)))) (by first | assumption | omega | (simp <;> omega) | (constructor <;> (first | omega | (simp only [LenOk]; omega) | (simp <;> omega)))) (hw.rd0 hv) (fun p hp => EntD.rd.at0 (all_hv p hp) hw)).mono ?_
  rintro _ w1 ⟨rfl, hO⟩
  refine (?_ : CL _ _ _ _ _ _ (Own w (fps [Res.row lb 66 [.int .u64 (i : Nat), .int .u64 (t : Nat), lv], Res.vec 38 5 lv es.length (es.flatMap EntD.cells), Res.star (es.map EntD.dres)]) [Res.row lb 66 [.int .u64 (i : Nat), .int .u64 (t : Nat), lv], Res.vec 38 5 lv es.length (es.flatMap EntD.cells), Res.star (es.map EntD.dres)])) w1 (hw.frame0 hO)
  refine l_notp (q := folA index term (m.map EntD.toEntA)) rfl rfl ?_
  refine l_as rfl ?_
  refine l_end ?_
  refine c_dec rfl (fun c2 => ?_) (fun c2 => ?_)
  ·
    refine c_reg ?_
    refine l_as rfl ?_
    refine l_as rfl ?_
    refine l_as rfl ?_
    refine l_end ?_
    exact c_ret (ret3 (v := .int .u64 (0 : Nat)) (v' := .int .u64 (0 : Nat)) (v'' := .int .i64 2) rfl rfl rfl rfl (fun w' hw => ⟨lv, es, 0, 0, 2, rfl, (app_form c2).1, (app_form c2).2, hw⟩))
  ·
    refine c_reg ?_
    refine l_mv rfl ?_
    refine l_mv rfl ?_
    refine l_mv rfl ?_
    refine l_call (by kernel_rfl) rfl rfl (fun w' hw => ?_)
    refine (fits_s' lb i t lv es index term w' (by first | assumption | omega | (simp <;> omega) | (constructor <;> (first | omega | (simp only [LenOk]; omega) | (simp <;> omega)))) (by first | assumption | omega | (simp <;> omega) | (constructor <;> (first | omega | (simp only [LenOk]; omega) | (simp <;> omega)))) (by first | assumption | omega | (simp <;> omega) | (constructor <;> (first | omega | (simp only [LenOk]; omega) | (simp <;> omega)))) (hw.rdRes0 0 rfl) (hw.rdVec0 1 rfl) (EntD.rd.star0 2 rfl hw)).mono ?_
    rintro _ w1 ⟨rfl, hO⟩
    refine (?_ : CL _ _ _ _ _ _ (Own w (fps [Res.row lb 66 [.int .u64 (i : Nat), .int .u64 (t : Nat), lv], Res.vec 38 5 lv es.length (es.flatMap EntD.cells), Res.star (es.map EntD.dres)]) [Res.row lb 66 [.int .u64 (i : Nat), .int .u64 (t : Nat), lv], Res.vec 38 5 lv es.length (es.flatMap EntD.cells), Res.star (es.map EntD.dres)])) w1 (hw.frame0 hO)
    refine l_notp (q := (LG i t es).fits index term) rfl rfl ?_
    refine l_as rfl ?_
    refine l_end ?_
    refine c_dec rfl (fun c3 => ?_) (fun c3 => ?_)
    ·
      refine c_reg ?_
      refine l_as rfl ?_
      refine l_as rfl ?_
      refine l_as rfl ?_
      refine l_end ?_
      exact c_ret (ret3 (v := .int .u64 (0 : Nat)) (v' := .int .u64 (0 : Nat)) (v'' := .int .i64 12) rfl rfl rfl rfl (fun w' hw => ⟨lv, es, 0, 0, 12, rfl, (app_gap (Decidable.not_not.1 c2) c3).1, (app_gap (Decidable.not_not.1 c2) c3).2, hw⟩))
    ·
      have hi3 := (LogA.fits_end (Decidable.not_not.1 c3)).1
      rw [LG.last_eq] at hi3
      have hi3' : i ≤ index := hi3.1
      refine c_skipC ?_
      refine c_seq ?_
      refine c_reg ?_
      refine l_mv rfl ?_
      refine l_lenS (len := m.length) (cs := (m.flatMap EntD.cells)) (by kernel_rfl) rfl (fun w' hw' => Own.rd hv hw') rfl ?_
      refine l_mv rfl ?_
      refine l_end ?_
      refine c_block ?_
      refine c_loop1 (fun (k : Nat) => [(0, .pointer (some ⟨lb, 0, none⟩)), (1, .int .u64 (index : Nat)), (3, v), (9, .int .u64 (0 : Nat)), (29, v), (30, .int .i64 (m.length : Nat)), (31, .int .i64 (k : Nat))]) (fun (k : Nat) => k ≤ m.length ∧ ∀ e ∈ m.take k, (LG i t es).fits e.index e.term) (fun (k : Nat) => [Res.row lb 66 [.int .u64 (i : Nat), .int .u64 (t : Nat), lv], Res.vec 38 5 lv es.length (es.flatMap EntD.cells), Res.star (es.map EntD.dres)]) (fun (k : Nat) => m.length - k) (fun w' hw => ⟨0, ⟨rfl, rfl, rfl, rfl, rfl, rfl, rfl, trivial⟩, ⟨Nat.zero_le _, by simp⟩, hw⟩) (fun k g hΦ => ?_)
      refine c_reg ?_
      refine l_lss rfl rfl rfl ?_
      refine l_end ?_
      refine c_seq ?_
      refine c_dec rfl (fun c4 => ?_) (fun c4 => ?_)
      ·
        have hxk := (hx _ (nth_mem (l := m) (j := k) (by omega))).index
        refine c_skipC ?_
        refine c_seq ?_
        refine c_block ?_
        refine c_reg ?_
        refine l_mv rfl ?_
        refine l_idxS (j := k) (sz := 5) (len := m.length) (cs := (m.flatMap EntD.cells)) rfl rfl (by kernel_rfl) (fun w' hw' => Own.rd hv hw') rfl (by omega) rfl ?_
        refine l_ldSN (k * 5 + 0) (cs := (m.flatMap EntD.cells)) (EntD.cells (nth m k)) rfl (by omega) (fun w' hw' => Own.rd hv hw') (flat_atN (sz := 5) (fun _ => rfl) (nth_some (by omega)) (o := 0) (us := (EntD.cells (nth m k))) (fun k u h => by rw [Nat.zero_add]; exact h)) (by kernel_rfl) rfl ?_
        refine l_new (v := .agg #[.int .u64 (0 : Nat), .int .u64 (0 : Nat), .int .i64 0, .int .i64 0, .slice none 0 0]) (by kernel_rfl) rfl (fun b12 => ?_)
        refine l_as rfl ?_
        refine l_stN (cs := [.int .u64 (0 : Nat), .int .u64 (0 : Nat), .int .i64 0, .int .i64 0, .slice none 0 0]) (vs := [.int .u64 ((nth m k).index : Nat), .int .u64 ((nth m k).term : Nat), .int .i64 ((nth m k).kind), .int .i64 ((nth m k).delta), (nth m k).dv]) 3 rfl rfl rfl (by kernel_rfl) (allc_cons rfl (allc_cons rfl (allc_cons rfl (allc_cons rfl (allc_cons (Sl.cell1 (Rd.φ ((all_hv _ (nth_mem (by omega))).dv))) allc_nil))))) (Nat.le_of_ble_eq_true rfl) ?_
        refine l_end ?_
        refine c_seq ?_
        refine c_reg ?_
        refine l_mv rfl ?_
        refine l_fld (o := 0) rfl (by kernel_rfl) rfl ?_
        refine l_ldo 3 (v := .int .u64 ((nth m k).index : Nat)) rfl rfl rfl (by kernel_rfl) rfl ?_
        refine l_fld (o := 1) rfl (by kernel_rfl) rfl ?_
        refine l_ldo 3 (v := .int .u64 ((nth m k).term : Nat)) rfl rfl rfl (by kernel_rfl) rfl ?_
        refine l_call (by kernel_rfl) rfl rfl (fun w' hw => ?_)
        refine (fits_s' lb i t lv es ((nth m k).index) ((nth m k).term) w' (by first | assumption | omega | (simp <;> omega) | (constructor <;> (first | omega | (simp only [LenOk]; omega) | (simp <;> omega)))) (by first | assumption | omega | (simp <;> omega) | (constructor <;> (first | omega | (simp only [LenOk]; omega) | (simp <;> omega)))) (by first | assumption | omega | (simp <;> omega) | (constructor <;> (first | omega | (simp only [LenOk]; omega) | (simp <;> omega)))) (hw.rdRes0 0 rfl) (hw.rdVec0 1 rfl) (EntD.rd.star0 2 rfl hw)).mono ?_
        rintro _ w1 ⟨rfl, hO⟩
        refine (?_ : CL _ _ _ _ _ _ (Own w (fps [Res.row lb 66 [.int .u64 (i : Nat), .int .u64 (t : Nat), lv], Res.vec 38 5 lv es.length (es.flatMap EntD.cells), Res.star (es.map EntD.dres)]) [Res.row lb 66 [.int .u64 (i : Nat), .int .u64 (t : Nat), lv], Res.vec 38 5 lv es.length (es.flatMap EntD.cells), Res.star (es.map EntD.dres), Res.row b12 38 (EntD.cells (nth m k))])) w1 (hw.frame0 hO)
        refine l_end ?_
        refine c_dec rfl (fun c5 => ?_) (fun c5 => ?_)
        ·
          refine c_exitC rfl ?_
          refine c_last ?_
          refine l_add rfl rfl (wi64 (by omega)) rfl ?_
          refine l_mv rfl ?_
          exact l_nil (fun w' hw => ⟨k + 1, ⟨rfl, rfl, rfl, rfl, rfl, rfl, rfl, trivial⟩, ⟨by omega, by rw [take_nth (by omega)]; intro v hv; rcases List.mem_append.1 hv with h | h; exact hΦ.2 v h; simp at h; rw [h]; exact c5⟩, hw.sel [0, 1, 2] rfl (by decide), (by omega)⟩)
        ·
          have hm := Decidable.not_not.1 c2
          have hf := Decidable.not_not.1 c3
          have hp := put_at hm hf (by omega) hΦ.2 c5
          refine c_skipC ?_
          refine c_seq ?_
          refine c_heldo [1, 3] rfl (by decide) (by kernel_rfl) (fun w' hw hS => ?_)
          refine h_take 0 rfl (by kernel_rfl) (by kernel_rfl) (by kernel_rfl) (v_mv) rfl hS ?_
          refine h_take 1 rfl (by kernel_rfl) (by kernel_rfl) (by kernel_rfl) (v_mv) rfl hS ?_
          refine h_take 2 rfl (by kernel_rfl) (by kernel_rfl) (by kernel_rfl) (v_nck rfl) rfl hS ?_
          refine h_take 3 rfl (by kernel_rfl) (by kernel_rfl) (by kernel_rfl) (v_fld (o := 2) rfl (by kernel_rfl)) rfl hS ?_
          refine h_take 5 rfl (by kernel_rfl) (by kernel_rfl) (by kernel_rfl) (v_fld (o := 0) rfl (by kernel_rfl)) rfl hS ?_
          refine h_take 6 rfl (by kernel_rfl) (by kernel_rfl) (by kernel_rfl) (v_ldo 1 (v := .int .u64 ((nth m k).index : Nat)) rfl rfl rfl (by kernel_rfl)) rfl hS ?_
          refine h_take 7 rfl (by kernel_rfl) (by kernel_rfl) (by kernel_rfl) (v_mv) rfl hS ?_
          refine h_take 8 rfl (by kernel_rfl) (by kernel_rfl) (by kernel_rfl) (v_nck rfl) rfl hS ?_
          refine h_take 9 rfl (by kernel_rfl) (by kernel_rfl) (by kernel_rfl) (v_fld (o := 0) rfl (by kernel_rfl)) rfl hS ?_
          refine h_take 10 rfl (by kernel_rfl) (by kernel_rfl) (by kernel_rfl) (v_fld (o := 0) rfl (by kernel_rfl)) rfl hS ?_
          refine h_take 16 rfl (by kernel_rfl) (by kernel_rfl) (by kernel_rfl) (v_mv) rfl hS ?_
          refine h_take 17 rfl (by kernel_rfl) (by kernel_rfl) (by kernel_rfl) (v_mv) rfl hS ?_
          have hs1_ := Rd.dropL_f (g := EntD.cells) (xs := m) (sz := 5) (fun _ => rfl) hv (l := k) (by omega)
          refine h_take 18 rfl (by kernel_rfl) (by kernel_rfl) (by kernel_rfl) (v_slcS (sz := 5) (l := k) (h := m.length) (len := m.length) (cs := (m.flatMap EntD.cells)) (by kernel_rfl) rfl (fun w' hw' => Own.rd hv hw') ⟨_, rfl⟩ rfl (by omega) (by omega)) rfl hS ?_
          refine h_pick2 (i := 4) (j := 11) (by kernel_rfl) ?_ ?_
          ·
            refine pk_of 4 rfl hw ?_
            refine l_ldo 0 (v := lv) rfl rfl rfl (by kernel_rfl) rfl ?_
            refine l_nil (fun w' hw => ?_)
            have hS := hw.sel [1, 3] rfl (by decide)
            refine ⟨hS, ?_⟩
            refine h_one 11 (by kernel_rfl) rfl hw ?_
            refine l_ldo 0 (v := .int .u64 (i : Nat)) rfl rfl rfl (by kernel_rfl) rfl ?_
            refine l_nil (fun w' hw => ?_)
            have hS := hw.sel [1, 3] rfl (by decide)
            refine ⟨hS, ?_⟩
            refine h_take 12 rfl (by kernel_rfl) (by kernel_rfl) (by kernel_rfl) (v_sub (c := (((nth m k).index - i : Nat) : Int)) rfl rfl (ws (by omega) (by omega))) rfl hS ?_
            refine h_take 13 rfl (by kernel_rfl) (by kernel_rfl) (by kernel_rfl) (v_sub (c := (((nth m k).index - i - 1 : Nat) : Int)) rfl rfl (ws (a := (nth m k).index - i) (b := 1) (by omega) (by omega))) rfl hS ?_
            refine h_take 14 rfl (by kernel_rfl) (by kernel_rfl) (by kernel_rfl) (v_slcS (sz := 5) (l := 0) (h := (nth m k).index - i - 1) (len := es.length) (cs := (es.flatMap EntD.cells)) (by kernel_rfl) rfl (fun w' hw' => Vec.sl (Own.holds hw' 0 _ rfl)) rfl ⟨_, rfl⟩ (by omega) (by omega)) rfl hS ?_
            refine h_one 15 (by kernel_rfl) rfl hw ?_
            refine l_call (by kernel_rfl) rfl rfl (fun w' hw => ?_)
            refine (cloneE_s (cutV lv 0 ((nth m k).index - i - 1) 5) ((es.take ((nth m k).index - i - 1)).drop 0) w' (by first | assumption | omega | (simp <;> omega) | (constructor <;> (first | omega | (simp only [LenOk]; omega) | (simp <;> omega)))) (Rd.subL_f (g := EntD.cells) (xs := es) (sz := 5) (fun _ => rfl) (hw.rdVec0 1 rfl) (l := 0) (h := (nth m k).index - i - 1) (by omega) (by omega)) (all_drop (all_take (EntD.rd.star0 2 rfl hw)))).mono ?_
            rintro r3_ w1 ⟨_, rfl, hO⟩
            refine (?_ : CL _ _ _ _ _ _ (Own w (fps [Res.row lb 66 [.int .u64 (i : Nat), .int .u64 (t : Nat), lv], Res.vec 38 5 lv es.length (es.flatMap EntD.cells), Res.star (es.map EntD.dres)]) [Res.row lb 66 [.int .u64 (i : Nat), .int .u64 (t : Nat), lv], Res.vec 38 5 lv es.length (es.flatMap EntD.cells), Res.star (es.map EntD.dres), Res.row b12 38 (EntD.cells (nth m k)), Res.vec 38 5 r3_ ((es.take ((nth m k).index - i - 1)).drop 0).length (((es.take ((nth m k).index - i - 1)).drop 0).flatMap EntD.cells)])) w1 (hw.frame0 hO)
            refine l_nil (fun w' hw => ?_)
            have hS := hw.sel [1, 3] rfl (by decide)
            refine ⟨hS, ?_⟩
            refine h_one 19 (by kernel_rfl) rfl hw ?_
            refine l_call (by kernel_rfl) rfl rfl (fun w' hw => ?_)
            refine (clones_s (cutV v k m.length 5) (m.drop k) w' (by first | assumption | omega | (simp <;> omega) | (constructor <;> (first | omega | (simp only [LenOk]; omega) | (simp <;> omega)))) (fun x hx' => (hx x (List.mem_of_mem_drop hx')).data) (hw.rd0 hs1_) (all_drop (fun p hp => EntD.rd.at0 (all_hv p hp) hw))).mono ?_
            rintro r4_ w1 ⟨_, es5_, rfl, hf11_19, hO⟩
            have hl5 := congrArg List.length hf11_19; simp only [List.length_map, List.length_drop] at hl5
            refine (?_ : CL _ _ _ _ _ _ (Own w (fps [Res.row lb 66 [.int .u64 (i : Nat), .int .u64 (t : Nat), lv], Res.vec 38 5 lv es.length (es.flatMap EntD.cells), Res.star (es.map EntD.dres)]) [Res.row lb 66 [.int .u64 (i : Nat), .int .u64 (t : Nat), lv], Res.vec 38 5 lv es.length (es.flatMap EntD.cells), Res.star (es.map EntD.dres), Res.row b12 38 (EntD.cells (nth m k)), Res.vec 38 5 r3_ ((es.take ((nth m k).index - i - 1)).drop 0).length (((es.take ((nth m k).index - i - 1)).drop 0).flatMap EntD.cells), Res.vec 38 5 r4_ es5_.length (es5_.flatMap EntD.cells), Res.star (es5_.map EntD.dres)])) w1 (hw.frame0 hO)
            refine l_nil (fun w' hw => ?_)
            have hS := hw.sel [1, 3] rfl (by decide)
            refine ⟨hS, ?_⟩
            refine h_one 20 (by kernel_rfl) rfl hw ?_
            refine l_haveO (fun w' hw => EntD.c1all (EntD.rd.star0 6 rfl hw)) (fun hc3_ => ?_)
            refine l_appF (g := EntD.cells) (sz := 5) (by' := 56) (fun _ => rfl) (l := ((es.take ((nth m k).index - i - 1)).drop 0)) (l' := es5_) hc3_ 4 (by kernel_rfl) rfl rfl rfl (fun w' hw' => Vec.sl (Own.holds hw' 5 _ rfl)) (by first | omega | (simp; omega)) (by decide) rfl (fun v62 => ?_)
            refine l_nil (fun w' hw => ?_)
            have hS := hw.sel [1, 3] rfl (by decide)
            refine ⟨hS, ?_⟩
            refine h_take 21 rfl (by kernel_rfl) (by kernel_rfl) (by kernel_rfl) (v_nck rfl) rfl hS ?_
            refine h_take 22 rfl (by kernel_rfl) (by kernel_rfl) (by kernel_rfl) (v_fld (o := 2) rfl (by kernel_rfl)) rfl hS ?_
            refine h_one 23 (by kernel_rfl) rfl hw ?_
            refine l_haveO (fun w' hw => Own.cell1Vec (i := 4) rfl hw) (fun hc4_ => ?_)
            refine l_st (cs := [.int .u64 (i : Nat), .int .u64 (t : Nat), lv]) 0 rfl rfl rfl (by kernel_rfl) hc4_ (Nat.le_of_ble_eq_true rfl) ?_
            refine l_nil (fun w' hw => ?_)
            have hS := hw.sel [1, 3] rfl (by decide)
            refine ⟨hS, ?_⟩
            refine h_done (by kernel_rfl) ?_
            refine (?_ : C _ _ _ _ _ _ _ (Own w (fps [Res.row lb 66 [.int .u64 (i : Nat), .int .u64 (t : Nat), lv], Res.vec 38 5 lv es.length (es.flatMap EntD.cells), Res.star (es.map EntD.dres)]) [Res.row lb 66 [.int .u64 (i : Nat), .int .u64 (t : Nat), v62], Res.vec 38 5 lv es.length (es.flatMap EntD.cells), Res.star (es.map EntD.dres), Res.row b12 38 (EntD.cells (nth m k)), Res.vec 38 5 v62 (((es.take ((nth m k).index - i - 1)).drop 0) ++ es5_).length ((((es.take ((nth m k).index - i - 1)).drop 0) ++ es5_).flatMap EntD.cells), Res.vec 38 5 r4_ es5_.length (es5_.flatMap EntD.cells), Res.star (es5_.map EntD.dres)])) _ hw
            refine c_reg ?_
            refine l_fld (o := 0) rfl (by kernel_rfl) rfl ?_
            refine l_ldo 3 (v := .int .u64 ((nth m k).index : Nat)) rfl rfl rfl (by kernel_rfl) rfl ?_
            refine l_as rfl ?_
            refine l_end ?_
            refine c_exitC rfl ?_
            refine c_reg ?_
            refine l_mv rfl ?_
            refine l_mv rfl ?_
            refine l_lenS (len := m.length) (cs := (m.flatMap EntD.cells)) (by kernel_rfl) rfl (fun w' hw' => Own.rd hv hw') rfl ?_
            refine l_cvt (by kernel_rfl) rfl (wu64 (by omega)) rfl ?_ (by kernel_rfl)
            refine l_add rfl rfl (wu64 (by omega)) rfl ?_
            refine l_mv rfl ?_
            refine l_as rfl ?_
            refine l_as rfl ?_
            refine l_as rfl ?_
            refine l_end ?_
            exact c_ret (ret3 (v := .int .u64 (index + m.length : Nat)) (v' := .int .u64 ((nth m k).index : Nat)) (v'' := .int .i64 0) rfl rfl rfl rfl (fun w' hw => ⟨v62, ((es.take ((nth m k).index - i - 1)).drop 0) ++ es5_, index + m.length, (nth m k).index, 0, rfl, (put_res hm hf (by omega) hΦ.2 c5 (by rw [List.map_append, List.drop_zero, hf11_19, List.map_take, List.map_drop])).1, put_ans hm hf (by omega) hΦ.2 c5, ((((hw.starTake 2 ((nth m k).index - i - 1) rfl).starDrop 2 0 rfl).starApp 2 6 (by decide) rfl rfl).sel [0, 4, 2] rfl (by decide))⟩))
          ·
            refine pk_of 11 rfl hw ?_
            refine l_ldo 0 (v := .int .u64 (i : Nat)) rfl rfl rfl (by kernel_rfl) rfl ?_
            refine l_nil (fun w' hw => ?_)
            have hS := hw.sel [1, 3] rfl (by decide)
            refine ⟨hS, ?_⟩
            refine h_take 12 rfl (by kernel_rfl) (by kernel_rfl) (by kernel_rfl) (v_sub (c := (((nth m k).index - i : Nat) : Int)) rfl rfl (ws (by omega) (by omega))) rfl hS ?_
            refine h_take 13 rfl (by kernel_rfl) (by kernel_rfl) (by kernel_rfl) (v_sub (c := (((nth m k).index - i - 1 : Nat) : Int)) rfl rfl (ws (a := (nth m k).index - i) (b := 1) (by omega) (by omega))) rfl hS ?_
            refine h_one 4 (by kernel_rfl) rfl hw ?_
            refine l_ldo 0 (v := lv) rfl rfl rfl (by kernel_rfl) rfl ?_
            refine l_nil (fun w' hw => ?_)
            have hS := hw.sel [1, 3] rfl (by decide)
            refine ⟨hS, ?_⟩
            refine h_take 14 rfl (by kernel_rfl) (by kernel_rfl) (by kernel_rfl) (v_slcS (sz := 5) (l := 0) (h := (nth m k).index - i - 1) (len := es.length) (cs := (es.flatMap EntD.cells)) (by kernel_rfl) rfl (fun w' hw' => Vec.sl (Own.holds hw' 0 _ rfl)) rfl ⟨_, rfl⟩ (by omega) (by omega)) rfl hS ?_
            refine h_one 15 (by kernel_rfl) rfl hw ?_
            refine l_call (by kernel_rfl) rfl rfl (fun w' hw => ?_)
            refine (cloneE_s (cutV lv 0 ((nth m k).index - i - 1) 5) ((es.take ((nth m k).index - i - 1)).drop 0) w' (by first | assumption | omega | (simp <;> omega) | (constructor <;> (first | omega | (simp only [LenOk]; omega) | (simp <;> omega)))) (Rd.subL_f (g := EntD.cells) (xs := es) (sz := 5) (fun _ => rfl) (hw.rdVec0 1 rfl) (l := 0) (h := (nth m k).index - i - 1) (by omega) (by omega)) (all_drop (all_take (EntD.rd.star0 2 rfl hw)))).mono ?_
            rintro r7_ w1 ⟨_, rfl, hO⟩
            refine (?_ : CL _ _ _ _ _ _ (Own w (fps [Res.row lb 66 [.int .u64 (i : Nat), .int .u64 (t : Nat), lv], Res.vec 38 5 lv es.length (es.flatMap EntD.cells), Res.star (es.map EntD.dres)]) [Res.row lb 66 [.int .u64 (i : Nat), .int .u64 (t : Nat), lv], Res.vec 38 5 lv es.length (es.flatMap EntD.cells), Res.star (es.map EntD.dres), Res.row b12 38 (EntD.cells (nth m k)), Res.vec 38 5 r7_ ((es.take ((nth m k).index - i - 1)).drop 0).length (((es.take ((nth m k).index - i - 1)).drop 0).flatMap EntD.cells)])) w1 (hw.frame0 hO)
            refine l_nil (fun w' hw => ?_)
            have hS := hw.sel [1, 3] rfl (by decide)
            refine ⟨hS, ?_⟩
            refine h_one 19 (by kernel_rfl) rfl hw ?_
            refine l_call (by kernel_rfl) rfl rfl (fun w' hw => ?_)
            refine (clones_s (cutV v k m.length 5) (m.drop k) w' (by first | assumption | omega | (simp <;> omega) | (constructor <;> (first | omega | (simp only [LenOk]; omega) | (simp <;> omega)))) (fun x hx' => (hx x (List.mem_of_mem_drop hx')).data) (hw.rd0 hs1_) (all_drop (fun p hp => EntD.rd.at0 (all_hv p hp) hw))).mono ?_
            rintro r8_ w1 ⟨_, es9_, rfl, hf11_19, hO⟩
            have hl5 := congrArg List.length hf11_19; simp only [List.length_map, List.length_drop] at hl5
            refine (?_ : CL _ _ _ _ _ _ (Own w (fps [Res.row lb 66 [.int .u64 (i : Nat), .int .u64 (t : Nat), lv], Res.vec 38 5 lv es.length (es.flatMap EntD.cells), Res.star (es.map EntD.dres)]) [Res.row lb 66 [.int .u64 (i : Nat), .int .u64 (t : Nat), lv], Res.vec 38 5 lv es.length (es.flatMap EntD.cells), Res.star (es.map EntD.dres), Res.row b12 38 (EntD.cells (nth m k)), Res.vec 38 5 r7_ ((es.take ((nth m k).index - i - 1)).drop 0).length (((es.take ((nth m k).index - i - 1)).drop 0).flatMap EntD.cells), Res.vec 38 5 r8_ es9_.length (es9_.flatMap EntD.cells), Res.star (es9_.map EntD.dres)])) w1 (hw.frame0 hO)
            refine l_nil (fun w' hw => ?_)
            have hS := hw.sel [1, 3] rfl (by decide)
            refine ⟨hS, ?_⟩
            refine h_one 20 (by kernel_rfl) rfl hw ?_
            refine l_haveO (fun w' hw => EntD.c1all (EntD.rd.star0 6 rfl hw)) (fun hc5_ => ?_)
            refine l_appF (g := EntD.cells) (sz := 5) (by' := 56) (fun _ => rfl) (l := ((es.take ((nth m k).index - i - 1)).drop 0)) (l' := es9_) hc5_ 4 (by kernel_rfl) rfl rfl rfl (fun w' hw' => Vec.sl (Own.holds hw' 5 _ rfl)) (by first | omega | (simp; omega)) (by decide) rfl (fun v62 => ?_)
            refine l_nil (fun w' hw => ?_)
            have hS := hw.sel [1, 3] rfl (by decide)
            refine ⟨hS, ?_⟩
            refine h_take 21 rfl (by kernel_rfl) (by kernel_rfl) (by kernel_rfl) (v_nck rfl) rfl hS ?_
            refine h_take 22 rfl (by kernel_rfl) (by kernel_rfl) (by kernel_rfl) (v_fld (o := 2) rfl (by kernel_rfl)) rfl hS ?_
            refine h_one 23 (by kernel_rfl) rfl hw ?_
            refine l_haveO (fun w' hw => Own.cell1Vec (i := 4) rfl hw) (fun hc6_ => ?_)
            refine l_st (cs := [.int .u64 (i : Nat), .int .u64 (t : Nat), lv]) 0 rfl rfl rfl (by kernel_rfl) hc6_ (Nat.le_of_ble_eq_true rfl) ?_
            refine l_nil (fun w' hw => ?_)
            have hS := hw.sel [1, 3] rfl (by decide)
            refine ⟨hS, ?_⟩
            refine h_done (by kernel_rfl) ?_
            refine (?_ : C _ _ _ _ _ _ _ (Own w (fps [Res.row lb 66 [.int .u64 (i : Nat), .int .u64 (t : Nat), lv], Res.vec 38 5 lv es.length (es.flatMap EntD.cells), Res.star (es.map EntD.dres)]) [Res.row lb 66 [.int .u64 (i : Nat), .int .u64 (t : Nat), v62], Res.vec 38 5 lv es.length (es.flatMap EntD.cells), Res.star (es.map EntD.dres), Res.row b12 38 (EntD.cells (nth m k)), Res.vec 38 5 v62 (((es.take ((nth m k).index - i - 1)).drop 0) ++ es9_).length ((((es.take ((nth m k).index - i - 1)).drop 0) ++ es9_).flatMap EntD.cells), Res.vec 38 5 r8_ es9_.length (es9_.flatMap EntD.cells), Res.star (es9_.map EntD.dres)])) _ hw
            refine c_reg ?_
            refine l_fld (o := 0) rfl (by kernel_rfl) rfl ?_
            refine l_ldo 3 (v := .int .u64 ((nth m k).index : Nat)) rfl rfl rfl (by kernel_rfl) rfl ?_
            refine l_as rfl ?_
            refine l_end ?_
            refine c_exitC rfl ?_
            refine c_reg ?_
            refine l_mv rfl ?_
            refine l_mv rfl ?_
            refine l_lenS (len := m.length) (cs := (m.flatMap EntD.cells)) (by kernel_rfl) rfl (fun w' hw' => Own.rd hv hw') rfl ?_
            refine l_cvt (by kernel_rfl) rfl (wu64 (by omega)) rfl ?_ (by kernel_rfl)
            refine l_add rfl rfl (wu64 (by omega)) rfl ?_
            refine l_mv rfl ?_
            refine l_as rfl ?_
            refine l_as rfl ?_
            refine l_as rfl ?_
            refine l_end ?_
            exact c_ret (ret3 (v := .int .u64 (index + m.length : Nat)) (v' := .int .u64 ((nth m k).index : Nat)) (v'' := .int .i64 0) rfl rfl rfl rfl (fun w' hw => ⟨v62, ((es.take ((nth m k).index - i - 1)).drop 0) ++ es9_, index + m.length, (nth m k).index, 0, rfl, (put_res hm hf (by omega) hΦ.2 c5 (by rw [List.map_append, List.drop_zero, hf11_19, List.map_take, List.map_drop])).1, put_ans hm hf (by omega) hΦ.2 c5, ((((hw.starTake 2 ((nth m k).index - i - 1) rfl).starDrop 2 0 rfl).starApp 2 6 (by decide) rfl rfl).sel [0, 4, 2] rfl (by decide))⟩))
      ·
        refine c_exitC rfl ?_
        refine c_reg ?_
        refine l_mv rfl ?_
        refine l_mv rfl ?_
        refine l_lenS (len := m.length) (cs := (m.flatMap EntD.cells)) (by kernel_rfl) rfl (fun w' hw' => Own.rd hv hw') rfl ?_
        refine l_cvt (by kernel_rfl) rfl (wu64 (by omega)) rfl ?_ (by kernel_rfl)
        refine l_add rfl rfl (wu64 (by omega)) rfl ?_
        refine l_mv rfl ?_
        refine l_as rfl ?_
        refine l_as rfl ?_
        refine l_as rfl ?_
        refine l_end ?_
        exact c_ret (ret3 (v := .int .u64 (index + m.length : Nat)) (v' := .int .u64 (0 : Nat)) (v'' := .int .i64 0) rfl rfl rfl rfl (fun w' hw => ⟨lv, es, index + m.length, 0, 0, rfl, (put_none (Decidable.not_not.1 c2) (Decidable.not_not.1 c3) (by have h := hΦ.2; rwa [List.take_of_length_le (by omega)] at h)).1, (put_none (Decidable.not_not.1 c2) (Decidable.not_not.1 c3) (by have h := hΦ.2; rwa [List.take_of_length_le (by omega)] at h)).2, hw⟩))
theorem appendNil_s (index term : Nat) (v : Value) (m : List EntD) (w : World) (hv : Rd w [] (Res.sl v m.length (m.flatMap EntD.cells))) (all_hv : ∀ p ∈ m, EntD.rd p w []) : Rets Try.prog 16 #[.pointer none, .int .u64 (index : Nat), .int .u64 (term : Nat), v] w fun u_ w' => u_ = .tuple #[.int .u64 (0 : Nat), .int .u64 (0 : Nat), .int .i64 1] ∧ Own w [] [] w' := by
  refine fn_enter (args := [.pointer none, .int .u64 (index : Nat), .int .u64 (term : Nat), v]) Try.func16 rfl Try.ntmps16 rfl (Own.start w) ?_
  refine c_reg ?_
  refine l_as rfl ?_
  refine l_as rfl ?_
  refine l_as rfl ?_
  refine l_end ?_
  refine c_seq ?_
  refine c_block ?_
  refine c_reg ?_
  refine l_mv rfl ?_
  refine l_nilp (by kernel_rfl) rfl rfl rfl ?_
  refine l_as rfl ?_
  refine l_end ?_
  refine c_yes rfl ?_
  refine c_reg ?_
  refine l_as rfl ?_
  refine l_as rfl ?_
  refine l_as rfl ?_
  refine l_end ?_
  exact c_ret (ret3 (v := .int .u64 (0 : Nat)) (v' := .int .u64 (0 : Nat)) (v'' := .int .i64 1) rfl rfl rfl rfl (fun w' hw => ⟨rfl, hw.drop⟩))
theorem hint_s (lb i t : Nat) (lv : Value) (es : List EntD) (k u : Nat) (w : World) (hl : LenOk es.length) (hlb : Rd w [] (Res.row lb 66 [.int .u64 (i : Nat), .int .u64 (t : Nat), lv])) (hlv : Rd w [] (Res.sl lv es.length (es.flatMap EntD.cells))) (all_hlv : ∀ p ∈ es, EntD.rd p w []) : Rets Try.prog 19 #[.pointer (some ⟨lb, 0, none⟩), .int .u64 (k : Nat), .int .u64 (u : Nat)] w fun u_ w' => ∃ (x : Nat) (y : Nat), u_ = .tuple #[.int .u64 (x : Nat), .int .u64 (y : Nat)] ∧ (LG i t es).hint k u = (x, y) ∧ Own w [] [] w' := by
  refine fn_enter (args := [.pointer (some ⟨lb, 0, none⟩), .int .u64 (k : Nat), .int .u64 (u : Nat)]) Try.func19 rfl Try.ntmps19 rfl (Own.start w) ?_
  refine c_reg ?_
  refine l_as rfl ?_
  refine l_as rfl ?_
  refine l_end ?_
  refine c_seq ?_
  refine c_reg ?_
  refine l_mv rfl ?_
  refine l_nilp (by kernel_rfl) rfl rfl rfl ?_
  refine l_end ?_
  refine c_no rfl ?_
  refine c_skipC ?_
  refine c_seq ?_
  refine c_reg ?_
  refine l_mv rfl ?_
  refine l_nck rfl rfl ?_
  refine l_fld (o := 2) rfl (by kernel_rfl) rfl ?_
  refine l_ldq (v := lv) rfl (hlb.φ.cell rfl) (hlb.far _ (by simp [Res.row])) (by kernel_rfl) rfl ?_
  refine l_lenS (len := es.length) (cs := (es.flatMap EntD.cells)) (by kernel_rfl) rfl (fun w' hw' => Own.rd hlv hw') rfl ?_
  refine l_sub rfl rfl (wi64 (by omega)) rfl ?_
  refine l_as rfl ?_
  refine l_end ?_
  refine c_block ?_
  refine c_loop1 (fun (k' : Nat) => [(0, .pointer (some ⟨lb, 0, none⟩)), (1, .int .u64 (k : Nat)), (2, .int .u64 (u : Nat)), (8, .int .i64 ((k' : Int) - 1))]) (fun (k' : Nat) => k' ≤ es.length ∧ (LG i t es).hint k u = (LG i t es).hintN k u k') (fun (k' : Nat) => []) (fun (k' : Nat) => k') (fun w' hw => ⟨es.length, ⟨rfl, rfl, rfl, rfl, trivial⟩, ⟨Nat.le_refl _, by unfold LogA.hint; rw [List.length_map]⟩, hw⟩) (fun k' g hΦ => ?_)
  refine c_seq ?_
  refine c_reg ?_
  refine l_mv rfl ?_
  refine l_geq rfl rfl rfl ?_
  refine l_end ?_
  refine c_dec rfl (fun c2 => ?_) (fun c2 => ?_)
  ·
    refine c_skipC ?_
    refine c_seq ?_
    refine c_block ?_
    refine c_reg ?_
    refine l_mv rfl ?_
    refine l_nck rfl rfl ?_
    refine l_fld (o := 2) rfl (by kernel_rfl) rfl ?_
    refine l_ldq (v := lv) rfl (hlb.φ.cell rfl) (hlb.far _ (by simp [Res.row])) (by kernel_rfl) rfl ?_
    refine l_mv rfl ?_
    refine l_idxS (j := k' - 1) (sz := 5) (len := es.length) (cs := (es.flatMap EntD.cells)) rfl rfl (by kernel_rfl) (fun w' hw' => Own.rd hlv hw') (by omega) (by omega) rfl ?_
    refine l_ldSN ((k' - 1) * 5 + 0) (cs := (es.flatMap EntD.cells)) (EntD.cells (nth es (k' - 1))) rfl (by omega) (fun w' hw' => Own.rd hlv hw') (flat_atN (sz := 5) (fun _ => rfl) (nth_some (by omega)) (o := 0) (us := (EntD.cells (nth es (k' - 1)))) (fun k u h => by rw [Nat.zero_add]; exact h)) (by kernel_rfl) rfl ?_
    refine l_new (v := .agg #[.int .u64 (0 : Nat), .int .u64 (0 : Nat), .int .i64 0, .int .i64 0, .slice none 0 0]) (by kernel_rfl) rfl (fun b9 => ?_)
    refine l_stN (cs := [.int .u64 (0 : Nat), .int .u64 (0 : Nat), .int .i64 0, .int .i64 0, .slice none 0 0]) (vs := [.int .u64 ((nth es (k' - 1)).index : Nat), .int .u64 ((nth es (k' - 1)).term : Nat), .int .i64 ((nth es (k' - 1)).kind), .int .i64 ((nth es (k' - 1)).delta), (nth es (k' - 1)).dv]) 0 rfl rfl rfl (by kernel_rfl) (allc_cons rfl (allc_cons rfl (allc_cons rfl (allc_cons rfl (allc_cons (Sl.cell1 (Rd.φ ((all_hlv _ (nth_mem (by omega))).dv))) allc_nil))))) (Nat.le_of_ble_eq_true rfl) ?_
    refine l_end ?_
    refine c_reg ?_
    refine l_fld (o := 0) rfl (by kernel_rfl) rfl ?_
    refine l_ldo 0 (v := .int .u64 ((nth es (k' - 1)).index : Nat)) rfl rfl rfl (by kernel_rfl) rfl ?_
    refine l_mv rfl ?_
    refine l_leq rfl rfl rfl ?_
    refine l_mv rfl ?_
    refine l_band (q := (((nth es (k' - 1)).index : Nat) : Int) ≤ ((k : Nat) : Int)) 4 4 [37, 36, 35, 34] ((((nth es (k' - 1)).term : Nat) : Int) ≤ ((u : Nat) : Int)) rfl rfl rfl rfl rfl rfl trivial rfl (fun h7_4 => ?_) (fun g7_9 => ?_)
    ·
      refine l_on rfl (gT h7_4) ?_
      refine l_fld (o := 1) rfl (by kernel_rfl) rfl ?_
      refine l_on rfl (gT h7_4) ?_
      refine l_ldo 0 (v := .int .u64 ((nth es (k' - 1)).term : Nat)) rfl rfl rfl (by kernel_rfl) rfl ?_
      refine l_on rfl (gT h7_4) ?_
      refine l_mv rfl ?_
      refine l_on rfl (gT h7_4) ?_
      refine l_leq rfl rfl rfl ?_
      exact l_nil (fun w' hw => ⟨(by repeat (first | exact Out.refl _ _ | refine Out.upd rfl ?_ | refine Out.msk rfl ?_)), rfl, hw⟩)
    refine l_end ?_
    refine c_dec rfl (fun c3 => ?_) (fun c3 => ?_)
    ·
      refine c_quiets (by kernel_rfl) (by kernel_rfl) ?_
      refine q_val rfl (v_fld (o := 0) rfl (by kernel_rfl)) ?_
      refine q_val rfl (v_ldo 0 (v := .int .u64 ((nth es (k' - 1)).index : Nat)) rfl rfl rfl (by kernel_rfl)) ?_
      refine q_val rfl (v_fld (o := 1) rfl (by kernel_rfl)) ?_
      refine q_val rfl (v_ldo 0 (v := .int .u64 ((nth es (k' - 1)).term : Nat)) rfl rfl rfl (by kernel_rfl)) ?_
      refine q_val rfl (v_as) ?_
      refine q_val rfl (v_as) ?_
      refine q_end ?_
      exact c_ret (ret2 (v := .int .u64 ((nth es (k' - 1)).index : Nat)) (v' := .int .u64 ((nth es (k' - 1)).term : Nat)) rfl rfl rfl (fun w' hw => ⟨(nth es (k' - 1)).index, (nth es (k' - 1)).term, rfl, by rw [hΦ.2, hint_hit (by omega) hΦ.1 (by omega)], hw.drop⟩))
    ·
      refine c_skipC ?_
      refine c_last ?_
      refine l_mv rfl ?_
      refine l_sub rfl rfl (wi64 (by omega)) rfl ?_
      refine l_as rfl ?_
      exact l_nil (fun w' hw => ⟨k' - 1, ⟨rfl, rfl, rfl, (congrArg (Value.int .i64) (show (((k' : Int) - 1) - 1) = (((k' - 1 : Nat) : Int) - 1) by omega)), trivial⟩, ⟨by omega, by rw [hΦ.2, hint_miss (by omega) hΦ.1 (by omega)]⟩, hw.sel [] rfl (by decide), (by omega)⟩)
  ·
    refine c_exitC rfl ?_
    refine c_quiets (by kernel_rfl) (by kernel_rfl) ?_
    refine q_val rfl (v_mv) ?_
    refine q_val rfl (v_nck rfl) ?_
    refine q_val rfl (v_fld (o := 0) rfl (by kernel_rfl)) ?_
    refine q_val rfl (v_fld (o := 0) rfl (by kernel_rfl)) ?_
    refine q_val rfl (v_ldq (v := .int .u64 (i : Nat)) rfl (hlb.φ.cell rfl) (hlb.far _ (by simp [Res.row])) (by kernel_rfl)) ?_
    refine q_val rfl (v_mv) ?_
    refine q_val rfl (v_nck rfl) ?_
    refine q_val rfl (v_fld (o := 0) rfl (by kernel_rfl)) ?_
    refine q_val rfl (v_fld (o := 1) rfl (by kernel_rfl)) ?_
    refine q_val rfl (v_ldq (v := .int .u64 (t : Nat)) rfl (hlb.φ.cell rfl) (hlb.far _ (by simp [Res.row])) (by kernel_rfl)) ?_
    refine q_val rfl (v_as) ?_
    refine q_val rfl (v_as) ?_
    refine q_end ?_
    exact c_ret (ret2 (v := .int .u64 (i : Nat)) (v' := .int .u64 (t : Nat)) rfl rfl rfl (fun w' hw => ⟨i, t, rfl, hint_zero hΦ.2 (by omega), hw.drop⟩))
theorem shrink_s (lb i t : Nat) (lv : Value) (es : List EntD) (k : Nat) (w : World) (hl : es.length ≤ 100000000000) (hg : (LG i t es).good) (hk : k < 18446744073709551616) (hin : Own w (fps [Res.row lb 66 [.int .u64 (i : Nat), .int .u64 (t : Nat), lv], Res.vec 38 5 lv es.length (es.flatMap EntD.cells), Res.star (es.map EntD.dres)]) [Res.row lb 66 [.int .u64 (i : Nat), .int .u64 (t : Nat), lv], Res.vec 38 5 lv es.length (es.flatMap EntD.cells), Res.star (es.map EntD.dres)] w) : Rets Try.prog 27 #[.pointer (some ⟨lb, 0, none⟩), .int .u64 (k : Nat)] w fun u_ w' => ∃ (i' : Nat) (t' : Nat) (lv' : Value) (es' : List EntD) (e : Int), u_ = .int .i64 e ∧ LG i' t' es' = (LG i t es).shrink k ∧ e = ((LG i t es).termE k).2 ∧ Own w (fps [Res.row lb 66 [.int .u64 (i : Nat), .int .u64 (t : Nat), lv], Res.vec 38 5 lv es.length (es.flatMap EntD.cells), Res.star (es.map EntD.dres)]) [Res.row lb 66 [.int .u64 (i' : Nat), .int .u64 (t' : Nat), lv'], Res.vec 38 5 lv' es'.length (es'.flatMap EntD.cells), Res.star (es'.map EntD.dres)] w' := by
  have hb := (LG.le hg).1
  refine fn_enter (args := [.pointer (some ⟨lb, 0, none⟩), .int .u64 (k : Nat)]) Try.func27 rfl Try.ntmps27 rfl (show Own w (fps [Res.row lb 66 [.int .u64 (i : Nat), .int .u64 (t : Nat), lv], Res.vec 38 5 lv es.length (es.flatMap EntD.cells), Res.star (es.map EntD.dres)]) [Res.row lb 66 [.int .u64 (i : Nat), .int .u64 (t : Nat), lv], Res.vec 38 5 lv es.length (es.flatMap EntD.cells), Res.star (es.map EntD.dres)] w from hin) ?_
  refine c_reg ?_
  refine l_as rfl ?_
  refine l_end ?_
  refine c_reg ?_
  refine l_mv rfl ?_
  refine l_mv rfl ?_
  refine l_call (by kernel_rfl) rfl rfl (fun w' hw => ?_)
  refine (term_s lb i t lv es k w' (by first | assumption | omega | (simp <;> omega) | (constructor <;> (first | omega | (simp only [LenOk]; omega) | (simp <;> omega)))) (by first | assumption | omega | (simp <;> omega) | (constructor <;> (first | omega | (simp only [LenOk]; omega) | (simp <;> omega)))) (by first | assumption | omega | (simp <;> omega) | (constructor <;> (first | omega | (simp only [LenOk]; omega) | (simp <;> omega)))) (hw.rdRes0 0 rfl) (hw.rdVec0 1 rfl) (EntD.rd.star0 2 rfl hw)).mono ?_
  rintro _ w1 ⟨x1_, e2_, rfl, hf1_2, hO⟩
  refine (?_ : CL _ _ _ _ _ _ (Own w (fps [Res.row lb 66 [.int .u64 (i : Nat), .int .u64 (t : Nat), lv], Res.vec 38 5 lv es.length (es.flatMap EntD.cells), Res.star (es.map EntD.dres)]) [Res.row lb 66 [.int .u64 (i : Nat), .int .u64 (t : Nat), lv], Res.vec 38 5 lv es.length (es.flatMap EntD.cells), Res.star (es.map EntD.dres)])) w1 (hw.frame0 hO)
  refine l_mv rfl ?_
  refine l_ext (vs := [.int .u64 (x1_ : Nat), .int .i64 e2_]) rfl rfl rfl ?_
  refine l_ext (vs := [.int .u64 (x1_ : Nat), .int .i64 e2_]) rfl rfl rfl ?_
  refine l_as rfl ?_
  refine l_as rfl ?_
  refine l_end ?_
  refine c_seq ?_
  refine c_reg ?_
  refine l_mv rfl ?_
  refine l_ne rfl rfl rfl ?_
  refine l_end ?_
  refine c_dec rfl (fun c1 => ?_) (fun c1 => ?_)
  ·
    refine c_reg ?_
    refine l_mv rfl ?_
    refine l_as rfl ?_
    refine l_end ?_
    exact c_ret (ret1 (v := .int .i64 e2_) rfl rfl (fun w' hw => ⟨i, t, lv, es, e2_, rfl, shr_no hf1_2 c1, by rw [hf1_2], hw⟩))
  ·
    have hq := LG.term_ok hf1_2 (by omega)
    refine c_skipC ?_
    refine c_seq ?_
    refine c_heldo [1] rfl (by decide) (by kernel_rfl) (fun w' hw hS => ?_)
    refine h_take 0 rfl (by kernel_rfl) (by kernel_rfl) (by kernel_rfl) (v_mv) rfl hS ?_
    refine h_take 1 rfl (by kernel_rfl) (by kernel_rfl) (by kernel_rfl) (v_mv) rfl hS ?_
    refine h_take 2 rfl (by kernel_rfl) (by kernel_rfl) (by kernel_rfl) (v_nck rfl) rfl hS ?_
    refine h_take 3 rfl (by kernel_rfl) (by kernel_rfl) (by kernel_rfl) (v_fld (o := 2) rfl (by kernel_rfl)) rfl hS ?_
    refine h_take 5 rfl (by kernel_rfl) (by kernel_rfl) (by kernel_rfl) (v_mv) rfl hS ?_
    refine h_take 6 rfl (by kernel_rfl) (by kernel_rfl) (by kernel_rfl) (v_mv) rfl hS ?_
    refine h_take 7 rfl (by kernel_rfl) (by kernel_rfl) (by kernel_rfl) (v_nck rfl) rfl hS ?_
    refine h_take 8 rfl (by kernel_rfl) (by kernel_rfl) (by kernel_rfl) (v_fld (o := 0) rfl (by kernel_rfl)) rfl hS ?_
    refine h_take 9 rfl (by kernel_rfl) (by kernel_rfl) (by kernel_rfl) (v_fld (o := 0) rfl (by kernel_rfl)) rfl hS ?_
    refine h_pick2 (i := 4) (j := 10) (by kernel_rfl) ?_ ?_
    ·
      refine pk_of 4 rfl hw ?_
      refine l_ldo 0 (v := lv) rfl rfl rfl (by kernel_rfl) rfl ?_
      refine l_nil (fun w' hw => ?_)
      have hS := hw.sel [1] rfl (by decide)
      refine ⟨hS, ?_⟩
      refine h_one 10 (by kernel_rfl) rfl hw ?_
      refine l_ldo 0 (v := .int .u64 (i : Nat)) rfl rfl rfl (by kernel_rfl) rfl ?_
      refine l_nil (fun w' hw => ?_)
      have hS := hw.sel [1] rfl (by decide)
      refine ⟨hS, ?_⟩
      refine h_take 11 rfl (by kernel_rfl) (by kernel_rfl) (by kernel_rfl) (v_sub (c := ((k - i : Nat) : Int)) rfl rfl (ws (by omega) (by omega))) rfl hS ?_
      refine h_take 12 rfl (by kernel_rfl) (by kernel_rfl) (by kernel_rfl) (v_slcS (sz := 5) (l := k - i) (h := es.length) (len := es.length) (cs := (es.flatMap EntD.cells)) (by kernel_rfl) rfl (fun w' hw' => Vec.sl (Own.holds hw' 0 _ rfl)) ⟨_, rfl⟩ rfl (by omega) (by omega)) rfl hS ?_
      refine h_one 13 (by kernel_rfl) rfl hw ?_
      refine l_call (by kernel_rfl) rfl rfl (fun w' hw => ?_)
      refine (cloneE_s (cutV lv (k - i) es.length 5) (es.drop (k - i)) w' (by first | assumption | omega | (simp <;> omega) | (constructor <;> (first | omega | (simp only [LenOk]; omega) | (simp <;> omega)))) (Rd.dropL_f (g := EntD.cells) (xs := es) (sz := 5) (fun _ => rfl) (hw.rdVec0 1 rfl) (l := k - i) (by omega)) (all_drop (EntD.rd.star0 2 rfl hw))).mono ?_
      rintro r4_ w1 ⟨_, rfl, hO⟩
      refine (?_ : CL _ _ _ _ _ _ (Own w (fps [Res.row lb 66 [.int .u64 (i : Nat), .int .u64 (t : Nat), lv], Res.vec 38 5 lv es.length (es.flatMap EntD.cells), Res.star (es.map EntD.dres)]) [Res.row lb 66 [.int .u64 (i : Nat), .int .u64 (t : Nat), lv], Res.vec 38 5 lv es.length (es.flatMap EntD.cells), Res.star (es.map EntD.dres), Res.vec 38 5 r4_ (es.drop (k - i)).length ((es.drop (k - i)).flatMap EntD.cells)])) w1 (hw.frame0 hO)
      refine l_nil (fun w' hw => ?_)
      have hS := hw.sel [1] rfl (by decide)
      refine ⟨hS, ?_⟩
      refine h_take 14 rfl (by kernel_rfl) (by kernel_rfl) (by kernel_rfl) (v_nck rfl) rfl hS ?_
      refine h_take 15 rfl (by kernel_rfl) (by kernel_rfl) (by kernel_rfl) (v_fld (o := 2) rfl (by kernel_rfl)) rfl hS ?_
      refine h_one 16 (by kernel_rfl) rfl hw ?_
      refine l_haveO (fun w' hw => Own.cell1Vec (i := 3) rfl hw) (fun hc2_ => ?_)
      refine l_st (cs := [.int .u64 (i : Nat), .int .u64 (t : Nat), lv]) 0 rfl rfl rfl (by kernel_rfl) hc2_ (Nat.le_of_ble_eq_true rfl) ?_
      refine l_nil (fun w' hw => ?_)
      have hS := hw.sel [1] rfl (by decide)
      refine ⟨hS, ?_⟩
      refine h_done (by kernel_rfl) ?_
      refine (?_ : C _ _ _ _ _ _ _ (Own w (fps [Res.row lb 66 [.int .u64 (i : Nat), .int .u64 (t : Nat), lv], Res.vec 38 5 lv es.length (es.flatMap EntD.cells), Res.star (es.map EntD.dres)]) [Res.row lb 66 [.int .u64 (i : Nat), .int .u64 (t : Nat), r4_], Res.vec 38 5 lv es.length (es.flatMap EntD.cells), Res.star (es.map EntD.dres), Res.vec 38 5 r4_ (es.drop (k - i)).length ((es.drop (k - i)).flatMap EntD.cells)])) _ hw
      refine c_reg ?_
      refine l_mv rfl ?_
      refine l_mv rfl ?_
      refine l_mv rfl ?_
      refine l_bld (cs := [.int .u64 (k : Nat), .int .u64 (x1_ : Nat)]) (z := [.int .u64 (0 : Nat), .int .u64 (0 : Nat)]) (pl := [(0, 1), (1, 1)]) (by kernel_rfl) (by kernel_rfl) rfl ?_
      refine l_nck rfl rfl ?_
      refine l_fld (o := 0) rfl (by kernel_rfl) rfl ?_
      refine l_stN (cs := [.int .u64 (i : Nat), .int .u64 (t : Nat), r4_]) (vs := [.int .u64 (k : Nat), .int .u64 (x1_ : Nat)]) 0 rfl rfl rfl (by kernel_rfl) (allc_cons rfl (allc_cons rfl allc_nil)) (Nat.le_of_ble_eq_true rfl) ?_
      refine l_end ?_
      refine c_reg ?_
      refine l_as rfl ?_
      refine l_end ?_
      exact c_ret (ret1 (v := .int .i64 0) rfl rfl (fun w' hw => ⟨k, x1_, r4_, (es.drop (k - i)), 0, rfl, shr_ok hf1_2 (by omega), by rw [hf1_2]; show (0 : Int) = _; omega, ((hw.starDrop 2 (k - i) rfl).sel [0, 3, 2] rfl (by decide))⟩))
    ·
      refine pk_of 10 rfl hw ?_
      refine l_ldo 0 (v := .int .u64 (i : Nat)) rfl rfl rfl (by kernel_rfl) rfl ?_
      refine l_nil (fun w' hw => ?_)
      have hS := hw.sel [1] rfl (by decide)
      refine ⟨hS, ?_⟩
      refine h_take 11 rfl (by kernel_rfl) (by kernel_rfl) (by kernel_rfl) (v_sub (c := ((k - i : Nat) : Int)) rfl rfl (ws (by omega) (by omega))) rfl hS ?_
      refine h_one 4 (by kernel_rfl) rfl hw ?_
      refine l_ldo 0 (v := lv) rfl rfl rfl (by kernel_rfl) rfl ?_
      refine l_nil (fun w' hw => ?_)
      have hS := hw.sel [1] rfl (by decide)
      refine ⟨hS, ?_⟩
      refine h_take 12 rfl (by kernel_rfl) (by kernel_rfl) (by kernel_rfl) (v_slcS (sz := 5) (l := k - i) (h := es.length) (len := es.length) (cs := (es.flatMap EntD.cells)) (by kernel_rfl) rfl (fun w' hw' => Vec.sl (Own.holds hw' 0 _ rfl)) ⟨_, rfl⟩ rfl (by omega) (by omega)) rfl hS ?_
      refine h_one 13 (by kernel_rfl) rfl hw ?_
      refine l_call (by kernel_rfl) rfl rfl (fun w' hw => ?_)
      refine (cloneE_s (cutV lv (k - i) es.length 5) (es.drop (k - i)) w' (by first | assumption | omega | (simp <;> omega) | (constructor <;> (first | omega | (simp only [LenOk]; omega) | (simp <;> omega)))) (Rd.dropL_f (g := EntD.cells) (xs := es) (sz := 5) (fun _ => rfl) (hw.rdVec0 1 rfl) (l := k - i) (by omega)) (all_drop (EntD.rd.star0 2 rfl hw))).mono ?_
      rintro r6_ w1 ⟨_, rfl, hO⟩
      refine (?_ : CL _ _ _ _ _ _ (Own w (fps [Res.row lb 66 [.int .u64 (i : Nat), .int .u64 (t : Nat), lv], Res.vec 38 5 lv es.length (es.flatMap EntD.cells), Res.star (es.map EntD.dres)]) [Res.row lb 66 [.int .u64 (i : Nat), .int .u64 (t : Nat), lv], Res.vec 38 5 lv es.length (es.flatMap EntD.cells), Res.star (es.map EntD.dres), Res.vec 38 5 r6_ (es.drop (k - i)).length ((es.drop (k - i)).flatMap EntD.cells)])) w1 (hw.frame0 hO)
      refine l_nil (fun w' hw => ?_)
      have hS := hw.sel [1] rfl (by decide)
      refine ⟨hS, ?_⟩
      refine h_take 14 rfl (by kernel_rfl) (by kernel_rfl) (by kernel_rfl) (v_nck rfl) rfl hS ?_
      refine h_take 15 rfl (by kernel_rfl) (by kernel_rfl) (by kernel_rfl) (v_fld (o := 2) rfl (by kernel_rfl)) rfl hS ?_
      refine h_one 16 (by kernel_rfl) rfl hw ?_
      refine l_haveO (fun w' hw => Own.cell1Vec (i := 3) rfl hw) (fun hc3_ => ?_)
      refine l_st (cs := [.int .u64 (i : Nat), .int .u64 (t : Nat), lv]) 0 rfl rfl rfl (by kernel_rfl) hc3_ (Nat.le_of_ble_eq_true rfl) ?_
      refine l_nil (fun w' hw => ?_)
      have hS := hw.sel [1] rfl (by decide)
      refine ⟨hS, ?_⟩
      refine h_done (by kernel_rfl) ?_
      refine (?_ : C _ _ _ _ _ _ _ (Own w (fps [Res.row lb 66 [.int .u64 (i : Nat), .int .u64 (t : Nat), lv], Res.vec 38 5 lv es.length (es.flatMap EntD.cells), Res.star (es.map EntD.dres)]) [Res.row lb 66 [.int .u64 (i : Nat), .int .u64 (t : Nat), r6_], Res.vec 38 5 lv es.length (es.flatMap EntD.cells), Res.star (es.map EntD.dres), Res.vec 38 5 r6_ (es.drop (k - i)).length ((es.drop (k - i)).flatMap EntD.cells)])) _ hw
      refine c_reg ?_
      refine l_mv rfl ?_
      refine l_mv rfl ?_
      refine l_mv rfl ?_
      refine l_bld (cs := [.int .u64 (k : Nat), .int .u64 (x1_ : Nat)]) (z := [.int .u64 (0 : Nat), .int .u64 (0 : Nat)]) (pl := [(0, 1), (1, 1)]) (by kernel_rfl) (by kernel_rfl) rfl ?_
      refine l_nck rfl rfl ?_
      refine l_fld (o := 0) rfl (by kernel_rfl) rfl ?_
      refine l_stN (cs := [.int .u64 (i : Nat), .int .u64 (t : Nat), r6_]) (vs := [.int .u64 (k : Nat), .int .u64 (x1_ : Nat)]) 0 rfl rfl rfl (by kernel_rfl) (allc_cons rfl (allc_cons rfl allc_nil)) (Nat.le_of_ble_eq_true rfl) ?_
      refine l_end ?_
      refine c_reg ?_
      refine l_as rfl ?_
      refine l_end ?_
      exact c_ret (ret1 (v := .int .i64 0) rfl rfl (fun w' hw => ⟨k, x1_, r6_, (es.drop (k - i)), 0, rfl, shr_ok hf1_2 (by omega), by rw [hf1_2]; show (0 : Int) = _; omega, ((hw.starDrop 2 (k - i) rfl).sel [0, 3, 2] rfl (by decide))⟩))
theorem shrinkNil_s (k : Nat) (w : World) : Rets Try.prog 27 #[.pointer none, .int .u64 (k : Nat)] w fun u_ w' => u_ = .int .i64 1 ∧ Own w [] [] w' := by
  refine fn_enter (args := [.pointer none, .int .u64 (k : Nat)]) Try.func27 rfl Try.ntmps27 rfl (Own.start w) ?_
  refine c_reg ?_
  refine l_as rfl ?_
  refine l_end ?_
  refine c_reg ?_
  refine l_mv rfl ?_
  refine l_mv rfl ?_
  refine l_call (by kernel_rfl) rfl rfl (fun w' hw => ?_)
  refine (termNil_s k w').mono ?_
  rintro _ w1 ⟨rfl, hO⟩
  refine (?_ : CL _ _ _ _ _ _ (Own w [] [])) w1 (hw.frame0 hO)
  refine l_mv rfl ?_
  refine l_ext (vs := [.int .u64 (0 : Nat), .int .i64 1]) rfl rfl rfl ?_
  refine l_ext (vs := [.int .u64 (0 : Nat), .int .i64 1]) rfl rfl rfl ?_
  refine l_as rfl ?_
  refine l_as rfl ?_
  refine l_end ?_
  refine c_seq ?_
  refine c_reg ?_
  refine l_mv rfl ?_
  refine l_ne rfl rfl rfl ?_
  refine l_end ?_
  refine c_dec rfl (fun c1 => ?_) (fun c1 => ?_)
  ·
    refine c_reg ?_
    refine l_mv rfl ?_
    refine l_as rfl ?_
    refine l_end ?_
    exact c_ret (ret1 (v := .int .i64 1) rfl rfl (fun w' hw => ⟨rfl, hw.drop⟩))
  ·
    exact absurd (by decide) c1
theorem copy_s (lb i t : Nat) (lv : Value) (es : List EntD) (w : World) (hl : es.length ≤ 100000000000) (hg : (LG i t es).good) (hin : Own w (fps [Res.row lb 66 [.int .u64 (i : Nat), .int .u64 (t : Nat), lv], Res.vec 38 5 lv es.length (es.flatMap EntD.cells), Res.star (es.map EntD.dres)]) [Res.row lb 66 [.int .u64 (i : Nat), .int .u64 (t : Nat), lv], Res.vec 38 5 lv es.length (es.flatMap EntD.cells), Res.star (es.map EntD.dres)] w) : Rets Try.prog 24 #[.pointer (some ⟨lb, 0, none⟩)] w fun u_ w' => ∃ (b : Nat) (lv' : Value) (es' : List EntD), u_ = .pointer (some ⟨b, 0, none⟩) ∧ es'.map EntD.toEntA = es.map EntD.toEntA ∧ Own w (fps [Res.row lb 66 [.int .u64 (i : Nat), .int .u64 (t : Nat), lv], Res.vec 38 5 lv es.length (es.flatMap EntD.cells), Res.star (es.map EntD.dres)]) [Res.row lb 66 [.int .u64 (i : Nat), .int .u64 (t : Nat), lv], Res.vec 38 5 lv es.length (es.flatMap EntD.cells), Res.star (es.map EntD.dres), Res.row b 66 [.int .u64 (i : Nat), .int .u64 (t : Nat), lv'], Res.vec 38 5 lv' es'.length (es'.flatMap EntD.cells), Res.star (es'.map EntD.dres)] w' := by
  refine fn_enter (args := [.pointer (some ⟨lb, 0, none⟩)]) Try.func24 rfl Try.ntmps24 rfl (show Own w (fps [Res.row lb 66 [.int .u64 (i : Nat), .int .u64 (t : Nat), lv], Res.vec 38 5 lv es.length (es.flatMap EntD.cells), Res.star (es.map EntD.dres)]) [Res.row lb 66 [.int .u64 (i : Nat), .int .u64 (t : Nat), lv], Res.vec 38 5 lv es.length (es.flatMap EntD.cells), Res.star (es.map EntD.dres)] w from hin) ?_
  refine c_reg ?_
  refine l_as rfl ?_
  refine l_end ?_
  refine c_seq ?_
  refine c_reg ?_
  refine l_mv rfl ?_
  refine l_nilp (by kernel_rfl) rfl rfl rfl ?_
  refine l_end ?_
  refine c_no rfl ?_
  refine c_skipC ?_
  refine c_seq ?_
  refine c_heldo [0, 1] rfl (by decide) (by kernel_rfl) (fun w' hw hS => ?_)
  refine h_take 0 rfl (by kernel_rfl) (by kernel_rfl) (by kernel_rfl) (v_mv) rfl hS ?_
  refine h_take 1 rfl (by kernel_rfl) (by kernel_rfl) (by kernel_rfl) (v_nck rfl) rfl hS ?_
  refine h_take 2 rfl (by kernel_rfl) (by kernel_rfl) (by kernel_rfl) (v_fld (o := 0) rfl (by kernel_rfl)) rfl hS ?_
  refine h_take 3 rfl (by kernel_rfl) (by kernel_rfl) (by kernel_rfl) (v_ldoN (cs := [.int .u64 (i : Nat), .int .u64 (t : Nat), lv]) 0 [.int .u64 (i : Nat), .int .u64 (t : Nat)] rfl rfl (sub_at' 0 rfl) (by kernel_rfl)) rfl hS ?_
  refine h_take 4 rfl (by kernel_rfl) (by kernel_rfl) (by kernel_rfl) (v_mv) rfl hS ?_
  refine h_take 5 rfl (by kernel_rfl) (by kernel_rfl) (by kernel_rfl) (v_nck rfl) rfl hS ?_
  refine h_take 6 rfl (by kernel_rfl) (by kernel_rfl) (by kernel_rfl) (v_fld (o := 2) rfl (by kernel_rfl)) rfl hS ?_
  refine h_take 7 rfl (by kernel_rfl) (by kernel_rfl) (by kernel_rfl) (v_ldo 0 (v := lv) rfl rfl rfl (by kernel_rfl)) rfl hS ?_
  refine h_one 8 (by kernel_rfl) rfl hw ?_
  refine l_call (by kernel_rfl) rfl rfl (fun w' hw => ?_)
  refine (clones_s lv es w' (by first | assumption | omega | (simp <;> omega) | (constructor <;> (first | omega | (simp only [LenOk]; omega) | (simp <;> omega)))) (fun e he => by have := LG.data hg e he; omega) (hw.rdVec0 1 rfl) (EntD.rd.star0 2 rfl hw)).mono ?_
  rintro r1_ w1 ⟨_, es2_, rfl, hf3_8, hO⟩
  refine (?_ : CL _ _ _ _ _ _ (Own w (fps [Res.row lb 66 [.int .u64 (i : Nat), .int .u64 (t : Nat), lv], Res.vec 38 5 lv es.length (es.flatMap EntD.cells), Res.star (es.map EntD.dres)]) [Res.row lb 66 [.int .u64 (i : Nat), .int .u64 (t : Nat), lv], Res.vec 38 5 lv es.length (es.flatMap EntD.cells), Res.star (es.map EntD.dres), Res.vec 38 5 r1_ es2_.length (es2_.flatMap EntD.cells), Res.star (es2_.map EntD.dres)])) w1 (hw.frame0 hO)
  refine l_nil (fun w' hw => ?_)
  have hS := hw.sel [0, 1] rfl (by decide)
  refine ⟨hS, ?_⟩
  refine h_one 9 (by kernel_rfl) rfl hw ?_
  refine l_haveO (fun w' hw => Own.cell1Vec (i := 3) rfl hw) (fun hc1_ => ?_)
  refine l_bldc (cs := [.int .u64 (i : Nat), .int .u64 (t : Nat), r1_]) (z := [.int .u64 (0 : Nat), .int .u64 (0 : Nat), .slice none 0 0]) (pl := [(0, 2), (2, 1)]) (by kernel_rfl) ⟨trivial, hc1_, trivial⟩ (by kernel_rfl) rfl ?_
  refine l_nil (fun w' hw => ?_)
  have hS := hw.sel [0, 1] rfl (by decide)
  refine ⟨hS, ?_⟩
  refine h_one 10 (by kernel_rfl) rfl hw ?_
  refine l_box rfl rfl (fun b15 => ?_)
  refine l_nil (fun w' hw => ?_)
  have hS := hw.sel [0, 1] rfl (by decide)
  refine ⟨hS, ?_⟩
  refine h_take 11 rfl (by kernel_rfl) (by kernel_rfl) (by kernel_rfl) (v_as) rfl hS ?_
  refine h_done (by kernel_rfl) ?_
  refine (?_ : C _ _ _ _ _ _ _ (Own w (fps [Res.row lb 66 [.int .u64 (i : Nat), .int .u64 (t : Nat), lv], Res.vec 38 5 lv es.length (es.flatMap EntD.cells), Res.star (es.map EntD.dres)]) [Res.row lb 66 [.int .u64 (i : Nat), .int .u64 (t : Nat), lv], Res.vec 38 5 lv es.length (es.flatMap EntD.cells), Res.star (es.map EntD.dres), Res.vec 38 5 r1_ es2_.length (es2_.flatMap EntD.cells), Res.star (es2_.map EntD.dres), Res.row b15 66 [.int .u64 (i : Nat), .int .u64 (t : Nat), r1_]])) _ hw
  exact c_ret (ret1 (v := .pointer (some ⟨b15, 0, none⟩)) rfl rfl (fun w' hw => ⟨b15, r1_, es2_, rfl, hf3_8, hw.sel [0, 1, 2, 5, 3, 4] rfl (by decide)⟩))
theorem copyNil_s (w : World) : Rets Try.prog 24 #[.pointer none] w fun u_ w' => u_ = .pointer none ∧ Own w [] [] w' := by
  refine fn_enter (args := [.pointer none]) Try.func24 rfl Try.ntmps24 rfl (Own.start w) ?_
  refine c_reg ?_
  refine l_as rfl ?_
  refine l_end ?_
  refine c_seq ?_
  refine c_reg ?_
  refine l_mv rfl ?_
  refine l_nilp (by kernel_rfl) rfl rfl rfl ?_
  refine l_end ?_
  refine c_yes rfl ?_
  refine c_reg ?_
  refine l_as rfl ?_
  refine l_end ?_
  exact c_ret (ret1 (v := .pointer none) rfl rfl (fun w' hw => ⟨rfl, hw.drop⟩))
end Go.Proofs.Ytibbkbgodomfkaa
