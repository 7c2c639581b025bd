/-
  THE LAST REPLIES COPIED AND LOADED.
-/
import Derived.Test.YtjnnobekbgpaaaaDupR
import Derived.Test.YtjnnobekbgpaaaaFwK
set_option linter.unusedVariables false
set_option maxRecDepth 10000
namespace Go.Proofs.Ytjnnobekbgpaaaa
open Go Go.Sc Go.Proofs

theorem dclone_s (m : Nat) (kl : List (Nat × RepD)) (w : World) (hin : Own w (fps [Res.mp ekR repA m kl]) [Res.mp ekR repA m kl] w) : Rets Try.prog 22 #[.map (some m)] w fun u_ w' => ∃ (m' : Nat), u_ = .map (some m') ∧ Own w (fps [Res.mp ekR repA m kl]) [Res.mp ekR repA m kl, Res.mp ekR repA m' kl] w' := by
  refine fn_enter (args := [.map (some m)]) Try.func22 rfl Try.ntmps22 rfl (show Own w (fps [Res.mp ekR repA m kl]) [Res.mp ekR repA m kl] w from hin) ?_
  refine c_reg ?_
  refine l_as rfl ?_
  refine l_end ?_
  refine c_seq ?_
  refine c_reg ?_
  refine l_mv rfl ?_
  refine l_nilm (by kernel_rfl) rfl rfl rfl ?_
  refine l_end ?_
  refine c_no rfl ?_
  refine c_skipC ?_
  refine c_reg ?_
  refine l_mv rfl ?_
  refine l_mkif (by kernel_rfl) rfl rfl ?_
  refine l_mcloneA 0 (ke := ekR) (ve := repA) (kv := kl) Try.func30 (by kernel_rfl) (by kernel_rfl) (by kernel_rfl) (by kernel_rfl) rfl rfl rfl (fun m7 => ?_)
  refine l_tas (by kernel_rfl) rfl rfl ?_
  refine l_as rfl ?_
  refine l_end ?_
  exact c_ret (ret1 (v := .map (some m7)) rfl rfl (fun w' hw => ⟨m7, rfl, hw⟩))
theorem dcopy_s (b m : Nat) (kl : List (Nat × RepD)) (w : World) (hin : Own w (fps [Res.row b 56 [.map (some m)], Res.mp ekR repA m kl]) [Res.row b 56 [.map (some m)], Res.mp ekR repA m kl] w) : Rets Try.prog 14 #[.pointer (some ⟨b, 0, none⟩)] w fun u_ w' => ∃ (b' m' : Nat), u_ = .pointer (some ⟨b', 0, none⟩) ∧ Own w (fps [Res.row b 56 [.map (some m)], Res.mp ekR repA m kl]) [Res.row b 56 [.map (some m)], Res.mp ekR repA m kl, Res.row b' 56 [.map (some m')], Res.mp ekR repA m' kl] w' := by
  refine fn_enter (args := [.pointer (some ⟨b, 0, none⟩)]) Try.func14 rfl Try.ntmps14 rfl (show Own w (fps [Res.row b 56 [.map (some m)], Res.mp ekR repA m kl]) [Res.row b 56 [.map (some m)], Res.mp ekR repA m kl] w from hin) ?_
  refine c_reg ?_
  refine l_as rfl ?_
  refine l_end ?_
  refine c_seq ?_
  refine c_reg ?_
  refine l_mv rfl ?_
  refine l_nilp (by kernel_rfl) rfl rfl rfl ?_
  refine l_end ?_
  refine c_no rfl ?_
  refine c_skipC ?_
  refine c_reg ?_
  refine l_mv rfl ?_
  refine l_nck rfl rfl ?_
  refine l_fld (o := 0) rfl (by kernel_rfl) rfl ?_
  refine l_ldo 0 (v := .map (some m)) rfl rfl rfl (by kernel_rfl) rfl ?_
  refine l_call (by kernel_rfl) rfl rfl (fun w' hw => ?_)
  refine (dclone_s m kl w' (hw.give [1] rfl (by decide))).mono ?_
  rintro _ w1 ⟨m'1_, rfl, hO⟩
  refine (?_ : CL _ _ _ _ _ _ (Own w (fps [Res.row b 56 [.map (some m)], Res.mp ekR repA m kl]) [Res.row b 56 [.map (some m)], Res.mp ekR repA m kl, Res.mp ekR repA m'1_ kl])) w1 (hw.frameL [1] rfl hO)
  refine l_bld (cs := [.map (some m'1_)]) (z := [.map none]) (pl := [(0, 1)]) (by kernel_rfl) (by kernel_rfl) rfl ?_
  refine l_box rfl rfl (fun b11 => ?_)
  refine l_as rfl ?_
  refine l_end ?_
  exact c_ret (ret1 (v := .pointer (some ⟨b11, 0, none⟩)) rfl rfl (fun w' hw => ⟨b11, m'1_, rfl, hw.sel [0, 1, 3, 2] rfl (by decide)⟩))
def LOk (l : List RepD) : Prop := (l.map (·.session)).Pairwise (· < ·) ∧ ∀ r ∈ l, r.ok ∧ 1 ≤ r.session ∧ 1 ≤ r.seq
abbrev Bad (l : List RepD) (i : Nat) : Prop := (((errOf (nth l i).ok ≠ 0) ∨ ((((nth l i).session : Nat) : Int) = ((0 : Nat) : Int))) ∨ ((((nth l i).seq : Nat) : Int) = ((0 : Nat) : Int))) ∨ ((0 < ((i : Nat) : Int)) ∧ ((((nth l i).session : Nat) : Int) ≤ (((nth l (i - 1)).session : Nat) : Int)))
theorem bad_each {l : List RepD} {i : Nat} (h : ¬ Bad l i) : (nth l i).ok ∧ 1 ≤ (nth l i).session ∧ 1 ≤ (nth l i).seq ∧ (0 < i → (nth l (i - 1)).session < (nth l i).session) := by
  refine ⟨errOf_zero.1 (Decidable.not_not.1 fun q => h (.inl (.inl (.inl q)))), Nat.pos_of_ne_zero fun q => h (.inl (.inl (.inr (by omega)))), Nat.pos_of_ne_zero fun q => h (.inl (.inr (by omega))), fun q => Nat.not_le.1 fun k => h (.inr ⟨by omega, by omega⟩)⟩
theorem lok_lt {l : List RepD} {i : Nat} (hI : LOk (l.take i)) (hi : i < l.length) (hp : 0 < i → (nth l (i - 1)).session < (nth l i).session) : ∀ x ∈ l.take i, x.session < (nth l i).session := fun x hx => by
  obtain ⟨j, hj, e⟩ := List.mem_iff_getElem.1 hx
  have hji : j < i := by rw [List.length_take] at hj; omega
  have h1 := hp (by omega)
  by_cases c : j = i - 1
  · have e2 := nth_eq (List.getElem?_eq_getElem (show i - 1 < l.length by omega))
    rw [List.getElem_take] at e
    subst c; rw [e2, e] at h1; exact h1
  · have hm : nth l (i - 1) = (l.take i)[i - 1]'(by rw [List.length_take]; omega) := by
      rw [List.getElem_take]; exact nth_eq (List.getElem?_eq_getElem (by omega))
    have := List.pairwise_iff_getElem.1 hI.1 j (i - 1) (by rw [List.length_map]; exact hj) (by rw [List.length_map, List.length_take]; omega) (by omega)
    rw [List.getElem_map, List.getElem_map, e, ← hm] at this
    omega
theorem load_step {l : List RepD} {i : Nat} (hI : LOk (l.take i)) (hi : i < l.length) (h : ¬ Bad l i) : LOk (l.take (i + 1)) := by
  obtain ⟨h1, h2, h3, h4⟩ := bad_each h
  have hlt := lok_lt hI hi h4
  rw [take_nth hi]
  refine ⟨?_, fun x hx => ?_⟩
  · rw [List.map_append, List.pairwise_append]
    refine ⟨hI.1, by simp, fun a ha b hb => ?_⟩
    obtain ⟨x, hx, rfl⟩ := List.mem_map.1 ha
    simp at hb; rw [hb]; exact hlt x hx
  · rcases List.mem_append.1 hx with q | q
    · exact hI.2 x q
    · rw [List.mem_singleton.1 q]; exact ⟨h1, h2, h3⟩
theorem load_put {l : List RepD} {i : Nat} (hI : LOk (l.take i)) (hi : i < l.length) (h : ¬ Bad l i) : putA (nth l i).session (nth l i) (KR (l.take i)) = KR (l.take (i + 1)) := by
  have hlt := lok_lt hI hi (bad_each h).2.2.2
  rw [putA_new, take_nth hi]
  · unfold KR; rw [List.map_append]; rfl
  · rw [getA_none]
    intro p hp e
    obtain ⟨x, hx, rfl⟩ := List.mem_map.1 hp
    have := hlt x hx
    simp only at e; omega
theorem load_bad {l : List RepD} {i : Nat} (hi : i < l.length) (h : Bad l i) (hL : LOk l) : False := by
  have hm := hL.2 _ (nth_mem hi)
  rcases h with ((h | h) | h) | h
  · exact h (errOf_zero.2 hm.1)
  · omega
  · omega
  · have e1 := nth_eq (List.getElem?_eq_getElem hi)
    have e2 := nth_eq (List.getElem?_eq_getElem (show i - 1 < l.length by omega))
    have := List.pairwise_iff_getElem.1 hL.1 (i - 1) i (by rw [List.length_map]; omega) (by rw [List.length_map]; omega) (by omega)
    rw [List.getElem_map, List.getElem_map, ← e1, ← e2] at this
    omega
theorem dload_s (b m : Nat) (kl : List (Nat × RepD)) (v : Value) (l : List RepD) (w : World) (hl : l.length ≤ 2000000) (hwf : ∀ r ∈ l, r.wf) (hv : Rd w (fps [Res.row b 56 [.map (some m)], Res.mp ekR repA m kl]) (Res.sl v l.length (l.flatMap RepD.cells))) (hin : Own w (fps [Res.row b 56 [.map (some m)], Res.mp ekR repA m kl]) [Res.row b 56 [.map (some m)], Res.mp ekR repA m kl] w) : Rets Try.prog 15 #[.pointer (some ⟨b, 0, none⟩), v] w fun u_ w' => ∃ (m' : Nat) (kl' : List (Nat × RepD)) (e : Int), u_ = .int .i64 e ∧ ((e = 0 ∧ COk l ∧ kl' = KR l) ∨ (e = 2 ∧ ¬ COk l ∧ kl' = kl)) ∧ Own w (fps [Res.row b 56 [.map (some m)], Res.mp ekR repA m kl]) [Res.row b 56 [.map (some m')], Res.mp ekR repA m' kl'] w' := by
  refine fn_enter (args := [.pointer (some ⟨b, 0, none⟩), v]) Try.func15 rfl Try.ntmps15 rfl (show Own w (fps [Res.row b 56 [.map (some m)], Res.mp ekR repA m kl]) [Res.row b 56 [.map (some m)], Res.mp ekR repA m kl] w from hin) ?_
  refine c_reg ?_
  refine l_as rfl ?_
  refine l_end ?_
  refine c_seq ?_
  refine c_reg ?_
  refine l_mv rfl ?_
  refine l_nilp (by kernel_rfl) rfl rfl rfl ?_
  refine l_end ?_
  refine c_no rfl ?_
  refine c_skipC ?_
  refine c_seq ?_
  refine c_reg ?_
  refine l_mv rfl ?_
  refine l_lenS (len := l.length) (cs := (l.flatMap RepD.cells)) (by kernel_rfl) rfl (fun w' hw' => Own.rd hv hw') rfl ?_
  refine l_gtr rfl rfl rfl ?_
  refine l_end ?_
  refine c_dec rfl (fun c2 => ?_) (fun c2 => ?_)
  ·
    refine c_reg ?_
    refine l_as rfl ?_
    refine l_end ?_
    exact c_ret (ret1 (v := .int .i64 2) rfl rfl (fun w' hw => ⟨m, kl, 2, rfl, .inr ⟨rfl, fun h => by have := h.len; omega, rfl⟩, hw⟩))
  ·
    refine c_skipC ?_
    refine c_reg ?_
    refine l_mkmapA (α := RepD) ekR repA rfl rfl (fun m15 => ?_)
    refine l_as rfl ?_
    refine l_end ?_
    refine c_seq ?_
    refine c_reg ?_
    refine l_mv rfl ?_
    refine l_lenS (len := l.length) (cs := (l.flatMap RepD.cells)) (by kernel_rfl) rfl (fun w' hw' => Own.rd hv hw') rfl ?_
    refine l_mv rfl ?_
    refine l_end ?_
    refine c_block ?_
    refine c_loop2 (fun (i : Nat) (kn : List (Nat × RepD)) => [(0, .pointer (some ⟨b, 0, none⟩)), (1, v), (5, .map (some m15)), (16, v), (17, .int .i64 (l.length : Nat)), (18, .int .i64 (i : Nat))]) (fun (i : Nat) (kn : List (Nat × RepD)) => i ≤ l.length ∧ LOk (l.take i) ∧ kn = KR (l.take i)) (fun (i : Nat) (kn : List (Nat × RepD)) => [Res.row b 56 [.map (some m)], Res.mp ekR repA m kl, Res.mp ekR repA m15 kn]) (fun (i : Nat) (kn : List (Nat × RepD)) => l.length - i) (fun w' hw => ⟨0, [], ⟨rfl, rfl, rfl, rfl, rfl, rfl, trivial⟩, ⟨Nat.zero_le _, by simp [LOk], rfl⟩, hw⟩) (fun i kn g hΦ => ?_)
    have hi := hΦ.1
    have hI := hΦ.2.1
    have hkn := hΦ.2.2
    refine c_reg ?_
    refine l_lss rfl rfl rfl ?_
    refine l_end ?_
    refine c_seq ?_
    refine c_dec rfl (fun c3 => ?_) (fun c3 => ?_)
    ·
      refine c_skipC ?_
      refine c_seq ?_
      refine c_block ?_
      refine c_reg ?_
      refine l_mv rfl ?_
      refine l_idxS (j := i) (sz := 6) (len := l.length) (cs := (l.flatMap RepD.cells)) rfl rfl (by kernel_rfl) (fun w' hw' => Own.rd hv hw') rfl (by omega) rfl ?_
      refine l_ldSN (v := v) (off := offV v + i * 6) (i * 6 + 0) (cs := (l.flatMap RepD.cells)) (RepD.cells (nth l i)) rfl (by omega) (fun w' hw' => Own.rd hv hw') (flat_atN (sz := 6) (fun _ => rfl) (nth_some (by omega)) (o := 0) (us := (RepD.cells (nth l i))) (fun k u h => by rw [Nat.zero_add]; exact h)) (by kernel_rfl) rfl ?_
      refine l_new (v := .agg #[.int .u64 (0 : Nat), .int .u64 (0 : Nat), .int .i64 0, .int .u64 (0 : Nat), .int .i64 0, .int .i64 0]) (by kernel_rfl) rfl (fun b7 => ?_)
      refine l_as rfl ?_
      refine l_stN (cs := [.int .u64 (0 : Nat), .int .u64 (0 : Nat), .int .i64 0, .int .u64 (0 : Nat), .int .i64 0, .int .i64 0]) (vs := [.int .u64 ((nth l i).session : Nat), .int .u64 ((nth l i).seq : Nat), .int .i64 ((nth l i).e), .int .u64 ((nth l i).lease : Nat), .int .i64 ((nth l i).amount), .int .i64 ((nth l i).until_)]) 3 rfl rfl rfl (by kernel_rfl) (allc_cons rfl (allc_cons rfl (allc_cons rfl (allc_cons rfl (allc_cons rfl (allc_cons rfl allc_nil)))))) (Nat.le_of_ble_eq_true rfl) ?_
      refine l_end ?_
      refine c_seq ?_
      refine c_reg ?_
      refine l_ldr (cs := (RepD.cells (nth l i))) 3 rfl rfl (by kernel_rfl) rfl ?_
      refine l_call (by kernel_rfl) rfl rfl (fun w' hw => ?_)
      refine (msgReply_s (nth l i) w' (hwf _ (nth_mem (by omega)))).mono ?_
      rintro _ w1 ⟨r1_, rfl, hO⟩
      refine (?_ : CL _ _ _ _ _ _ (Own w (fps [Res.row b 56 [.map (some m)], Res.mp ekR repA m kl]) [Res.row b 56 [.map (some m)], Res.mp ekR repA m kl, Res.mp ekR repA m15 kn, Res.row b7 26 (RepD.cells (nth l i)), Res.vec 5 1 r1_ (if (nth l i).ok then (nth l i).enc else []).length ((if (nth l i).ok then (nth l i).enc else []).map vb)])) w1 (hw.frame0 hO)
      refine l_mv rfl ?_
      refine l_ext (vs := [r1_, .int .i64 (errOf (nth l i).ok)]) rfl rfl rfl ?_
      refine l_ext (vs := [r1_, .int .i64 (errOf (nth l i).ok)]) rfl rfl rfl ?_
      refine l_as rfl ?_
      refine l_as rfl ?_
      refine l_end ?_
      refine c_quiets (by kernel_rfl) (by kernel_rfl) ?_
      refine q_val rfl (v_mv) ?_
      refine q_val rfl (v_ne rfl rfl) ?_
      refine q_val rfl (v_mv) ?_
      refine q_bor (q := (errOf (nth l i).ok) ≠ 0) 3 2 [33, 32, 31] ((((nth l i).session : Nat) : Int) = ((0 : Nat) : Int)) rfl rfl rfl rfl rfl rfl trivial rfl (fun h10_2 => ?_) (fun g10_6 => ?_)
      ·
        refine q_on rfl (gF h10_2) ?_
        refine q_val rfl (v_fld (o := 0) rfl (by kernel_rfl)) ?_
        refine q_on rfl (gF h10_2) ?_
        refine q_val rfl (v_ldo 3 (v := .int .u64 ((nth l i).session : Nat)) rfl rfl rfl (by kernel_rfl)) ?_
        refine q_on rfl (gF h10_2) ?_
        refine q_val rfl (v_eq rfl rfl) ?_
        exact q_nil (fun w' hw => ⟨(by repeat (first | exact Out.refl _ _ | refine Out.upd rfl ?_ | refine Out.msk rfl ?_)), rfl, hw⟩)
      refine q_val rfl (v_mv) ?_
      refine q_bor (q := ((errOf (nth l i).ok) ≠ 0) ∨ ((((nth l i).session : Nat) : Int) = ((0 : Nat) : Int))) 3 7 [38, 37, 36] ((((nth l i).seq : Nat) : Int) = ((0 : Nat) : Int)) rfl rfl rfl rfl rfl rfl trivial rfl (fun h10_7 => ?_) (fun g10_11 => ?_)
      ·
        refine q_on rfl (gF h10_7) ?_
        refine q_val rfl (v_fld (o := 1) rfl (by kernel_rfl)) ?_
        refine q_on rfl (gF h10_7) ?_
        refine q_val rfl (v_ldo 3 (v := .int .u64 ((nth l i).seq : Nat)) rfl rfl rfl (by kernel_rfl)) ?_
        refine q_on rfl (gF h10_7) ?_
        refine q_val rfl (v_eq rfl rfl) ?_
        exact q_nil (fun w' hw => ⟨(by repeat (first | exact Out.refl _ _ | refine Out.upd rfl ?_ | refine Out.msk rfl ?_)), rfl, hw⟩)
      refine q_val rfl (v_mv) ?_
      refine q_bor (q := (((errOf (nth l i).ok) ≠ 0) ∨ ((((nth l i).session : Nat) : Int) = ((0 : Nat) : Int))) ∨ ((((nth l i).seq : Nat) : Int) = ((0 : Nat) : Int))) 13 12 [53, 52, 51, 50, 49, 48, 47, 46, 45, 44, 43, 42, 41] ((0 < ((i : Nat) : Int)) ∧ ((((nth l i).session : Nat) : Int) ≤ (((nth l (i - 1)).session : Nat) : Int))) rfl rfl rfl rfl rfl rfl trivial rfl (fun h10_12 => ?_) (fun g10_26 => ?_)
      ·
        refine q_on rfl (gF h10_12) ?_
        refine q_val rfl (v_mv) ?_
        refine q_on rfl (gF h10_12) ?_
        refine q_val rfl (v_gtr rfl rfl) ?_
        refine q_on rfl (gF h10_12) ?_
        refine q_val rfl (v_mv) ?_
        refine q_band (q := 0 < ((i : Nat) : Int)) 9 15 [52, 51, 50, 49, 48, 47, 46, 45, 44] ((((nth l i).session : Nat) : Int) ≤ (((nth l (i - 1)).session : Nat) : Int)) rfl rfl rfl rfl rfl rfl ⟨_, rfl, rfl, gF h10_12⟩ rfl (fun h10_15 => ?_) (fun g10_25 => ?_)
        ·
          refine q_on rfl (gT h10_15) ?_
          refine q_val rfl (v_fld (o := 0) rfl (by kernel_rfl)) ?_
          refine q_on rfl (gT h10_15) ?_
          refine q_val rfl (v_ldo 3 (v := .int .u64 ((nth l i).session : Nat)) rfl rfl rfl (by kernel_rfl)) ?_
          refine q_on rfl (gT h10_15) ?_
          refine q_val rfl (v_mv) ?_
          refine q_on rfl (gT h10_15) ?_
          refine q_val rfl (v_mv) ?_
          refine q_on rfl (gT h10_15) ?_
          refine q_val rfl (v_sub rfl rfl (wi64 (by omega))) ?_
          refine q_on rfl (gT h10_15) ?_
          refine q_val rfl (v_idxS (j := i - 1) (sz := 6) (len := l.length) (cs := (l.flatMap RepD.cells)) rfl rfl (by kernel_rfl) (fun w' hw' => Own.rd hv hw') (by omega) (by omega)) ?_
          refine q_on rfl (gT h10_15) ?_
          refine q_val rfl (v_fld (o := 0) rfl (by kernel_rfl)) ?_
          refine q_on rfl (gT h10_15) ?_
          refine q_val rfl (v_ldS (v := v) (off := offV v + (i - 1) * 6 + 0) ((i - 1) * 6 + 0) (cs := (l.flatMap RepD.cells)) rfl (by omega) (fun w' hw' => Own.rd hv hw') (flat_at (sz := 6) (fun _ => rfl) (nth_some (by omega)) (i := 0) rfl) (by kernel_rfl)) ?_
          refine q_on rfl (gT h10_15) ?_
          refine q_val rfl (v_leq rfl rfl) ?_
          exact q_nil (fun w' hw => ⟨(by repeat (first | exact Out.refl _ _ | refine Out.upd rfl ?_ | refine Out.msk rfl ?_)), rfl, hw⟩)
        exact q_nil (fun w' hw => ⟨(by repeat (first | exact Out.refl _ _ | refine Out.upd rfl ?_ | refine Out.msk rfl ?_)), rfl, hw⟩)
      refine q_end ?_
      refine c_dec rfl (fun c4 => ?_) (fun c4 => ?_)
      ·
        refine c_reg ?_
        refine l_as rfl ?_
        refine l_end ?_
        exact c_ret (ret1 (v := .int .i64 2) rfl rfl (fun w' hw => ⟨m, kl, 2, rfl, .inr ⟨rfl, fun h => load_bad (by omega) c4 ⟨h.up, h.each⟩, rfl⟩, hw.sel [0, 1] rfl (by decide)⟩))
      ·
        refine c_skipC ?_
        refine c_last ?_
        refine l_mv rfl ?_
        refine l_fld (o := 0) rfl (by kernel_rfl) rfl ?_
        refine l_ldo 3 (v := .int .u64 ((nth l i).session : Nat)) rfl rfl rfl (by kernel_rfl) rfl ?_
        refine l_ldr (cs := (RepD.cells (nth l i))) 3 rfl rfl (by kernel_rfl) rfl ?_
        refine l_mupA 2 (k := (nth l i).session) (v := (nth l i)) keyR mapR rfl rfl rfl rfl ?_
        refine l_end ?_
        refine c_last ?_
        refine l_add rfl rfl (wi64 (by omega)) rfl ?_
        refine l_mv rfl ?_
        exact l_nil (fun w' hw => ⟨i + 1, putA (nth l i).session (nth l i) kn, ⟨rfl, rfl, rfl, rfl, rfl, rfl, trivial⟩, ⟨by omega, load_step hI (by omega) c4, by rw [hkn]; exact load_put hI (by omega) c4⟩, hw.sel [0, 1, 2] rfl (by decide), (by omega)⟩)
    ·
      refine c_exitC rfl ?_
      refine c_reg ?_
      refine l_mv rfl ?_
      refine l_mv rfl ?_
      refine l_nck rfl rfl ?_
      refine l_fld (o := 0) rfl (by kernel_rfl) rfl ?_
      refine l_st (cs := [.map (some m)]) 0 rfl rfl rfl (by kernel_rfl) rfl (Nat.le_of_ble_eq_true rfl) ?_
      refine l_end ?_
      refine c_reg ?_
      refine l_as rfl ?_
      refine l_end ?_
      exact c_ret (ret1 (v := .int .i64 0) rfl rfl (fun w' hw => ⟨m15, kn, 0, rfl, .inl ⟨rfl, by have h := hI; rw [List.take_of_length_le (by omega)] at h; exact ⟨h.1, h.2, by omega⟩, by rw [hkn, List.take_of_length_le (by omega)]⟩, hw.sel [0, 2] rfl (by decide)⟩))
/-- Nothing there: all is refused. -/
theorem dfindN_s (s q : Nat) (w : World) : Rets Try.prog 10 #[.pointer none, .int .u64 (s : Nat), .int .u64 (q : Nat)] w fun u_ w' => u_ = .tuple #[.agg (RepD.cells RepD.zero).toArray, .int .i64 1] ∧ Own w [] [] w' := by
  refine fn_enter (args := [.pointer none, .int .u64 (s : Nat), .int .u64 (q : Nat)]) Try.func10 rfl Try.ntmps10 rfl (Own.start w) ?_
  refine c_reg ?_
  refine l_new (v := .agg #[.int .u64 (0 : Nat), .int .u64 (0 : Nat), .int .i64 0, .int .u64 (0 : Nat), .int .i64 0, .int .i64 0]) (by kernel_rfl) rfl (fun b6 => ?_)
  refine l_as rfl ?_
  refine l_end ?_
  refine c_seq ?_
  refine c_reg ?_
  refine l_mv rfl ?_
  refine l_nilp (by kernel_rfl) rfl rfl rfl ?_
  refine l_mv rfl ?_
  refine l_off rfl rfl rfl rfl ?_
  refine l_off rfl rfl rfl rfl ?_
  refine l_pickT rfl rfl ?_
  refine l_mv rfl ?_
  refine l_off rfl rfl rfl rfl ?_
  refine l_off rfl rfl rfl rfl ?_
  refine l_pickT rfl rfl ?_
  refine l_end ?_
  refine c_yes rfl ?_
  refine c_reg ?_
  refine l_bld (cs := [.int .u64 (0 : Nat), .int .u64 (0 : Nat), .int .i64 0, .int .u64 (0 : Nat), .int .i64 0, .int .i64 0]) (z := [.int .u64 (0 : Nat), .int .u64 (0 : Nat), .int .i64 0, .int .u64 (0 : Nat), .int .i64 0, .int .i64 0]) (pl := [(0, 1), (1, 1), (2, 1), (3, 1), (4, 1), (5, 1)]) (by kernel_rfl) (by kernel_rfl) rfl ?_
  refine l_stN (cs := [.int .u64 (0 : Nat), .int .u64 (0 : Nat), .int .i64 0, .int .u64 (0 : Nat), .int .i64 0, .int .i64 0]) (vs := [.int .u64 (0 : Nat), .int .u64 (0 : Nat), .int .i64 0, .int .u64 (0 : Nat), .int .i64 0, .int .i64 0]) 0 rfl rfl rfl (by kernel_rfl) (allc_cons rfl (allc_cons rfl (allc_cons rfl (allc_cons rfl (allc_cons rfl (allc_cons rfl allc_nil)))))) (Nat.le_of_ble_eq_true rfl) ?_
  refine l_as rfl ?_
  refine l_end ?_
  exact c_ret (retc2 (cs := [.int .u64 (0 : Nat), .int .u64 (0 : Nat), .int .i64 0, .int .u64 (0 : Nat), .int .i64 0, .int .i64 0]) (v := .int .i64 1) rfl rfl rfl (by kernel_rfl) (Own.rowCells (i := 0) rfl) (fun w' hw => ⟨rfl, hw.drop⟩))
theorem ddoneN_s (r : RepD) (w : World) : Rets Try.prog 9 #[.pointer none, .agg (RepD.cells r).toArray] w fun u_ w' => u_ = .int .i64 1 ∧ Own w [] [] w' := by
  refine fn_enter (args := [.pointer none, .agg (RepD.cells r).toArray]) Try.func9 rfl Try.ntmps9 rfl (Own.start w) ?_
  refine c_reg ?_
  refine l_box rfl rfl (fun b3 => ?_)
  refine l_as rfl ?_
  refine l_end ?_
  refine c_seq ?_
  refine c_reg ?_
  refine l_mv rfl ?_
  refine l_nilp (by kernel_rfl) rfl rfl rfl ?_
  refine l_end ?_
  refine c_yes rfl ?_
  refine c_reg ?_
  refine l_as rfl ?_
  refine l_end ?_
  exact c_ret (ret1 (v := .int .i64 1) rfl rfl (fun w' hw => ⟨rfl, hw.drop⟩))
theorem dloadN_s (v : Value) (w : World) : Rets Try.prog 15 #[.pointer none, v] w fun u_ w' => u_ = .int .i64 1 ∧ Own w [] [] w' := by
  refine fn_enter (args := [.pointer none, v]) Try.func15 rfl Try.ntmps15 rfl (Own.start w) ?_
  refine c_reg ?_
  refine l_as rfl ?_
  refine l_end ?_
  refine c_seq ?_
  refine c_reg ?_
  refine l_mv rfl ?_
  refine l_nilp (by kernel_rfl) rfl rfl rfl ?_
  refine l_end ?_
  refine c_yes rfl ?_
  refine c_reg ?_
  refine l_as rfl ?_
  refine l_end ?_
  exact c_ret (ret1 (v := .int .i64 1) rfl rfl (fun w' hw => ⟨rfl, hw.drop⟩))
theorem dallN_s (w : World) : Rets Try.prog 12 #[.pointer none] w fun u_ w' => u_ = .slice none 0 0 ∧ Own w [] [] w' := by
  refine fn_enter (args := [.pointer none]) Try.func12 rfl Try.ntmps12 rfl (Own.start w) ?_
  refine c_reg ?_
  refine l_as rfl ?_
  refine l_end ?_
  refine c_seq ?_
  refine c_reg ?_
  refine l_mv rfl ?_
  refine l_nilp (by kernel_rfl) rfl rfl rfl ?_
  refine l_end ?_
  refine c_yes rfl ?_
  refine c_reg ?_
  refine l_as rfl ?_
  refine l_end ?_
  exact c_ret (ret1 (v := .slice none 0 0) rfl rfl (fun w' hw => ⟨rfl, hw.drop⟩))
theorem dcopyN_s (w : World) : Rets Try.prog 14 #[.pointer none] w fun u_ w' => u_ = .pointer none ∧ Own w [] [] w' := by
  refine fn_enter (args := [.pointer none]) Try.func14 rfl Try.ntmps14 rfl (Own.start w) ?_
  refine c_reg ?_
  refine l_as rfl ?_
  refine l_end ?_
  refine c_seq ?_
  refine c_reg ?_
  refine l_mv rfl ?_
  refine l_nilp (by kernel_rfl) rfl rfl rfl ?_
  refine l_end ?_
  refine c_yes rfl ?_
  refine c_reg ?_
  refine l_as rfl ?_
  refine l_end ?_
  exact c_ret (ret1 (v := .pointer none) rfl rfl (fun w' hw => ⟨rfl, hw.drop⟩))
end Go.Proofs.Ytjnnobekbgpaaaa
