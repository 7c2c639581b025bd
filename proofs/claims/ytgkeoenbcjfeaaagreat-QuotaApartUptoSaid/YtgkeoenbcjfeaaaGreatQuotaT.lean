/-
  A TABLE's BUDGETS AND LEASES, told; a table copied and loaded.
-/
import Derived.Test.YtgkeoenbcjfeaaaGreatQuotaS
import Derived.Test.YtgkeoenbcjfeaaaGreatQuotaB
set_option linter.unusedVariables false
set_option maxRecDepth 10000
namespace Go.Proofs.YtgkeoenbcjfeaaaGreat
open Go Go.Sc Go.Proofs

theorem last_s (b bm lm : Nat) (now : Int) (cnt : Nat) (w : World) (hin : Own w (fps [Res.row b 58 [.map (some bm), .map (some lm), .int .i64 now, .int .u64 (cnt : Nat)]]) [Res.row b 58 [.map (some bm), .map (some lm), .int .i64 now, .int .u64 (cnt : Nat)]] w) : Rets Tryz.prog 10 #[.pointer (some ⟨b, 0, none⟩)] w fun u_ w' => u_ = .int .u64 (cnt : Nat) ∧ Own w (fps [Res.row b 58 [.map (some bm), .map (some lm), .int .i64 now, .int .u64 (cnt : Nat)]]) [Res.row b 58 [.map (some bm), .map (some lm), .int .i64 now, .int .u64 (cnt : Nat)]] w' := by
  refine fn_enter (args := [.pointer (some ⟨b, 0, none⟩)]) Tryz.func10 rfl Tryz.ntmps10 rfl (show Own w (fps [Res.row b 58 [.map (some bm), .map (some lm), .int .i64 now, .int .u64 (cnt : Nat)]]) [Res.row b 58 [.map (some bm), .map (some lm), .int .i64 now, .int .u64 (cnt : Nat)]] w from hin) ?_
  refine c_reg ?_
  refine l_as rfl ?_
  refine l_end ?_
  refine c_seq ?_
  refine c_reg ?_
  refine l_mv rfl ?_
  refine l_nilp (by kernel_rfl) rfl rfl rfl ?_
  refine l_end ?_
  refine c_no rfl ?_
  refine c_skipC ?_
  refine c_reg ?_
  refine l_mv rfl ?_
  refine l_nck rfl rfl ?_
  refine l_fld (o := 3) rfl (by kernel_rfl) rfl ?_
  refine l_ldo 0 (v := .int .u64 (cnt : Nat)) rfl rfl rfl (by kernel_rfl) rfl ?_
  refine l_as rfl ?_
  refine l_end ?_
  exact c_ret (ret1 (v := .int .u64 (cnt : Nat)) rfl rfl (fun w' hw => ⟨rfl, hw⟩))
theorem leases_s (b bm lm : Nat) (now : Int) (cnt : Nat) (kl : List (Nat × LeaD)) (w : World) (hl : kl.length ≤ 1000000) (hin : Own w (fps [Res.row b 58 [.map (some bm), .map (some lm), .int .i64 now, .int .u64 (cnt : Nat)], Res.mp ekU leaV lm kl]) [Res.row b 58 [.map (some bm), .map (some lm), .int .i64 now, .int .u64 (cnt : Nat)], Res.mp ekU leaV lm kl] w) : Rets Tryz.prog 12 #[.pointer (some ⟨b, 0, none⟩)] w fun u_ w' => ∃ (v : Value) (l : List LeaD), u_ = v ∧ l.Perm (kl.map (·.2)) ∧ l.Pairwise (fun x y => ole x y) ∧ Own w (fps [Res.row b 58 [.map (some bm), .map (some lm), .int .i64 now, .int .u64 (cnt : Nat)], Res.mp ekU leaV lm kl]) [Res.row b 58 [.map (some bm), .map (some lm), .int .i64 now, .int .u64 (cnt : Nat)], Res.mp ekU leaV lm kl, Res.vec 49 5 v l.length (l.flatMap LeaD.cells)] w' := by
  refine fn_enter (args := [.pointer (some ⟨b, 0, none⟩)]) Tryz.func12 rfl Tryz.ntmps12 rfl (show Own w (fps [Res.row b 58 [.map (some bm), .map (some lm), .int .i64 now, .int .u64 (cnt : Nat)], Res.mp ekU leaV lm kl]) [Res.row b 58 [.map (some bm), .map (some lm), .int .i64 now, .int .u64 (cnt : Nat)], Res.mp ekU leaV lm kl] w from hin) ?_
  refine c_reg ?_
  refine l_as rfl ?_
  refine l_end ?_
  refine c_seq ?_
  refine c_reg ?_
  refine l_mv rfl ?_
  refine l_nilp (by kernel_rfl) rfl rfl rfl ?_
  refine l_end ?_
  refine c_no rfl ?_
  refine c_skipC ?_
  refine c_reg ?_
  refine l_mv rfl ?_
  refine l_nck rfl rfl ?_
  refine l_fld (o := 1) rfl (by kernel_rfl) rfl ?_
  refine l_ldo 0 (v := .map (some lm)) rfl rfl rfl (by kernel_rfl) rfl ?_
  refine l_call (by kernel_rfl) rfl rfl (fun w' hw => ?_)
  refine (qvals_s lm kl w' (hw.give [1] rfl (by decide))).mono ?_
  rintro _ w1 ⟨b1_, rfl, hO⟩
  refine (?_ : CL _ _ _ _ _ _ (Own w (fps [Res.row b 58 [.map (some bm), .map (some lm), .int .i64 now, .int .u64 (cnt : Nat)], Res.mp ekU leaV lm kl]) [Res.row b 58 [.map (some bm), .map (some lm), .int .i64 now, .int .u64 (cnt : Nat)], Res.mp ekU leaV lm kl, Res.row b1_ 56 [.map (some lm)]])) w1 (hw.frameL [1] rfl hO)
  refine l_call (by kernel_rfl) rfl rfl (fun w' hw => ?_)
  refine (sortedf_vl b1_ lm kl w' (by first | assumption | omega | (simp <;> omega) | (constructor <;> (first | omega | (simp only [LenOk]; omega) | (simp <;> omega)))) (hw.give [2, 1] rfl (by decide))).mono ?_
  rintro v'2_ w1 ⟨_, l'3_, rfl, hf3_5, hf3_5_1, hO⟩
  refine (?_ : CL _ _ _ _ _ _ (Own w (fps [Res.row b 58 [.map (some bm), .map (some lm), .int .i64 now, .int .u64 (cnt : Nat)], Res.mp ekU leaV lm kl]) [Res.row b 58 [.map (some bm), .map (some lm), .int .i64 now, .int .u64 (cnt : Nat)], Res.row b1_ 56 [.map (some lm)], Res.mp ekU leaV lm kl, Res.vec 49 5 v'2_ l'3_.length (l'3_.flatMap LeaD.cells)])) w1 (hw.frameL [2, 1] rfl hO)
  refine l_as rfl ?_
  refine l_end ?_
  exact c_ret (ret1 (v := v'2_) rfl rfl (fun w' hw => ⟨v'2_, l'3_, rfl, hf3_5, hf3_5_1, hw.sel [0, 2, 3] rfl (by decide)⟩))
theorem budgets_s (b bm lm : Nat) (now : Int) (cnt : Nat) (kb : List (ByteArray × Int)) (w : World) (hl : kb.length ≤ 1000000) (hin : Own w (fps [Res.row b 58 [.map (some bm), .map (some lm), .int .i64 now, .int .u64 (cnt : Nat)], Res.mp Value.string ekI bm kb]) [Res.row b 58 [.map (some bm), .map (some lm), .int .i64 now, .int .u64 (cnt : Nat)], Res.mp Value.string ekI bm kb] w) : Rets Tryz.prog 11 #[.pointer (some ⟨b, 0, none⟩)] w fun u_ w' => ∃ (v : Value) (l : List BudD) (ks : List ByteArray), u_ = v ∧ ks.Perm (kb.map (·.1)) ∧ ks.Pairwise (fun x y => ole x y) ∧ l = ks.map (fun k => (⟨k, (getA k kb).getD 0⟩ : BudD)) ∧ Own w (fps [Res.row b 58 [.map (some bm), .map (some lm), .int .i64 now, .int .u64 (cnt : Nat)], Res.mp Value.string ekI bm kb]) [Res.row b 58 [.map (some bm), .map (some lm), .int .i64 now, .int .u64 (cnt : Nat)], Res.mp Value.string ekI bm kb, Res.vec 62 2 v l.length (l.flatMap BudD.cells)] w' := by
  refine fn_enter (args := [.pointer (some ⟨b, 0, none⟩)]) Tryz.func11 rfl Tryz.ntmps11 rfl (show Own w (fps [Res.row b 58 [.map (some bm), .map (some lm), .int .i64 now, .int .u64 (cnt : Nat)], Res.mp Value.string ekI bm kb]) [Res.row b 58 [.map (some bm), .map (some lm), .int .i64 now, .int .u64 (cnt : Nat)], Res.mp Value.string ekI bm kb] w from hin) ?_
  refine c_reg ?_
  refine l_as rfl ?_
  refine l_end ?_
  refine c_seq ?_
  refine c_reg ?_
  refine l_mv rfl ?_
  refine l_nilp (by kernel_rfl) rfl rfl rfl ?_
  refine l_end ?_
  refine c_no rfl ?_
  refine c_skipC ?_
  refine c_reg ?_
  refine l_as rfl ?_
  refine l_end ?_
  refine c_seq ?_
  refine c_reg ?_
  refine l_mv rfl ?_
  refine l_nck rfl rfl ?_
  refine l_fld (o := 0) rfl (by kernel_rfl) rfl ?_
  refine l_ldo 0 (v := .map (some bm)) rfl rfl rfl (by kernel_rfl) rfl ?_
  refine l_call (by kernel_rfl) rfl rfl (fun w' hw => ?_)
  refine (qkeys_s bm kb w' (hw.give [1] rfl (by decide))).mono ?_
  rintro _ w1 ⟨b1_, rfl, hO⟩
  refine (?_ : CL _ _ _ _ _ _ (Own w (fps [Res.row b 58 [.map (some bm), .map (some lm), .int .i64 now, .int .u64 (cnt : Nat)], Res.mp Value.string ekI bm kb]) [Res.row b 58 [.map (some bm), .map (some lm), .int .i64 now, .int .u64 (cnt : Nat)], Res.mp Value.string ekI bm kb, Res.row b1_ 55 [.map (some bm)]])) w1 (hw.frameL [1] rfl hO)
  refine l_call (by kernel_rfl) rfl rfl (fun w' hw => ?_)
  refine (sorted_ks b1_ bm kb w' (by first | assumption | omega | (simp <;> omega) | (constructor <;> (first | omega | (simp only [LenOk]; omega) | (simp <;> omega)))) (hw.give [2, 1] rfl (by decide))).mono ?_
  rintro v'2_ w1 ⟨_, l'3_, rfl, hf4_5, hf4_5_1, hO⟩
  refine (?_ : CL _ _ _ _ _ _ (Own w (fps [Res.row b 58 [.map (some bm), .map (some lm), .int .i64 now, .int .u64 (cnt : Nat)], Res.mp Value.string ekI bm kb]) [Res.row b 58 [.map (some bm), .map (some lm), .int .i64 now, .int .u64 (cnt : Nat)], Res.row b1_ 55 [.map (some bm)], Res.mp Value.string ekI bm kb, Res.vec 9 1 v'2_ l'3_.length (l'3_.flatMap S1)])) w1 (hw.frameL [2, 1] rfl hO)
  refine l_lenS (len := l'3_.length) (cs := (l'3_.flatMap S1)) (by kernel_rfl) rfl (fun w' hw' => Vec.sl (Own.holds hw' 3 _ rfl)) rfl ?_
  refine l_mv rfl ?_
  refine l_end ?_
  refine c_block ?_
  refine c_loop3 (fun (i : Nat) (v : Value) (l : List BudD) => [(0, .pointer (some ⟨b, 0, none⟩)), (3, v), (13, v'2_), (14, .int .i64 (l'3_.length : Nat)), (15, .int .i64 (i : Nat))]) (fun (i : Nat) (v : Value) (l : List BudD) => i ≤ l'3_.length ∧ l = (l'3_.take i).map (fun k => (⟨k, (getA k kb).getD 0⟩ : BudD))) (fun (i : Nat) (v : Value) (l : List BudD) => [Res.row b 58 [.map (some bm), .map (some lm), .int .i64 now, .int .u64 (cnt : Nat)], Res.row b1_ 55 [.map (some bm)], Res.mp Value.string ekI bm kb, Res.vec 9 1 v'2_ l'3_.length (l'3_.flatMap S1), Res.vec 62 2 v l.length (l.flatMap BudD.cells)]) (fun (i : Nat) (v : Value) (l : List BudD) => l'3_.length - i) (fun w' hw => ⟨0, .slice none 0 0, [], ⟨rfl, rfl, rfl, rfl, rfl, trivial⟩, ⟨Nat.zero_le _, rfl⟩, (own_nil hw 62 2)⟩) (fun i v l g hΦ => ?_)
  have hi := hΦ.1
  have hlI := hΦ.2
  have hkl : l'3_.length = kb.length := by rw [hf4_5.length_eq, List.length_map]
  have hll : l.length ≤ 1000000 := by rw [hlI, List.length_map, List.length_take]; omega
  refine c_reg ?_
  refine l_lss rfl rfl rfl ?_
  refine l_end ?_
  refine c_seq ?_
  refine c_dec rfl (fun c2 => ?_) (fun c2 => ?_)
  ·
    refine c_skipC ?_
    refine c_seq ?_
    refine c_block ?_
    refine c_reg ?_
    refine l_idxS (j := i) (sz := 1) (len := l'3_.length) (cs := (l'3_.flatMap S1)) rfl rfl (by kernel_rfl) (fun w' hw' => Vec.sl (Own.holds hw' 3 _ rfl)) rfl (by omega) rfl ?_
    refine l_ldS (v := v'2_) (off := offV v'2_ + i * 1) (i * 1 + 0) (cs := (l'3_.flatMap S1)) rfl (by omega) (fun w' hw' => Vec.sl (Own.holds hw' 3 _ rfl)) (flat_at (sz := 1) (fun _ => rfl) (nth_some (by omega)) (i := 0) rfl) (by kernel_rfl) rfl ?_
    refine l_as rfl ?_
    refine l_end ?_
    refine c_last ?_
    refine l_mv rfl ?_
    refine l_mv rfl ?_
    refine l_mv rfl ?_
    refine l_nck rfl rfl ?_
    refine l_fld (o := 0) rfl (by kernel_rfl) rfl ?_
    refine l_ldo 0 (v := .map (some bm)) rfl rfl rfl (by kernel_rfl) rfl ?_
    refine l_mv rfl ?_
    refine l_lkA (k := (nth l'3_ i)) (kv := kb) (zv := 0) keyB mapB zeroB rfl rfl (fun w' hw' => Own.holds hw' 2 _ rfl) rfl ?_
    refine l_bld (cs := [.string (nth l'3_ i), .int .i64 ((getA (nth l'3_ i) kb).getD 0)]) (z := [.string (⟨#[]⟩ : ByteArray), .int .i64 0]) (pl := [(0, 1), (1, 1)]) (by kernel_rfl) (by kernel_rfl) rfl ?_
    refine l_bsl (e := 62) (sz := 2) (vs := [.agg #[.string (nth l'3_ i), .int .i64 ((getA (nth l'3_ i) kb).getD 0)]]) (by kernel_rfl) rfl rfl (by simp [Value.cells, BudD.cells]) (by decide) rfl (fun b28 => ?_)
    refine l_appF (g := BudD.cells) (sz := 2) (by' := 24) (fun _ => rfl) (l := l) (l' := [({ key := (nth l'3_ i), amount := ((getA (nth l'3_ i) kb).getD 0) } : BudD)]) (by simp [cell1, BudD.cells, vu]) 4 (by kernel_rfl) rfl rfl rfl (fun w' hw' => Vec.sl (Own.holds hw' 5 _ rfl)) (by first | omega | (simp; omega)) (by decide) rfl (fun v29 => ?_)
    refine l_as rfl ?_
    refine l_end ?_
    refine c_last ?_
    refine l_add rfl rfl (wi64 (by omega)) rfl ?_
    refine l_mv rfl ?_
    exact l_nil (fun w' hw => ⟨i + 1, v29, l ++ [⟨nth l'3_ i, (getA (nth l'3_ i) kb).getD 0⟩], ⟨rfl, rfl, rfl, rfl, rfl, trivial⟩, ⟨by omega, by rw [hlI, take_nth (by omega), List.map_append]; rfl⟩, hw.sel [0, 1, 2, 3, 4] rfl (by decide), (by omega)⟩)
  ·
    refine c_exitC rfl ?_
    refine c_reg ?_
    refine l_mv rfl ?_
    refine l_as rfl ?_
    refine l_end ?_
    exact c_ret (ret1 (v := v) rfl rfl (fun w' hw => ⟨v, l, l'3_, rfl, hf4_5, hf4_5_1, (by rw [hlI, List.take_of_length_le (by omega)]), hw.sel [0, 2, 4] rfl (by decide)⟩))
theorem cloneB_s (m : Nat) (kb : List (ByteArray × Int)) (w : World) (hin : Own w (fps [Res.mp Value.string ekI m kb]) [Res.mp Value.string ekI m kb] w) : Rets Tryz.prog 20 #[.map (some m)] w fun u_ w' => ∃ (m' : Nat), u_ = .map (some m') ∧ Own w (fps [Res.mp Value.string ekI m kb]) [Res.mp Value.string ekI m kb, Res.mp Value.string ekI m' kb] w' := by
  refine fn_enter (args := [.map (some m)]) Tryz.func20 rfl Tryz.ntmps20 rfl (show Own w (fps [Res.mp Value.string ekI m kb]) [Res.mp Value.string ekI m kb] w from hin) ?_
  refine c_reg ?_
  refine l_as rfl ?_
  refine l_end ?_
  refine c_seq ?_
  refine c_reg ?_
  refine l_mv rfl ?_
  refine l_nilm (by kernel_rfl) rfl rfl rfl ?_
  refine l_end ?_
  refine c_no rfl ?_
  refine c_skipC ?_
  refine c_reg ?_
  refine l_mv rfl ?_
  refine l_mkif (by kernel_rfl) rfl rfl ?_
  refine l_mcloneA 0 (ke := Value.string) (ve := ekI) (kv := kb) Tryz.func45 (by kernel_rfl) (by kernel_rfl) (by kernel_rfl) (by kernel_rfl) rfl rfl rfl (fun m7 => ?_)
  refine l_tas (by kernel_rfl) rfl rfl ?_
  refine l_as rfl ?_
  refine l_end ?_
  exact c_ret (ret1 (v := .map (some m7)) rfl rfl (fun w' hw => ⟨m7, rfl, hw⟩))
theorem cloneL_s (m : Nat) (kl : List (Nat × LeaD)) (w : World) (hin : Own w (fps [Res.mp ekU leaV m kl]) [Res.mp ekU leaV m kl] w) : Rets Tryz.prog 21 #[.map (some m)] w fun u_ w' => ∃ (m' : Nat), u_ = .map (some m') ∧ Own w (fps [Res.mp ekU leaV m kl]) [Res.mp ekU leaV m kl, Res.mp ekU leaV m' kl] w' := by
  refine fn_enter (args := [.map (some m)]) Tryz.func21 rfl Tryz.ntmps21 rfl (show Own w (fps [Res.mp ekU leaV m kl]) [Res.mp ekU leaV m kl] w from hin) ?_
  refine c_reg ?_
  refine l_as rfl ?_
  refine l_end ?_
  refine c_seq ?_
  refine c_reg ?_
  refine l_mv rfl ?_
  refine l_nilm (by kernel_rfl) rfl rfl rfl ?_
  refine l_end ?_
  refine c_no rfl ?_
  refine c_skipC ?_
  refine c_reg ?_
  refine l_mv rfl ?_
  refine l_mkif (by kernel_rfl) rfl rfl ?_
  refine l_mcloneA 0 (ke := ekU) (ve := leaV) (kv := kl) Tryz.func45 (by kernel_rfl) (by kernel_rfl) (by kernel_rfl) (by kernel_rfl) rfl rfl rfl (fun m7 => ?_)
  refine l_tas (by kernel_rfl) rfl rfl ?_
  refine l_as rfl ?_
  refine l_end ?_
  exact c_ret (ret1 (v := .map (some m7)) rfl rfl (fun w' hw => ⟨m7, rfl, hw⟩))
theorem copy_s (b bm lm : Nat) (now : Int) (cnt : Nat) (kb : List (ByteArray × Int)) (kl : List (Nat × LeaD)) (w : World) (hin : Own w (fps [Res.row b 58 [.map (some bm), .map (some lm), .int .i64 now, .int .u64 (cnt : Nat)], Res.mp Value.string ekI bm kb, Res.mp ekU leaV lm kl]) [Res.row b 58 [.map (some bm), .map (some lm), .int .i64 now, .int .u64 (cnt : Nat)], Res.mp Value.string ekI bm kb, Res.mp ekU leaV lm kl] w) : Rets Tryz.prog 7 #[.pointer (some ⟨b, 0, none⟩)] w fun u_ w' => ∃ (b' bm' lm' : Nat), u_ = .pointer (some ⟨b', 0, none⟩) ∧ Own w (fps [Res.row b 58 [.map (some bm), .map (some lm), .int .i64 now, .int .u64 (cnt : Nat)], Res.mp Value.string ekI bm kb, Res.mp ekU leaV lm kl]) [Res.row b 58 [.map (some bm), .map (some lm), .int .i64 now, .int .u64 (cnt : Nat)], Res.mp Value.string ekI bm kb, Res.mp ekU leaV lm kl, Res.row b' 58 [.map (some bm'), .map (some lm'), .int .i64 now, .int .u64 (cnt : Nat)], Res.mp Value.string ekI bm' kb, Res.mp ekU leaV lm' kl] w' := by
  refine fn_enter (args := [.pointer (some ⟨b, 0, none⟩)]) Tryz.func7 rfl Tryz.ntmps7 rfl (show Own w (fps [Res.row b 58 [.map (some bm), .map (some lm), .int .i64 now, .int .u64 (cnt : Nat)], Res.mp Value.string ekI bm kb, Res.mp ekU leaV lm kl]) [Res.row b 58 [.map (some bm), .map (some lm), .int .i64 now, .int .u64 (cnt : Nat)], Res.mp Value.string ekI bm kb, Res.mp ekU leaV lm kl] w from hin) ?_
  refine c_reg ?_
  refine l_as rfl ?_
  refine l_end ?_
  refine c_seq ?_
  refine c_reg ?_
  refine l_mv rfl ?_
  refine l_nilp (by kernel_rfl) rfl rfl rfl ?_
  refine l_end ?_
  refine c_no rfl ?_
  refine c_skipC ?_
  refine c_seq ?_
  refine c_heldo [0] rfl (by decide) (by kernel_rfl) (fun w' hw hS => ?_)
  refine h_take 0 rfl (by kernel_rfl) (by kernel_rfl) (by kernel_rfl) (v_mv) rfl hS ?_
  refine h_take 1 rfl (by kernel_rfl) (by kernel_rfl) (by kernel_rfl) (v_nck rfl) rfl hS ?_
  refine h_take 2 rfl (by kernel_rfl) (by kernel_rfl) (by kernel_rfl) (v_fld (o := 0) rfl (by kernel_rfl)) rfl hS ?_
  refine h_take 3 rfl (by kernel_rfl) (by kernel_rfl) (by kernel_rfl) (v_ldo 0 (v := .map (some bm)) rfl rfl rfl (by kernel_rfl)) rfl hS ?_
  refine h_take 5 rfl (by kernel_rfl) (by kernel_rfl) (by kernel_rfl) (v_mv) rfl hS ?_
  refine h_take 6 rfl (by kernel_rfl) (by kernel_rfl) (by kernel_rfl) (v_nck rfl) rfl hS ?_
  refine h_take 7 rfl (by kernel_rfl) (by kernel_rfl) (by kernel_rfl) (v_fld (o := 1) rfl (by kernel_rfl)) rfl hS ?_
  refine h_take 8 rfl (by kernel_rfl) (by kernel_rfl) (by kernel_rfl) (v_ldo 0 (v := .map (some lm)) rfl rfl rfl (by kernel_rfl)) rfl hS ?_
  refine h_take 10 rfl (by kernel_rfl) (by kernel_rfl) (by kernel_rfl) (v_mv) rfl hS ?_
  refine h_take 11 rfl (by kernel_rfl) (by kernel_rfl) (by kernel_rfl) (v_nck rfl) rfl hS ?_
  refine h_take 12 rfl (by kernel_rfl) (by kernel_rfl) (by kernel_rfl) (v_fld (o := 2) rfl (by kernel_rfl)) rfl hS ?_
  refine h_take 13 rfl (by kernel_rfl) (by kernel_rfl) (by kernel_rfl) (v_ldo 0 (v := .int .i64 now) rfl rfl rfl (by kernel_rfl)) rfl hS ?_
  refine h_take 14 rfl (by kernel_rfl) (by kernel_rfl) (by kernel_rfl) (v_mv) rfl hS ?_
  refine h_take 15 rfl (by kernel_rfl) (by kernel_rfl) (by kernel_rfl) (v_nck rfl) rfl hS ?_
  refine h_take 16 rfl (by kernel_rfl) (by kernel_rfl) (by kernel_rfl) (v_fld (o := 3) rfl (by kernel_rfl)) rfl hS ?_
  refine h_take 17 rfl (by kernel_rfl) (by kernel_rfl) (by kernel_rfl) (v_ldo 0 (v := .int .u64 (cnt : Nat)) rfl rfl rfl (by kernel_rfl)) rfl hS ?_
  refine h_one 4 (by kernel_rfl) rfl hw ?_
  refine l_call (by kernel_rfl) rfl rfl (fun w' hw => ?_)
  refine (cloneB_s bm kb w' (hw.give [1] rfl (by decide))).mono ?_
  rintro _ w1 ⟨m'1_, rfl, hO⟩
  refine (?_ : CL _ _ _ _ _ _ (Own w (fps [Res.row b 58 [.map (some bm), .map (some lm), .int .i64 now, .int .u64 (cnt : Nat)], Res.mp Value.string ekI bm kb, Res.mp ekU leaV lm kl]) [Res.row b 58 [.map (some bm), .map (some lm), .int .i64 now, .int .u64 (cnt : Nat)], Res.mp ekU leaV lm kl, Res.mp Value.string ekI bm kb, Res.mp Value.string ekI m'1_ kb])) w1 (hw.frameL [1] rfl hO)
  refine l_nil (fun w' hw => ?_)
  have hS := hw.sel [0] rfl (by decide)
  refine ⟨hS, ?_⟩
  refine h_one 9 (by kernel_rfl) rfl hw ?_
  refine l_call (by kernel_rfl) rfl rfl (fun w' hw => ?_)
  refine (cloneL_s lm kl w' (hw.give [1] rfl (by decide))).mono ?_
  rintro _ w1 ⟨m'2_, rfl, hO⟩
  refine (?_ : CL _ _ _ _ _ _ (Own w (fps [Res.row b 58 [.map (some bm), .map (some lm), .int .i64 now, .int .u64 (cnt : Nat)], Res.mp Value.string ekI bm kb, Res.mp ekU leaV lm kl]) [Res.row b 58 [.map (some bm), .map (some lm), .int .i64 now, .int .u64 (cnt : Nat)], Res.mp Value.string ekI bm kb, Res.mp Value.string ekI m'1_ kb, Res.mp ekU leaV lm kl, Res.mp ekU leaV m'2_ kl])) w1 (hw.frameL [1] rfl hO)
  refine l_nil (fun w' hw => ?_)
  have hS := hw.sel [0] rfl (by decide)
  refine ⟨hS, ?_⟩
  refine h_take 18 rfl (by kernel_rfl) (by kernel_rfl) (by kernel_rfl) (v_bld (cs := [.map (some m'1_), .map (some m'2_), .int .i64 now, .int .u64 (cnt : Nat)]) (z := [.map none, .map none, .int .i64 0, .int .u64 (0 : Nat)]) (pl := [(0, 1), (1, 1), (2, 1), (3, 1)]) (by kernel_rfl) (by kernel_rfl)) rfl hS ?_
  refine h_one 19 (by kernel_rfl) rfl hw ?_
  refine l_box rfl rfl (fun b24 => ?_)
  refine l_nil (fun w' hw => ?_)
  have hS := hw.sel [0] rfl (by decide)
  refine ⟨hS, ?_⟩
  refine h_take 20 rfl (by kernel_rfl) (by kernel_rfl) (by kernel_rfl) (v_as) rfl hS ?_
  refine h_done (by kernel_rfl) ?_
  refine (?_ : C _ _ _ _ _ _ _ (Own w (fps [Res.row b 58 [.map (some bm), .map (some lm), .int .i64 now, .int .u64 (cnt : Nat)], Res.mp Value.string ekI bm kb, Res.mp ekU leaV lm kl]) [Res.row b 58 [.map (some bm), .map (some lm), .int .i64 now, .int .u64 (cnt : Nat)], Res.mp Value.string ekI bm kb, Res.mp Value.string ekI m'1_ kb, Res.mp ekU leaV lm kl, Res.mp ekU leaV m'2_ kl, Res.row b24 58 [.map (some m'1_), .map (some m'2_), .int .i64 now, .int .u64 (cnt : Nat)]])) _ hw
  exact c_ret (ret1 (v := .pointer (some ⟨b24, 0, none⟩)) rfl rfl (fun w' hw => ⟨b24, m'1_, m'2_, rfl, hw.sel [0, 1, 3, 5, 2, 4] rfl (by decide)⟩))
theorem leas_eq {now : Int} {cnt : Nat} {bs : List BudD} {ls l : List LeaD} {kb : List (ByteArray × Int)} {kl : List (Nat × LeaD)} (h : QOk now cnt bs ls) (r : QRel kb kl bs ls) (h1 : l.Perm (kl.map (·.2))) (h2 : l.Pairwise fun x y => ole x y) : l = ls := by
  have hp : l.Perm ls := h1.trans ((r.l.map _).trans (by rw [KL_val]))
  refine hp.eq_of_pairwise (fun a b ha hb h3 h4 => ?_) h2 ((List.pairwise_map.1 h.lup).imp fun q => ?_)
  · have e1 : ¬ b.id < a.id := fun q => h3 (olt_lea.2 q)
    have e2 : ¬ a.id < b.id := fun q => h4 (olt_lea.2 q)
    exact h.uniq (hp.mem_iff.1 ha) hb (by omega)
  · exact fun k => by have := olt_lea.1 k; omega
theorem BudDEq (r s : BudD) : eqL [(0, some none), (1, some (some .i64))] r.cells s.cells = decide (r = s) := by
  obtain ⟨a, b⟩ := r
  obtain ⟨a', b'⟩ := s
  simp [eqL, BudD.cells, eqC, BudD.mk.injEq, Bool.decide_and]
theorem sameBudgets_s (v : Value) (l : List BudD) (u : Value) (m : List BudD) (w : World) (hl : l.length ≤ 2000000) (hm : m.length ≤ 2000000) (hv : Rd w [] (Res.sl v l.length (l.flatMap BudD.cells))) (hu : Rd w [] (Res.sl u m.length (m.flatMap BudD.cells))) : Rets Tryz.prog 40 #[v, u] w fun u_ w' => u_ = .bool (decide (l = m)) ∧ Own w [] [] w' := by
  refine fn_enter (args := [v, u]) Tryz.func40 rfl Tryz.ntmps40 rfl (Own.start w) ?_
  refine c_reg ?_
  refine l_as rfl ?_
  refine l_end ?_
  refine c_seq ?_
  refine c_reg ?_
  refine l_as rfl ?_
  refine l_end ?_
  refine c_block ?_
  refine c_loop1 (fun (k : Nat) => [(0, v), (1, u), (5, .int .i64 (k : Nat))]) (fun (k : Nat) => (k ≤ l.length ∧ k ≤ m.length) ∧ l.take k = m.take k) (fun (k : Nat) => []) (fun (k : Nat) => l.length - k) (fun w' hw => ⟨0, ⟨rfl, rfl, rfl, trivial⟩, ⟨by omega, rfl⟩, hw⟩) (fun k g hΦ => ?_)
  have hk1 := hΦ.1
  have hk2 := hΦ.2
  refine c_seq ?_
  refine c_reg ?_
  refine l_mv rfl ?_
  refine l_mv rfl ?_
  refine l_lenS (len := l.length) (cs := (l.flatMap BudD.cells)) (by kernel_rfl) rfl (fun w' hw' => Own.rd hv hw') rfl ?_
  refine l_lss rfl rfl rfl ?_
  refine l_mv rfl ?_
  refine l_band (q := ((k : Nat) : Int) < ((l.length : Nat) : Int)) 4 4 [14, 13, 12, 11] (((k : Nat) : Int) < ((m.length : Nat) : Int)) rfl rfl rfl rfl rfl rfl trivial rfl (fun h2_4 => ?_) (fun g2_9 => ?_)
  ·
    refine l_on rfl (gT h2_4) ?_
    refine l_mv rfl ?_
    refine l_on rfl (gT h2_4) ?_
    refine l_mv rfl ?_
    refine l_on rfl (gT h2_4) ?_
    refine l_lenS (len := m.length) (cs := (m.flatMap BudD.cells)) (by kernel_rfl) rfl (fun w' hw' => Own.rd hu hw') rfl ?_
    refine l_on rfl (gT h2_4) ?_
    refine l_lss rfl rfl rfl ?_
    exact l_nil (fun w' hw => ⟨(by repeat (first | exact Out.refl _ _ | refine Out.upd rfl ?_ | refine Out.msk rfl ?_)), rfl, hw⟩)
  refine l_end ?_
  refine c_dec rfl (fun c1 => ?_) (fun c1 => ?_)
  ·
    refine c_skipC ?_
    refine c_seq ?_
    refine c_block ?_
    refine c_quiets (by kernel_rfl) (by kernel_rfl) ?_
    refine q_val rfl (v_mv) ?_
    refine q_val rfl (v_mv) ?_
    refine q_val rfl (v_idxS (j := k) (sz := 2) (len := l.length) (cs := (l.flatMap BudD.cells)) rfl rfl (by kernel_rfl) (fun w' hw' => Own.rd hv hw') rfl (by omega)) ?_
    refine q_val rfl (v_ldSN (v := v) (off := offV v + k * 2) (k * 2 + 0) (cs := (l.flatMap BudD.cells)) (BudD.cells (nth l k)) rfl (by omega) (fun w' hw' => Own.rd hv hw') (flat_atN (sz := 2) (fun _ => rfl) (nth_some (by omega)) (o := 0) (us := (BudD.cells (nth l k))) (fun k u h => by rw [Nat.zero_add]; exact h)) (by kernel_rfl)) ?_
    refine q_val rfl (v_mv) ?_
    refine q_val rfl (v_mv) ?_
    refine q_val rfl (v_idxS (j := k) (sz := 2) (len := m.length) (cs := (m.flatMap BudD.cells)) rfl rfl (by kernel_rfl) (fun w' hw' => Own.rd hu hw') rfl (by omega)) ?_
    refine q_val rfl (v_ldSN (v := u) (off := offV u + k * 2) (k * 2 + 0) (cs := (m.flatMap BudD.cells)) (BudD.cells (nth m k)) rfl (by omega) (fun w' hw' => Own.rd hu hw') (flat_atN (sz := 2) (fun _ => rfl) (nth_some (by omega)) (o := 0) (us := (BudD.cells (nth m k))) (fun k u h => by rw [Nat.zero_add]; exact h)) (by kernel_rfl)) ?_
    refine q_val rfl (v_stq (BudDEq (nth l k) (nth m k)) (by kernel_rfl) (by kernel_rfl) rfl rfl rfl rfl) ?_
    refine q_end ?_
    refine c_dec rfl (fun c2 => ?_) (fun c2 => ?_)
    ·
      refine c_reg ?_
      refine l_as rfl ?_
      refine l_end ?_
      exact c_ret (ret1 (v := .bool false) rfl rfl (fun w' hw => ⟨(by rw [decide_eq_false]; rintro rfl; exact c2 rfl), hw.drop⟩))
    ·
      refine c_skipC ?_
      refine c_last ?_
      refine l_mv rfl ?_
      refine l_add rfl rfl (wi64 (by omega)) rfl ?_
      refine l_as rfl ?_
      exact l_nil (fun w' hw => ⟨k + 1, ⟨rfl, rfl, rfl, trivial⟩, ⟨by omega, by rw [take_nth (by omega), take_nth (by omega), hk2, Decidable.not_not.1 c2]⟩, hw, (by omega)⟩)
  ·
    refine c_exitC rfl ?_
    refine c_reg ?_
    refine l_mv rfl ?_
    refine l_lenS (len := l.length) (cs := (l.flatMap BudD.cells)) (by kernel_rfl) rfl (fun w' hw' => Own.rd hv hw') rfl ?_
    refine l_mv rfl ?_
    refine l_lenS (len := m.length) (cs := (m.flatMap BudD.cells)) (by kernel_rfl) rfl (fun w' hw' => Own.rd hu hw') rfl ?_
    refine l_eq rfl rfl rfl ?_
    refine l_as rfl ?_
    refine l_end ?_
    exact c_ret (ret1 (v := .bool (decide (((l.length : Nat) : Int) = ((m.length : Nat) : Int)))) rfl rfl (fun w' hw => ⟨(by congr 1; exact decide_eq_decide.2 ⟨fun h => by have h2 := hk2; rw [List.take_of_length_le (by omega), List.take_of_length_le (by omega)] at h2; exact h2, fun h => by rw [h]⟩), hw.drop⟩))
theorem sameLeases_s (v : Value) (l : List LeaD) (u : Value) (m : List LeaD) (w : World) (hl : l.length ≤ 2000000) (hm : m.length ≤ 2000000) (hv : Rd w [] (Res.sl v l.length (l.flatMap LeaD.cells))) (hu : Rd w [] (Res.sl u m.length (m.flatMap LeaD.cells))) : Rets Tryz.prog 41 #[v, u] w fun u_ w' => u_ = .bool (decide (l = m)) ∧ Own w [] [] w' := by
  refine fn_enter (args := [v, u]) Tryz.func41 rfl Tryz.ntmps41 rfl (Own.start w) ?_
  refine c_reg ?_
  refine l_as rfl ?_
  refine l_end ?_
  refine c_seq ?_
  refine c_reg ?_
  refine l_as rfl ?_
  refine l_end ?_
  refine c_block ?_
  refine c_loop1 (fun (k : Nat) => [(0, v), (1, u), (5, .int .i64 (k : Nat))]) (fun (k : Nat) => (k ≤ l.length ∧ k ≤ m.length) ∧ l.take k = m.take k) (fun (k : Nat) => []) (fun (k : Nat) => l.length - k) (fun w' hw => ⟨0, ⟨rfl, rfl, rfl, trivial⟩, ⟨by omega, rfl⟩, hw⟩) (fun k g hΦ => ?_)
  have hk1 := hΦ.1
  have hk2 := hΦ.2
  refine c_seq ?_
  refine c_reg ?_
  refine l_mv rfl ?_
  refine l_mv rfl ?_
  refine l_lenS (len := l.length) (cs := (l.flatMap LeaD.cells)) (by kernel_rfl) rfl (fun w' hw' => Own.rd hv hw') rfl ?_
  refine l_lss rfl rfl rfl ?_
  refine l_mv rfl ?_
  refine l_band (q := ((k : Nat) : Int) < ((l.length : Nat) : Int)) 4 4 [14, 13, 12, 11] (((k : Nat) : Int) < ((m.length : Nat) : Int)) rfl rfl rfl rfl rfl rfl trivial rfl (fun h2_4 => ?_) (fun g2_9 => ?_)
  ·
    refine l_on rfl (gT h2_4) ?_
    refine l_mv rfl ?_
    refine l_on rfl (gT h2_4) ?_
    refine l_mv rfl ?_
    refine l_on rfl (gT h2_4) ?_
    refine l_lenS (len := m.length) (cs := (m.flatMap LeaD.cells)) (by kernel_rfl) rfl (fun w' hw' => Own.rd hu hw') rfl ?_
    refine l_on rfl (gT h2_4) ?_
    refine l_lss rfl rfl rfl ?_
    exact l_nil (fun w' hw => ⟨(by repeat (first | exact Out.refl _ _ | refine Out.upd rfl ?_ | refine Out.msk rfl ?_)), rfl, hw⟩)
  refine l_end ?_
  refine c_dec rfl (fun c1 => ?_) (fun c1 => ?_)
  ·
    refine c_skipC ?_
    refine c_seq ?_
    refine c_block ?_
    refine c_quiets (by kernel_rfl) (by kernel_rfl) ?_
    refine q_val rfl (v_mv) ?_
    refine q_val rfl (v_mv) ?_
    refine q_val rfl (v_idxS (j := k) (sz := 5) (len := l.length) (cs := (l.flatMap LeaD.cells)) rfl rfl (by kernel_rfl) (fun w' hw' => Own.rd hv hw') rfl (by omega)) ?_
    refine q_val rfl (v_ldSN (v := v) (off := offV v + k * 5) (k * 5 + 0) (cs := (l.flatMap LeaD.cells)) (LeaD.cells (nth l k)) rfl (by omega) (fun w' hw' => Own.rd hv hw') (flat_atN (sz := 5) (fun _ => rfl) (nth_some (by omega)) (o := 0) (us := (LeaD.cells (nth l k))) (fun k u h => by rw [Nat.zero_add]; exact h)) (by kernel_rfl)) ?_
    refine q_val rfl (v_mv) ?_
    refine q_val rfl (v_mv) ?_
    refine q_val rfl (v_idxS (j := k) (sz := 5) (len := m.length) (cs := (m.flatMap LeaD.cells)) rfl rfl (by kernel_rfl) (fun w' hw' => Own.rd hu hw') rfl (by omega)) ?_
    refine q_val rfl (v_ldSN (v := u) (off := offV u + k * 5) (k * 5 + 0) (cs := (m.flatMap LeaD.cells)) (LeaD.cells (nth m k)) rfl (by omega) (fun w' hw' => Own.rd hu hw') (flat_atN (sz := 5) (fun _ => rfl) (nth_some (by omega)) (o := 0) (us := (LeaD.cells (nth m k))) (fun k u h => by rw [Nat.zero_add]; exact h)) (by kernel_rfl)) ?_
    refine q_val rfl (v_stq (LeaDEq (nth l k) (nth m k)) (by kernel_rfl) (by kernel_rfl) rfl rfl rfl rfl) ?_
    refine q_end ?_
    refine c_dec rfl (fun c2 => ?_) (fun c2 => ?_)
    ·
      refine c_reg ?_
      refine l_as rfl ?_
      refine l_end ?_
      exact c_ret (ret1 (v := .bool false) rfl rfl (fun w' hw => ⟨(by rw [decide_eq_false]; rintro rfl; exact c2 rfl), hw.drop⟩))
    ·
      refine c_skipC ?_
      refine c_last ?_
      refine l_mv rfl ?_
      refine l_add rfl rfl (wi64 (by omega)) rfl ?_
      refine l_as rfl ?_
      exact l_nil (fun w' hw => ⟨k + 1, ⟨rfl, rfl, rfl, trivial⟩, ⟨by omega, by rw [take_nth (by omega), take_nth (by omega), hk2, Decidable.not_not.1 c2]⟩, hw, (by omega)⟩)
  ·
    refine c_exitC rfl ?_
    refine c_reg ?_
    refine l_mv rfl ?_
    refine l_lenS (len := l.length) (cs := (l.flatMap LeaD.cells)) (by kernel_rfl) rfl (fun w' hw' => Own.rd hv hw') rfl ?_
    refine l_mv rfl ?_
    refine l_lenS (len := m.length) (cs := (m.flatMap LeaD.cells)) (by kernel_rfl) rfl (fun w' hw' => Own.rd hu hw') rfl ?_
    refine l_eq rfl rfl rfl ?_
    refine l_as rfl ?_
    refine l_end ?_
    exact c_ret (ret1 (v := .bool (decide (((l.length : Nat) : Int) = ((m.length : Nat) : Int)))) rfl rfl (fun w' hw => ⟨(by congr 1; exact decide_eq_decide.2 ⟨fun h => by have h2 := hk2; rw [List.take_of_length_le (by omega), List.take_of_length_le (by omega)] at h2; exact h2, fun h => by rw [h]⟩), hw.drop⟩))
theorem alike_s (b bm lm wb : Nat) (now now2 : Int) (cnt cnt2 : Nat) (kb : List (ByteArray × Int)) (kl : List (Nat × LeaD)) (bv lv : Value) (bs : List BudD) (ls : List LeaD) (w : World) (hnow : now = now2) (hcnt : cnt = cnt2) (ho : QOk now2 cnt2 bs ls) (hr : QRel kb kl bs ls) (hs : QSrt bs) (hin : Own w (fps [Res.row b 58 [.map (some bm), .map (some lm), .int .i64 now, .int .u64 (cnt : Nat)], Res.mp Value.string ekI bm kb, Res.mp ekU leaV lm kl, Res.row wb 30 [.int .i64 now2, .int .u64 (cnt2 : Nat), bv, lv], Res.vec 62 2 bv bs.length (bs.flatMap BudD.cells), Res.vec 49 5 lv ls.length (ls.flatMap LeaD.cells)]) [Res.row b 58 [.map (some bm), .map (some lm), .int .i64 now, .int .u64 (cnt : Nat)], Res.mp Value.string ekI bm kb, Res.mp ekU leaV lm kl, Res.row wb 30 [.int .i64 now2, .int .u64 (cnt2 : Nat), bv, lv], Res.vec 62 2 bv bs.length (bs.flatMap BudD.cells), Res.vec 49 5 lv ls.length (ls.flatMap LeaD.cells)] w) : Rets Tryz.prog 14 #[.pointer (some ⟨b, 0, none⟩), .pointer (some ⟨wb, 0, none⟩)] w fun u_ w' => u_ = .bool true ∧ Own w (fps [Res.row b 58 [.map (some bm), .map (some lm), .int .i64 now, .int .u64 (cnt : Nat)], Res.mp Value.string ekI bm kb, Res.mp ekU leaV lm kl, Res.row wb 30 [.int .i64 now2, .int .u64 (cnt2 : Nat), bv, lv], Res.vec 62 2 bv bs.length (bs.flatMap BudD.cells), Res.vec 49 5 lv ls.length (ls.flatMap LeaD.cells)]) [Res.row b 58 [.map (some bm), .map (some lm), .int .i64 now, .int .u64 (cnt : Nat)], Res.mp Value.string ekI bm kb, Res.mp ekU leaV lm kl, Res.row wb 30 [.int .i64 now2, .int .u64 (cnt2 : Nat), bv, lv], Res.vec 62 2 bv bs.length (bs.flatMap BudD.cells), Res.vec 49 5 lv ls.length (ls.flatMap LeaD.cells)] w' := by
  have hbl : kb.length ≤ 64 := by rw [hr.blen]; exact ho.blen
  have hll : kl.length ≤ 128 := by rw [hr.llen]; exact ho.llen
  have hbl2 := ho.blen
  have hll2 := ho.llen
  refine fn_enter (args := [.pointer (some ⟨b, 0, none⟩), .pointer (some ⟨wb, 0, none⟩)]) Tryz.func14 rfl Tryz.ntmps14 rfl (show Own w (fps [Res.row b 58 [.map (some bm), .map (some lm), .int .i64 now, .int .u64 (cnt : Nat)], Res.mp Value.string ekI bm kb, Res.mp ekU leaV lm kl, Res.row wb 30 [.int .i64 now2, .int .u64 (cnt2 : Nat), bv, lv], Res.vec 62 2 bv bs.length (bs.flatMap BudD.cells), Res.vec 49 5 lv ls.length (ls.flatMap LeaD.cells)]) [Res.row b 58 [.map (some bm), .map (some lm), .int .i64 now, .int .u64 (cnt : Nat)], Res.mp Value.string ekI bm kb, Res.mp ekU leaV lm kl, Res.row wb 30 [.int .i64 now2, .int .u64 (cnt2 : Nat), bv, lv], Res.vec 62 2 bv bs.length (bs.flatMap BudD.cells), Res.vec 49 5 lv ls.length (ls.flatMap LeaD.cells)] w from hin) ?_
  refine c_reg ?_
  refine l_as rfl ?_
  refine l_end ?_
  refine c_seq ?_
  refine c_heldo [3, 4, 5] rfl (by decide) (by kernel_rfl) (fun w' hw hS => ?_)
  refine h_take 0 rfl (by kernel_rfl) (by kernel_rfl) (by kernel_rfl) (v_mv) rfl hS ?_
  refine h_take 2 rfl (by kernel_rfl) (by kernel_rfl) (by kernel_rfl) (v_mv) rfl hS ?_
  refine h_take 3 rfl (by kernel_rfl) (by kernel_rfl) (by kernel_rfl) (v_nck rfl) rfl hS ?_
  refine h_take 4 rfl (by kernel_rfl) (by kernel_rfl) (by kernel_rfl) (v_fld (o := 0) rfl (by kernel_rfl)) rfl hS ?_
  refine h_take 5 rfl (by kernel_rfl) (by kernel_rfl) (by kernel_rfl) (v_ldo 0 (v := .int .i64 now2) rfl rfl rfl (by kernel_rfl)) rfl hS ?_
  refine h_one 1 (by kernel_rfl) rfl hw ?_
  refine l_call (by kernel_rfl) rfl rfl (fun w' hw => ?_)
  refine (time_s b bm lm now cnt w' (hw.give [0] rfl (by decide))).mono ?_
  rintro _ w1 ⟨rfl, hO⟩
  refine (?_ : CL _ _ _ _ _ _ (Own w (fps [Res.row b 58 [.map (some bm), .map (some lm), .int .i64 now, .int .u64 (cnt : Nat)], Res.mp Value.string ekI bm kb, Res.mp ekU leaV lm kl, Res.row wb 30 [.int .i64 now2, .int .u64 (cnt2 : Nat), bv, lv], Res.vec 62 2 bv bs.length (bs.flatMap BudD.cells), Res.vec 49 5 lv ls.length (ls.flatMap LeaD.cells)]) [Res.mp Value.string ekI bm kb, Res.mp ekU leaV lm kl, Res.row wb 30 [.int .i64 now2, .int .u64 (cnt2 : Nat), bv, lv], Res.vec 62 2 bv bs.length (bs.flatMap BudD.cells), Res.vec 49 5 lv ls.length (ls.flatMap LeaD.cells), Res.row b 58 [.map (some bm), .map (some lm), .int .i64 now, .int .u64 (cnt : Nat)]])) w1 (hw.frameL [0] rfl hO)
  refine l_nil (fun w' hw => ?_)
  have hS := hw.sel [2, 3, 4] rfl (by decide)
  refine ⟨hS, ?_⟩
  refine h_take 6 rfl (by kernel_rfl) (by kernel_rfl) (by kernel_rfl) (v_eq rfl rfl) rfl hS ?_
  refine h_take 7 rfl (by kernel_rfl) (by kernel_rfl) (by kernel_rfl) (v_mv) rfl hS ?_
  by_cases g1_7 : now = now2
  ·
    refine h_takeg 8 rfl rfl (gT g1_7) (by kernel_rfl) (by kernel_rfl) (by kernel_rfl) (v_mv) rfl hS ?_
    refine h_takeg 10 rfl rfl (gT g1_7) (by kernel_rfl) (by kernel_rfl) (by kernel_rfl) (v_mv) rfl hS ?_
    refine h_takeg 11 rfl rfl (gT g1_7) (by kernel_rfl) (by kernel_rfl) (by kernel_rfl) (v_nck rfl) rfl hS ?_
    refine h_takeg 12 rfl rfl (gT g1_7) (by kernel_rfl) (by kernel_rfl) (by kernel_rfl) (v_fld (o := 1) rfl (by kernel_rfl)) rfl hS ?_
    refine h_takeg 13 rfl rfl (gT g1_7) (by kernel_rfl) (by kernel_rfl) (by kernel_rfl) (v_ldo 0 (v := .int .u64 (cnt2 : Nat)) rfl rfl rfl (by kernel_rfl)) rfl hS ?_
    refine h_one 9 (by kernel_rfl) rfl hw ?_
    refine l_on rfl (gT g1_7) ?_
    refine l_call (by kernel_rfl) rfl rfl (fun w' hw => ?_)
    refine (last_s b bm lm now cnt w' (hw.give [5] rfl (by decide))).mono ?_
    rintro _ w1 ⟨rfl, hO⟩
    refine (?_ : CL _ _ _ _ _ _ (Own w (fps [Res.row b 58 [.map (some bm), .map (some lm), .int .i64 now, .int .u64 (cnt : Nat)], Res.mp Value.string ekI bm kb, Res.mp ekU leaV lm kl, Res.row wb 30 [.int .i64 now2, .int .u64 (cnt2 : Nat), bv, lv], Res.vec 62 2 bv bs.length (bs.flatMap BudD.cells), Res.vec 49 5 lv ls.length (ls.flatMap LeaD.cells)]) [Res.mp Value.string ekI bm kb, Res.mp ekU leaV lm kl, Res.row wb 30 [.int .i64 now2, .int .u64 (cnt2 : Nat), bv, lv], Res.vec 62 2 bv bs.length (bs.flatMap BudD.cells), Res.vec 49 5 lv ls.length (ls.flatMap LeaD.cells), Res.row b 58 [.map (some bm), .map (some lm), .int .i64 now, .int .u64 (cnt : Nat)]])) w1 (hw.frameL [5] rfl hO)
    refine l_nil (fun w' hw => ?_)
    have hS := hw.sel [2, 3, 4] rfl (by decide)
    refine ⟨hS, ?_⟩
    refine h_takeg 14 rfl rfl (gT g1_7) (by kernel_rfl) (by kernel_rfl) (by kernel_rfl) (v_eq rfl rfl) rfl hS ?_
    refine h_take 15 rfl (by kernel_rfl) (by kernel_rfl) (by kernel_rfl) (v_pickT (gT g1_7)) rfl hS ?_
    refine h_take 16 rfl (by kernel_rfl) (by kernel_rfl) (by kernel_rfl) (v_mv) rfl hS ?_
    by_cases g1_16 : ((cnt : Nat) : Int) = ((cnt2 : Nat) : Int)
    ·
      refine h_takeg 17 rfl rfl (gT g1_16) (by kernel_rfl) (by kernel_rfl) (by kernel_rfl) (v_mv) rfl hS ?_
      refine h_takeg 19 rfl rfl (gT g1_16) (by kernel_rfl) (by kernel_rfl) (by kernel_rfl) (v_mv) rfl hS ?_
      refine h_takeg 20 rfl rfl (gT g1_16) (by kernel_rfl) (by kernel_rfl) (by kernel_rfl) (v_nck rfl) rfl hS ?_
      refine h_takeg 21 rfl rfl (gT g1_16) (by kernel_rfl) (by kernel_rfl) (by kernel_rfl) (v_fld (o := 2) rfl (by kernel_rfl)) rfl hS ?_
      refine h_takeg 22 rfl rfl (gT g1_16) (by kernel_rfl) (by kernel_rfl) (by kernel_rfl) (v_ldo 0 (v := bv) rfl rfl rfl (by kernel_rfl)) rfl hS ?_
      refine h_one 18 (by kernel_rfl) rfl hw ?_
      refine l_on rfl (gT g1_16) ?_
      refine l_call (by kernel_rfl) rfl rfl (fun w' hw => ?_)
      refine (budgets_s b bm lm now cnt kb w' (by first | assumption | omega | (simp <;> omega) | (constructor <;> (first | omega | (simp only [LenOk]; omega) | (simp <;> omega)))) (hw.give [5, 0] rfl (by decide))).mono ?_
      rintro v1_ w1 ⟨_, l2_, ks3_, rfl, hf1_18, hf1_18_1, hf1_18_2, hO⟩
      have hb2 : l2_ = bs := hf1_18_2.trans (buds_eq ho hs hr hf1_18 hf1_18_1)
      refine (?_ : CL _ _ _ _ _ _ (Own w (fps [Res.row b 58 [.map (some bm), .map (some lm), .int .i64 now, .int .u64 (cnt : Nat)], Res.mp Value.string ekI bm kb, Res.mp ekU leaV lm kl, Res.row wb 30 [.int .i64 now2, .int .u64 (cnt2 : Nat), bv, lv], Res.vec 62 2 bv bs.length (bs.flatMap BudD.cells), Res.vec 49 5 lv ls.length (ls.flatMap LeaD.cells)]) [Res.mp ekU leaV lm kl, Res.row wb 30 [.int .i64 now2, .int .u64 (cnt2 : Nat), bv, lv], Res.vec 62 2 bv bs.length (bs.flatMap BudD.cells), Res.vec 49 5 lv ls.length (ls.flatMap LeaD.cells), Res.row b 58 [.map (some bm), .map (some lm), .int .i64 now, .int .u64 (cnt : Nat)], Res.mp Value.string ekI bm kb, Res.vec 62 2 v1_ l2_.length (l2_.flatMap BudD.cells)])) w1 (hw.frameL [5, 0] rfl hO)
      refine l_nil (fun w' hw => ?_)
      have hS := hw.sel [1, 2, 3] rfl (by decide)
      refine ⟨hS, ?_⟩
      refine h_one 23 (by kernel_rfl) rfl hw ?_
      refine l_on rfl (gT g1_16) ?_
      refine l_call (by kernel_rfl) rfl rfl (fun w' hw => ?_)
      refine (sameBudgets_s v1_ l2_ bv bs w' (by rw [hb2]; omega) (by omega) (hw.rdVec0 6 rfl) (hw.rdVec0 2 rfl)).mono ?_
      rintro _ w1 ⟨rfl, hO⟩
      refine (?_ : CL _ _ _ _ _ _ (Own w (fps [Res.row b 58 [.map (some bm), .map (some lm), .int .i64 now, .int .u64 (cnt : Nat)], Res.mp Value.string ekI bm kb, Res.mp ekU leaV lm kl, Res.row wb 30 [.int .i64 now2, .int .u64 (cnt2 : Nat), bv, lv], Res.vec 62 2 bv bs.length (bs.flatMap BudD.cells), Res.vec 49 5 lv ls.length (ls.flatMap LeaD.cells)]) [Res.mp ekU leaV lm kl, Res.row wb 30 [.int .i64 now2, .int .u64 (cnt2 : Nat), bv, lv], Res.vec 62 2 bv bs.length (bs.flatMap BudD.cells), Res.vec 49 5 lv ls.length (ls.flatMap LeaD.cells), Res.row b 58 [.map (some bm), .map (some lm), .int .i64 now, .int .u64 (cnt : Nat)], Res.mp Value.string ekI bm kb, Res.vec 62 2 v1_ l2_.length (l2_.flatMap BudD.cells)])) w1 (hw.frame0 hO)
      refine l_nil (fun w' hw => ?_)
      have hS := hw.sel [1, 2, 3] rfl (by decide)
      refine ⟨hS, ?_⟩
      refine h_take 24 rfl (by kernel_rfl) (by kernel_rfl) (by kernel_rfl) (v_pickT (gT g1_16)) rfl hS ?_
      refine h_take 25 rfl (by kernel_rfl) (by kernel_rfl) (by kernel_rfl) (v_mv) rfl hS ?_
      by_cases g1_25 : l2_ = bs
      ·
        refine h_takeg 26 rfl rfl (gT g1_25) (by kernel_rfl) (by kernel_rfl) (by kernel_rfl) (v_mv) rfl hS ?_
        refine h_takeg 28 rfl rfl (gT g1_25) (by kernel_rfl) (by kernel_rfl) (by kernel_rfl) (v_mv) rfl hS ?_
        refine h_takeg 29 rfl rfl (gT g1_25) (by kernel_rfl) (by kernel_rfl) (by kernel_rfl) (v_nck rfl) rfl hS ?_
        refine h_takeg 30 rfl rfl (gT g1_25) (by kernel_rfl) (by kernel_rfl) (by kernel_rfl) (v_fld (o := 3) rfl (by kernel_rfl)) rfl hS ?_
        refine h_takeg 31 rfl rfl (gT g1_25) (by kernel_rfl) (by kernel_rfl) (by kernel_rfl) (v_ldo 0 (v := lv) rfl rfl rfl (by kernel_rfl)) rfl hS ?_
        refine h_one 27 (by kernel_rfl) rfl hw ?_
        refine l_on rfl (gT g1_25) ?_
        refine l_call (by kernel_rfl) rfl rfl (fun w' hw => ?_)
        refine (leases_s b bm lm now cnt kl w' (by first | assumption | omega | (simp <;> omega) | (constructor <;> (first | omega | (simp only [LenOk]; omega) | (simp <;> omega)))) (hw.give [4, 0] rfl (by decide))).mono ?_
        rintro v4_ w1 ⟨_, l5_, rfl, hf1_27, hf1_27_1, hO⟩
        have hl5 : l5_ = ls := leas_eq ho hr hf1_27 hf1_27_1
        refine (?_ : CL _ _ _ _ _ _ (Own w (fps [Res.row b 58 [.map (some bm), .map (some lm), .int .i64 now, .int .u64 (cnt : Nat)], Res.mp Value.string ekI bm kb, Res.mp ekU leaV lm kl, Res.row wb 30 [.int .i64 now2, .int .u64 (cnt2 : Nat), bv, lv], Res.vec 62 2 bv bs.length (bs.flatMap BudD.cells), Res.vec 49 5 lv ls.length (ls.flatMap LeaD.cells)]) [Res.row wb 30 [.int .i64 now2, .int .u64 (cnt2 : Nat), bv, lv], Res.vec 62 2 bv bs.length (bs.flatMap BudD.cells), Res.vec 49 5 lv ls.length (ls.flatMap LeaD.cells), Res.mp Value.string ekI bm kb, Res.vec 62 2 v1_ l2_.length (l2_.flatMap BudD.cells), Res.row b 58 [.map (some bm), .map (some lm), .int .i64 now, .int .u64 (cnt : Nat)], Res.mp ekU leaV lm kl, Res.vec 49 5 v4_ l5_.length (l5_.flatMap LeaD.cells)])) w1 (hw.frameL [4, 0] rfl hO)
        refine l_nil (fun w' hw => ?_)
        have hS := hw.sel [0, 1, 2] rfl (by decide)
        refine ⟨hS, ?_⟩
        refine h_one 32 (by kernel_rfl) rfl hw ?_
        refine l_on rfl (gT g1_25) ?_
        refine l_call (by kernel_rfl) rfl rfl (fun w' hw => ?_)
        refine (sameLeases_s v4_ l5_ lv ls w' (by rw [hl5]; omega) (by omega) (hw.rdVec0 7 rfl) (hw.rdVec0 2 rfl)).mono ?_
        rintro _ w1 ⟨rfl, hO⟩
        refine (?_ : CL _ _ _ _ _ _ (Own w (fps [Res.row b 58 [.map (some bm), .map (some lm), .int .i64 now, .int .u64 (cnt : Nat)], Res.mp Value.string ekI bm kb, Res.mp ekU leaV lm kl, Res.row wb 30 [.int .i64 now2, .int .u64 (cnt2 : Nat), bv, lv], Res.vec 62 2 bv bs.length (bs.flatMap BudD.cells), Res.vec 49 5 lv ls.length (ls.flatMap LeaD.cells)]) [Res.row wb 30 [.int .i64 now2, .int .u64 (cnt2 : Nat), bv, lv], Res.vec 62 2 bv bs.length (bs.flatMap BudD.cells), Res.vec 49 5 lv ls.length (ls.flatMap LeaD.cells), Res.mp Value.string ekI bm kb, Res.vec 62 2 v1_ l2_.length (l2_.flatMap BudD.cells), Res.row b 58 [.map (some bm), .map (some lm), .int .i64 now, .int .u64 (cnt : Nat)], Res.mp ekU leaV lm kl, Res.vec 49 5 v4_ l5_.length (l5_.flatMap LeaD.cells)])) w1 (hw.frame0 hO)
        refine l_nil (fun w' hw => ?_)
        have hS := hw.sel [0, 1, 2] rfl (by decide)
        refine ⟨hS, ?_⟩
        refine h_take 33 rfl (by kernel_rfl) (by kernel_rfl) (by kernel_rfl) (v_pickT (gT g1_25)) rfl hS ?_
        refine h_take 34 rfl (by kernel_rfl) (by kernel_rfl) (by kernel_rfl) (v_as) rfl hS ?_
        refine h_done (by kernel_rfl) ?_
        refine (?_ : C _ _ _ _ _ _ _ (Own w (fps [Res.row b 58 [.map (some bm), .map (some lm), .int .i64 now, .int .u64 (cnt : Nat)], Res.mp Value.string ekI bm kb, Res.mp ekU leaV lm kl, Res.row wb 30 [.int .i64 now2, .int .u64 (cnt2 : Nat), bv, lv], Res.vec 62 2 bv bs.length (bs.flatMap BudD.cells), Res.vec 49 5 lv ls.length (ls.flatMap LeaD.cells)]) [Res.row wb 30 [.int .i64 now2, .int .u64 (cnt2 : Nat), bv, lv], Res.vec 62 2 bv bs.length (bs.flatMap BudD.cells), Res.vec 49 5 lv ls.length (ls.flatMap LeaD.cells), Res.mp Value.string ekI bm kb, Res.vec 62 2 v1_ l2_.length (l2_.flatMap BudD.cells), Res.row b 58 [.map (some bm), .map (some lm), .int .i64 now, .int .u64 (cnt : Nat)], Res.mp ekU leaV lm kl, Res.vec 49 5 v4_ l5_.length (l5_.flatMap LeaD.cells)])) _ hw
        exact c_ret (ret1 (v := .bool (decide (l5_ = ls))) rfl rfl (fun w' hw => ⟨(by congr 1; exact decide_eq_true hl5), hw.sel [5, 3, 6, 0, 1, 2] rfl (by decide)⟩))
      ·
        refine h_offg 26 rfl rfl (gF g1_25) rfl (by kernel_rfl) (by kernel_rfl) (by kernel_rfl) rfl hS ?_
        refine h_offg 27 rfl rfl (gF g1_25) rfl (by kernel_rfl) (by kernel_rfl) (by kernel_rfl) rfl hS ?_
        refine h_offg 28 rfl rfl (gF g1_25) rfl (by kernel_rfl) (by kernel_rfl) (by kernel_rfl) rfl hS ?_
        refine h_offg 29 rfl rfl (gF g1_25) rfl (by kernel_rfl) (by kernel_rfl) (by kernel_rfl) rfl hS ?_
        refine h_offg 30 rfl rfl (gF g1_25) rfl (by kernel_rfl) (by kernel_rfl) (by kernel_rfl) rfl hS ?_
        refine h_offg 31 rfl rfl (gF g1_25) rfl (by kernel_rfl) (by kernel_rfl) (by kernel_rfl) rfl hS ?_
        refine h_offg 32 rfl rfl (gF g1_25) rfl (by kernel_rfl) (by kernel_rfl) (by kernel_rfl) rfl hS ?_
        refine h_take 33 rfl (by kernel_rfl) (by kernel_rfl) (by kernel_rfl) (v_pickF (gF g1_25)) rfl hS ?_
        refine h_take 34 rfl (by kernel_rfl) (by kernel_rfl) (by kernel_rfl) (v_as) rfl hS ?_
        refine h_done (by kernel_rfl) ?_
        refine (?_ : C _ _ _ _ _ _ _ (Own w (fps [Res.row b 58 [.map (some bm), .map (some lm), .int .i64 now, .int .u64 (cnt : Nat)], Res.mp Value.string ekI bm kb, Res.mp ekU leaV lm kl, Res.row wb 30 [.int .i64 now2, .int .u64 (cnt2 : Nat), bv, lv], Res.vec 62 2 bv bs.length (bs.flatMap BudD.cells), Res.vec 49 5 lv ls.length (ls.flatMap LeaD.cells)]) [Res.mp ekU leaV lm kl, Res.row wb 30 [.int .i64 now2, .int .u64 (cnt2 : Nat), bv, lv], Res.vec 62 2 bv bs.length (bs.flatMap BudD.cells), Res.vec 49 5 lv ls.length (ls.flatMap LeaD.cells), Res.row b 58 [.map (some bm), .map (some lm), .int .i64 now, .int .u64 (cnt : Nat)], Res.mp Value.string ekI bm kb, Res.vec 62 2 v1_ l2_.length (l2_.flatMap BudD.cells)])) _ hw
        exact c_ret (ret1 (v := .bool false) rfl rfl (fun w' hw => ⟨(by exfalso; exact g1_25 hb2), hw.sel [4, 5, 0, 1, 2, 3] rfl (by decide)⟩))
    ·
      refine h_offg 17 rfl rfl (gF g1_16) rfl (by kernel_rfl) (by kernel_rfl) (by kernel_rfl) rfl hS ?_
      refine h_offg 18 rfl rfl (gF g1_16) rfl (by kernel_rfl) (by kernel_rfl) (by kernel_rfl) rfl hS ?_
      refine h_offg 19 rfl rfl (gF g1_16) rfl (by kernel_rfl) (by kernel_rfl) (by kernel_rfl) rfl hS ?_
      refine h_offg 20 rfl rfl (gF g1_16) rfl (by kernel_rfl) (by kernel_rfl) (by kernel_rfl) rfl hS ?_
      refine h_offg 21 rfl rfl (gF g1_16) rfl (by kernel_rfl) (by kernel_rfl) (by kernel_rfl) rfl hS ?_
      refine h_offg 22 rfl rfl (gF g1_16) rfl (by kernel_rfl) (by kernel_rfl) (by kernel_rfl) rfl hS ?_
      refine h_offg 23 rfl rfl (gF g1_16) rfl (by kernel_rfl) (by kernel_rfl) (by kernel_rfl) rfl hS ?_
      refine h_take 24 rfl (by kernel_rfl) (by kernel_rfl) (by kernel_rfl) (v_pickF (gF g1_16)) rfl hS ?_
      refine h_take 25 rfl (by kernel_rfl) (by kernel_rfl) (by kernel_rfl) (v_mv) rfl hS ?_
      refine h_offg 26 rfl rfl rfl rfl (by kernel_rfl) (by kernel_rfl) (by kernel_rfl) rfl hS ?_
      refine h_offg 27 rfl rfl rfl rfl (by kernel_rfl) (by kernel_rfl) (by kernel_rfl) rfl hS ?_
      refine h_offg 28 rfl rfl rfl rfl (by kernel_rfl) (by kernel_rfl) (by kernel_rfl) rfl hS ?_
      refine h_offg 29 rfl rfl rfl rfl (by kernel_rfl) (by kernel_rfl) (by kernel_rfl) rfl hS ?_
      refine h_offg 30 rfl rfl rfl rfl (by kernel_rfl) (by kernel_rfl) (by kernel_rfl) rfl hS ?_
      refine h_offg 31 rfl rfl rfl rfl (by kernel_rfl) (by kernel_rfl) (by kernel_rfl) rfl hS ?_
      refine h_offg 32 rfl rfl rfl rfl (by kernel_rfl) (by kernel_rfl) (by kernel_rfl) rfl hS ?_
      refine h_take 33 rfl (by kernel_rfl) (by kernel_rfl) (by kernel_rfl) (v_pickF rfl) rfl hS ?_
      refine h_take 34 rfl (by kernel_rfl) (by kernel_rfl) (by kernel_rfl) (v_as) rfl hS ?_
      refine h_done (by kernel_rfl) ?_
      refine (?_ : C _ _ _ _ _ _ _ (Own w (fps [Res.row b 58 [.map (some bm), .map (some lm), .int .i64 now, .int .u64 (cnt : Nat)], Res.mp Value.string ekI bm kb, Res.mp ekU leaV lm kl, Res.row wb 30 [.int .i64 now2, .int .u64 (cnt2 : Nat), bv, lv], Res.vec 62 2 bv bs.length (bs.flatMap BudD.cells), Res.vec 49 5 lv ls.length (ls.flatMap LeaD.cells)]) [Res.mp Value.string ekI bm kb, Res.mp ekU leaV lm kl, Res.row wb 30 [.int .i64 now2, .int .u64 (cnt2 : Nat), bv, lv], Res.vec 62 2 bv bs.length (bs.flatMap BudD.cells), Res.vec 49 5 lv ls.length (ls.flatMap LeaD.cells), Res.row b 58 [.map (some bm), .map (some lm), .int .i64 now, .int .u64 (cnt : Nat)]])) _ hw
      exact c_ret (ret1 (v := .bool false) rfl rfl (fun w' hw => ⟨(by exfalso; exact g1_16 (by rw [hcnt])), hw.sel [5, 0, 1, 2, 3, 4] rfl (by decide)⟩))
  ·
    refine h_offg 8 rfl rfl (gF g1_7) rfl (by kernel_rfl) (by kernel_rfl) (by kernel_rfl) rfl hS ?_
    refine h_offg 9 rfl rfl (gF g1_7) rfl (by kernel_rfl) (by kernel_rfl) (by kernel_rfl) rfl hS ?_
    refine h_offg 10 rfl rfl (gF g1_7) rfl (by kernel_rfl) (by kernel_rfl) (by kernel_rfl) rfl hS ?_
    refine h_offg 11 rfl rfl (gF g1_7) rfl (by kernel_rfl) (by kernel_rfl) (by kernel_rfl) rfl hS ?_
    refine h_offg 12 rfl rfl (gF g1_7) rfl (by kernel_rfl) (by kernel_rfl) (by kernel_rfl) rfl hS ?_
    refine h_offg 13 rfl rfl (gF g1_7) rfl (by kernel_rfl) (by kernel_rfl) (by kernel_rfl) rfl hS ?_
    refine h_offg 14 rfl rfl (gF g1_7) rfl (by kernel_rfl) (by kernel_rfl) (by kernel_rfl) rfl hS ?_
    refine h_take 15 rfl (by kernel_rfl) (by kernel_rfl) (by kernel_rfl) (v_pickF (gF g1_7)) rfl hS ?_
    refine h_take 16 rfl (by kernel_rfl) (by kernel_rfl) (by kernel_rfl) (v_mv) rfl hS ?_
    refine h_offg 17 rfl rfl rfl rfl (by kernel_rfl) (by kernel_rfl) (by kernel_rfl) rfl hS ?_
    refine h_offg 18 rfl rfl rfl rfl (by kernel_rfl) (by kernel_rfl) (by kernel_rfl) rfl hS ?_
    refine h_offg 19 rfl rfl rfl rfl (by kernel_rfl) (by kernel_rfl) (by kernel_rfl) rfl hS ?_
    refine h_offg 20 rfl rfl rfl rfl (by kernel_rfl) (by kernel_rfl) (by kernel_rfl) rfl hS ?_
    refine h_offg 21 rfl rfl rfl rfl (by kernel_rfl) (by kernel_rfl) (by kernel_rfl) rfl hS ?_
    refine h_offg 22 rfl rfl rfl rfl (by kernel_rfl) (by kernel_rfl) (by kernel_rfl) rfl hS ?_
    refine h_offg 23 rfl rfl rfl rfl (by kernel_rfl) (by kernel_rfl) (by kernel_rfl) rfl hS ?_
    refine h_take 24 rfl (by kernel_rfl) (by kernel_rfl) (by kernel_rfl) (v_pickF rfl) rfl hS ?_
    refine h_take 25 rfl (by kernel_rfl) (by kernel_rfl) (by kernel_rfl) (v_mv) rfl hS ?_
    refine h_offg 26 rfl rfl rfl rfl (by kernel_rfl) (by kernel_rfl) (by kernel_rfl) rfl hS ?_
    refine h_offg 27 rfl rfl rfl rfl (by kernel_rfl) (by kernel_rfl) (by kernel_rfl) rfl hS ?_
    refine h_offg 28 rfl rfl rfl rfl (by kernel_rfl) (by kernel_rfl) (by kernel_rfl) rfl hS ?_
    refine h_offg 29 rfl rfl rfl rfl (by kernel_rfl) (by kernel_rfl) (by kernel_rfl) rfl hS ?_
    refine h_offg 30 rfl rfl rfl rfl (by kernel_rfl) (by kernel_rfl) (by kernel_rfl) rfl hS ?_
    refine h_offg 31 rfl rfl rfl rfl (by kernel_rfl) (by kernel_rfl) (by kernel_rfl) rfl hS ?_
    refine h_offg 32 rfl rfl rfl rfl (by kernel_rfl) (by kernel_rfl) (by kernel_rfl) rfl hS ?_
    refine h_take 33 rfl (by kernel_rfl) (by kernel_rfl) (by kernel_rfl) (v_pickF rfl) rfl hS ?_
    refine h_take 34 rfl (by kernel_rfl) (by kernel_rfl) (by kernel_rfl) (v_as) rfl hS ?_
    refine h_done (by kernel_rfl) ?_
    refine (?_ : C _ _ _ _ _ _ _ (Own w (fps [Res.row b 58 [.map (some bm), .map (some lm), .int .i64 now, .int .u64 (cnt : Nat)], Res.mp Value.string ekI bm kb, Res.mp ekU leaV lm kl, Res.row wb 30 [.int .i64 now2, .int .u64 (cnt2 : Nat), bv, lv], Res.vec 62 2 bv bs.length (bs.flatMap BudD.cells), Res.vec 49 5 lv ls.length (ls.flatMap LeaD.cells)]) [Res.mp Value.string ekI bm kb, Res.mp ekU leaV lm kl, Res.row wb 30 [.int .i64 now2, .int .u64 (cnt2 : Nat), bv, lv], Res.vec 62 2 bv bs.length (bs.flatMap BudD.cells), Res.vec 49 5 lv ls.length (ls.flatMap LeaD.cells), Res.row b 58 [.map (some bm), .map (some lm), .int .i64 now, .int .u64 (cnt : Nat)]])) _ hw
    exact c_ret (ret1 (v := .bool false) rfl rfl (fun w' hw => ⟨(by exfalso; exact g1_7 hnow), hw.sel [5, 0, 1, 2, 3, 4] rfl (by decide)⟩))
end Go.Proofs.YtgkeoenbcjfeaaaGreat
