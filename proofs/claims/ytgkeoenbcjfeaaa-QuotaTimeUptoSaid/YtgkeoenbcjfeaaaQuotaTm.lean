/-
  THE LAW QuotaTime.
-/
import Derived.Test.YtgkeoenbcjfeaaaQuotaT
set_option linter.unusedVariables false
set_option maxRecDepth 10000
namespace Go.Proofs.Ytgkeoenbcjfeaaa
open Go Go.Sc Go.Proofs

theorem two_pass {now a b : Int} {kl : List (Nat × LeaD)} (ha : 0 ≤ a) (hb : 0 ≤ b) (h1 : passE now (a + b) = 0) (h2 : passE now a = 0) (h3 : passE (now + a) b = 0) :
    passLK (now + a) b (passLK now a kl) = passLK now (a + b) kl ∧ (passGK now (a + b) kl).length = (passGK now a kl).length + (passGK (now + a) b (passLK now a kl)).length := by
  unfold passLK passGK
  simp only [h1, h2, h3, if_true]
  refine ⟨?_, ?_⟩
  · rw [List.filter_filter]
    refine List.filter_congr fun p _ => ?_
    unfold dueL
    by_cases c : p.2.until_ ≤ now + a
    · rw [decide_eq_true c, decide_eq_true (show p.2.until_ ≤ now + (a + b) by omega)]; simp
    · rw [decide_eq_false c, show now + a + b = now + (a + b) by omega]; simp
  · simp only [List.length_map]
    induction kl with
    | nil => rfl
    | cons p kl ih =>
      by_cases c : p.2.until_ ≤ now + a
      · rw [List.filter_cons_of_pos (by simp only [dueL, decide_eq_true_eq]; omega), List.filter_cons_of_pos (by simpa [dueL] using c), List.filter_cons_of_neg (by simpa [dueL] using c)]
        simp only [List.length_cons]; omega
      · by_cases d : p.2.until_ ≤ now + (a + b)
        · rw [List.filter_cons_of_pos (by simpa [dueL] using d), List.filter_cons_of_neg (by simpa [dueL] using c), List.filter_cons_of_pos (l := kl) (by simpa [dueL] using c), List.filter_cons_of_pos (by simp only [dueL, decide_eq_true_eq]; omega)]
          simp only [List.length_cons]; omega
        · rw [List.filter_cons_of_neg (by simpa [dueL] using d), List.filter_cons_of_neg (by simpa [dueL] using c), List.filter_cons_of_pos (l := kl) (by simpa [dueL] using c), List.filter_cons_of_neg (by simp only [dueL, decide_eq_true_eq]; omega)]
          exact ih
theorem quotaTime_s (v : Value) (acts : List QActD) (a c : Int) (w : World) (hl : acts.length ≤ 100000000) (hwf : ∀ a ∈ acts, a.wf) (hv : Rd w [] (Res.sl v acts.length (acts.flatMap QActD.cells))) : Rets Try.prog 6 #[v, .int .i64 a, .int .i64 c] w fun u_ w' => u_ = .bool true ∧ Own w [] [] w' := by
  refine fn_enter (args := [v, .int .i64 a, .int .i64 c]) Try.func6 rfl Try.ntmps6 rfl (Own.start w) ?_
  refine c_reg ?_
  refine l_as rfl ?_
  refine l_end ?_
  refine c_reg ?_
  refine l_call (by kernel_rfl) rfl rfl (fun w' hw => ?_)
  refine (new_s w').mono ?_
  rintro _ w1 ⟨b1_, bm2_, lm3_, rfl, hO⟩
  refine (?_ : CL _ _ _ _ _ _ (Own w [] [Res.row b1_ 64 [.map (some bm2_), .map (some lm3_), .int .i64 0, .int .u64 (0 : Nat)], Res.mp Value.string ekI bm2_ ([] : List (ByteArray × Int)), Res.mp ekU leaV lm3_ ([] : List (Nat × LeaD))])) w1 (hw.frame0 hO)
  refine l_bld (cs := [.int .i64 0, .int .u64 (0 : Nat), .slice none 0 0, .slice none 0 0]) (z := [.int .i64 0, .int .u64 (0 : Nat), .slice none 0 0, .slice none 0 0]) (pl := [(0, 1), (1, 1), (2, 1), (3, 1)]) (by kernel_rfl) (by kernel_rfl) rfl ?_
  refine l_box rfl rfl (fun b19 => ?_)
  refine l_as rfl ?_
  refine l_as rfl ?_
  refine l_end ?_
  refine c_seq ?_
  refine c_reg ?_
  refine l_as rfl ?_
  refine l_end ?_
  refine c_block ?_
  refine c_loop9 (fun (i : Nat) (now : Int) (cnt : Nat) (kb : List (ByteArray × Int)) (kl : List (Nat × LeaD)) (bv lv : Value) (bs : List BudD) (ls : List LeaD) => [(0, v), (1, .int .i64 a), (2, .int .i64 c), (7, .pointer (some ⟨b1_, 0, none⟩)), (8, .pointer (some ⟨b19, 0, none⟩)), (9, .int .i64 (i : Nat))]) (fun (i : Nat) (now : Int) (cnt : Nat) (kb : List (ByteArray × Int)) (kl : List (Nat × LeaD)) (bv lv : Value) (bs : List BudD) (ls : List LeaD) => (i ≤ acts.length ∧ i ≤ 200) ∧ Grown i now cnt kb kl bs ls ∧ QSrt bs) (fun (i : Nat) (now : Int) (cnt : Nat) (kb : List (ByteArray × Int)) (kl : List (Nat × LeaD)) (bv lv : Value) (bs : List BudD) (ls : List LeaD) => [Res.row b1_ 64 [.map (some bm2_), .map (some lm3_), .int .i64 now, .int .u64 (cnt : Nat)], Res.mp Value.string ekI bm2_ kb, Res.mp ekU leaV lm3_ kl, Res.row b19 30 [.int .i64 now, .int .u64 (cnt : Nat), bv, lv], Res.vec 68 2 bv bs.length (bs.flatMap BudD.cells), Res.vec 37 5 lv ls.length (ls.flatMap LeaD.cells)]) (fun (i : Nat) (now : Int) (cnt : Nat) (kb : List (ByteArray × Int)) (kl : List (Nat × LeaD)) (bv lv : Value) (bs : List BudD) (ls : List LeaD) => acts.length - i) (fun w' hw => ⟨0, 0, 0, [], [], .slice none 0 0, .slice none 0 0, [], [], ⟨rfl, rfl, rfl, rfl, rfl, rfl, trivial⟩, ⟨by omega, ⟨QOk.start, QRel.start, by omega⟩, QSrt.start⟩, (own_nil (own_nil hw 68 2) 37 5)⟩) (fun i now cnt kb kl bv lv bs ls g hΦ => ?_)
  have hi := hΦ.1
  have ho := hΦ.2.1.ok
  have hr := hΦ.2.1.rel
  have hcn := hΦ.2.1.cnt
  have ht := ho.time
  have hs := hΦ.2.2
  refine c_seq ?_
  refine c_reg ?_
  refine l_mv rfl ?_
  refine l_mv rfl ?_
  refine l_lenS (len := acts.length) (cs := (acts.flatMap QActD.cells)) (by kernel_rfl) rfl (fun w' hw' => Own.rd hv hw') rfl ?_
  refine l_lss rfl rfl rfl ?_
  refine l_mv rfl ?_
  refine l_band (q := ((i : Nat) : Int) < ((acts.length : Nat) : Int)) 2 4 [26, 25] (((i : Nat) : Int) < 200) rfl rfl rfl rfl rfl rfl trivial rfl (fun h3_4 => ?_) (fun g3_7 => ?_)
  ·
    refine l_on rfl (gT h3_4) ?_
    refine l_mv rfl ?_
    refine l_on rfl (gT h3_4) ?_
    refine l_lss rfl rfl rfl ?_
    exact l_nil (fun w' hw => ⟨(by repeat (first | exact Out.refl _ _ | refine Out.upd rfl ?_ | refine Out.msk rfl ?_)), rfl, hw⟩)
  refine l_mv rfl ?_
  refine l_band (q := (((i : Nat) : Int) < ((acts.length : Nat) : Int)) ∧ (((i : Nat) : Int) < 200)) 2 8 [30, 29] (true = true) rfl rfl rfl rfl rfl rfl trivial rfl (fun h3_8 => ?_) (fun g3_11 => ?_)
  ·
    refine l_on rfl (gT h3_8) ?_
    refine l_mv rfl ?_
    refine l_on rfl (gT h3_8) ?_
    refine l_nilnp (by kernel_rfl) rfl rfl rfl ?_
    exact l_nil (fun w' hw => ⟨(by repeat (first | exact Out.refl _ _ | refine Out.upd rfl ?_ | refine Out.msk rfl ?_)), (bool_dec _), hw⟩)
  refine l_end ?_
  refine c_dec rfl (fun c1 => ?_) (fun c1 => ?_)
  ·
    refine c_skipC ?_
    refine c_seq ?_
    refine c_block ?_
    refine c_last ?_
    refine l_mv rfl ?_
    refine l_mv rfl ?_
    refine l_mv rfl ?_
    refine l_mv rfl ?_
    refine l_idxS (j := i) (sz := 6) (len := acts.length) (cs := (acts.flatMap QActD.cells)) rfl rfl (by kernel_rfl) (fun w' hw' => Own.rd hv hw') rfl (by omega) rfl ?_
    refine l_ldSN (v := v) (off := offV v + i * 6) (i * 6 + 0) (cs := (acts.flatMap QActD.cells)) (QActD.cells (nth acts i)) rfl (by omega) (fun w' hw' => Own.rd hv hw') (flat_atN (sz := 6) (fun _ => rfl) (nth_some (by omega)) (o := 0) (us := (QActD.cells (nth acts i))) (fun k u h => by rw [Nat.zero_add]; exact h)) (by kernel_rfl) rfl ?_
    refine l_call (by kernel_rfl) rfl rfl (fun w' hw => ?_)
    refine (qact_s b1_ bm2_ lm3_ b19 now cnt kb kl bv lv bs ls (nth acts i) w' ho hr (hwf _ (nth_mem (by omega))) (by omega) (hw.give [0, 1, 2, 3, 4, 5] rfl (by decide))).mono ?_
    rintro _ w1 ⟨now'4_, cnt'5_, kb'6_, kl'7_, bv'8_, lv'9_, bs'10_, ls'11_, rfl, hf5_6, hf5_6_1, hf5_6_2, hf5_6_3, hf5_6_4, hO⟩
    refine (?_ : CL _ _ _ _ _ _ (Own w [] [Res.row b1_ 64 [.map (some bm2_), .map (some lm3_), .int .i64 now'4_, .int .u64 (cnt'5_ : Nat)], Res.mp Value.string ekI bm2_ kb'6_, Res.mp ekU leaV lm3_ kl'7_, Res.row b19 30 [.int .i64 now'4_, .int .u64 (cnt'5_ : Nat), bv'8_, lv'9_], Res.vec 68 2 bv'8_ bs'10_.length (bs'10_.flatMap BudD.cells), Res.vec 37 5 lv'9_ ls'11_.length (ls'11_.flatMap LeaD.cells)])) w1 (hw.frameL [0, 1, 2, 3, 4, 5] rfl hO)
    refine l_end ?_
    refine c_last ?_
    refine l_mv rfl ?_
    refine l_add rfl rfl (wi64 (by omega)) rfl ?_
    refine l_as rfl ?_
    exact l_nil (fun w' hw => ⟨i + 1, now'4_, cnt'5_, kb'6_, kl'7_, bv'8_, lv'9_, bs'10_, ls'11_, ⟨rfl, rfl, rfl, rfl, rfl, rfl, trivial⟩, ⟨by omega, ⟨hf5_6, hf5_6_1, by have := hf5_6_2; omega⟩, hf5_6_4 hs⟩, hw, (by omega)⟩)
  ·
    refine c_exitC rfl ?_
    refine c_seq ?_
    refine c_reg ?_
    refine l_call (by kernel_rfl) rfl rfl (fun w' hw => ?_)
    refine (answers_s w').mono ?_
    rintro _ w1 ⟨rfl, hO⟩
    refine (?_ : CL _ _ _ _ _ _ (Own w [] [Res.row b1_ 64 [.map (some bm2_), .map (some lm3_), .int .i64 now, .int .u64 (cnt : Nat)], Res.mp Value.string ekI bm2_ kb, Res.mp ekU leaV lm3_ kl, Res.row b19 30 [.int .i64 now, .int .u64 (cnt : Nat), bv, lv], Res.vec 68 2 bv bs.length (bs.flatMap BudD.cells), Res.vec 37 5 lv ls.length (ls.flatMap LeaD.cells)])) w1 (hw.frame0 hO)
    refine l_not (b := true) rfl rfl ?_
    refine l_mv rfl ?_
    refine l_on rfl rfl ?_
    refine l_mv rfl ?_
    refine l_on rfl rfl ?_
    refine l_nilp (by kernel_rfl) rfl rfl rfl ?_
    refine l_pickF rfl rfl ?_
    refine l_mv rfl ?_
    refine l_on rfl rfl ?_
    refine l_mv rfl ?_
    refine l_on rfl rfl ?_
    refine l_lss rfl rfl rfl ?_
    refine l_pickF rfl rfl ?_
    refine l_mv rfl ?_
    refine l_bor (q := a < 0) 2 10 [53, 52] (c < 0) rfl rfl rfl rfl rfl rfl trivial rfl (fun h6_10 => ?_) (fun g6_13 => ?_)
    ·
      refine l_on rfl (gF h6_10) ?_
      refine l_mv rfl ?_
      refine l_on rfl (gF h6_10) ?_
      refine l_lss rfl rfl rfl ?_
      exact l_nil (fun w' hw => ⟨(by repeat (first | exact Out.refl _ _ | refine Out.upd rfl ?_ | refine Out.msk rfl ?_)), rfl, hw⟩)
    refine l_mv rfl ?_
    refine l_bor (q := (a < 0) ∨ (c < 0)) 2 14 [57, 56] (549755813888 < a) rfl rfl rfl rfl rfl rfl trivial rfl (fun h6_14 => ?_) (fun g6_17 => ?_)
    ·
      refine l_on rfl (gF h6_14) ?_
      refine l_mv rfl ?_
      refine l_on rfl (gF h6_14) ?_
      refine l_gtr rfl rfl rfl ?_
      exact l_nil (fun w' hw => ⟨(by repeat (first | exact Out.refl _ _ | refine Out.upd rfl ?_ | refine Out.msk rfl ?_)), rfl, hw⟩)
    refine l_mv rfl ?_
    refine l_bor (q := ((a < 0) ∨ (c < 0)) ∨ (549755813888 < a)) 2 18 [61, 60] (549755813888 < c) rfl rfl rfl rfl rfl rfl trivial rfl (fun h6_18 => ?_) (fun g6_21 => ?_)
    ·
      refine l_on rfl (gF h6_18) ?_
      refine l_mv rfl ?_
      refine l_on rfl (gF h6_18) ?_
      refine l_gtr rfl rfl rfl ?_
      exact l_nil (fun w' hw => ⟨(by repeat (first | exact Out.refl _ _ | refine Out.upd rfl ?_ | refine Out.msk rfl ?_)), rfl, hw⟩)
    refine l_mv rfl ?_
    refine l_bor (q := (((a < 0) ∨ (c < 0)) ∨ (549755813888 < a)) ∨ (549755813888 < c)) 3 22 [66, 65, 64] (2305841909702066176 < now) rfl rfl rfl rfl rfl rfl trivial rfl (fun h6_22 => ?_) (fun g6_26 => ?_)
    ·
      refine l_on rfl (gF h6_22) ?_
      refine l_mv rfl ?_
      refine l_on rfl (gF h6_22) ?_
      refine l_call (by kernel_rfl) rfl rfl (fun w' hw => ?_)
      refine (time_s b1_ bm2_ lm3_ now cnt w' (hw.give [0] rfl (by decide))).mono ?_
      rintro _ w1 ⟨rfl, hO⟩
      refine (?_ : CL _ _ _ _ _ _ (Own w [] [Res.mp Value.string ekI bm2_ kb, Res.mp ekU leaV lm3_ kl, Res.row b19 30 [.int .i64 now, .int .u64 (cnt : Nat), bv, lv], Res.vec 68 2 bv bs.length (bs.flatMap BudD.cells), Res.vec 37 5 lv ls.length (ls.flatMap LeaD.cells), Res.row b1_ 64 [.map (some bm2_), .map (some lm3_), .int .i64 now, .int .u64 (cnt : Nat)]])) w1 (hw.frameL [0] rfl hO)
      refine l_on rfl (gF h6_22) ?_
      refine l_gtr rfl rfl rfl ?_
      exact l_nil (fun w' hw => ⟨(by repeat (first | exact Out.refl _ _ | refine Out.upd rfl ?_ | refine Out.msk rfl ?_)), rfl, hw.sel [5, 0, 1, 2, 3, 4] rfl (by decide)⟩)
    refine l_end ?_
    refine c_dec rfl (fun c2 => ?_) (fun c2 => ?_)
    ·
      refine c_reg ?_
      refine l_call (by kernel_rfl) rfl rfl (fun w' hw => ?_)
      refine (answers_s w').mono ?_
      rintro _ w1 ⟨rfl, hO⟩
      refine (?_ : CL _ _ _ _ _ _ (Own w [] [Res.row b1_ 64 [.map (some bm2_), .map (some lm3_), .int .i64 now, .int .u64 (cnt : Nat)], Res.mp Value.string ekI bm2_ kb, Res.mp ekU leaV lm3_ kl, Res.row b19 30 [.int .i64 now, .int .u64 (cnt : Nat), bv, lv], Res.vec 68 2 bv bs.length (bs.flatMap BudD.cells), Res.vec 37 5 lv ls.length (ls.flatMap LeaD.cells)])) w1 (hw.frame0 hO)
      refine l_mv rfl ?_
      refine l_on rfl rfl ?_
      refine l_mv rfl ?_
      refine l_on rfl rfl ?_
      refine l_nilnp (by kernel_rfl) rfl rfl rfl ?_
      refine l_pickT rfl rfl ?_
      refine l_as rfl ?_
      refine l_end ?_
      exact c_ret (ret1 (v := .bool true) rfl rfl (fun w' hw => ⟨rfl, hw.drop⟩))
    ·
      have hA : 0 ≤ a ∧ 0 ≤ c ∧ a ≤ 549755813888 ∧ c ≤ 549755813888 ∧ now ≤ 2305841909702066176 := by omega
      have he1 : passE now (a + c) = 0 := passE_ok ⟨by omega, by omega⟩ (by omega)
      have he2 : passE now a = 0 := passE_ok ⟨by omega, by omega⟩ (by omega)
      have he3 : passE (now + a) c = 0 := passE_ok ⟨by omega, by omega⟩ (by omega)
      have h2p := two_pass (kl := kl) hA.1 hA.2.1 he1 he2 he3
      have hkk := ho.knl hr
      have hkl : kl.length ≤ 128 := by rw [hr.llen]; exact ho.llen
      have hkb : kb.length ≤ 64 := by rw [hr.blen]; exact ho.blen
      refine c_skipC ?_
      refine c_reg ?_
      refine l_mv rfl ?_
      refine l_call (by kernel_rfl) rfl rfl (fun w' hw => ?_)
      refine (copy_s b1_ bm2_ lm3_ now cnt kb kl w' (hw.give [0, 1, 2] rfl (by decide))).mono ?_
      rintro _ w1 ⟨b'12_, bm'13_, lm'14_, rfl, hO⟩
      refine (?_ : CL _ _ _ _ _ _ (Own w [] [Res.row b19 30 [.int .i64 now, .int .u64 (cnt : Nat), bv, lv], Res.vec 68 2 bv bs.length (bs.flatMap BudD.cells), Res.vec 37 5 lv ls.length (ls.flatMap LeaD.cells), Res.row b1_ 64 [.map (some bm2_), .map (some lm3_), .int .i64 now, .int .u64 (cnt : Nat)], Res.mp Value.string ekI bm2_ kb, Res.mp ekU leaV lm3_ kl, Res.row b'12_ 64 [.map (some bm'13_), .map (some lm'14_), .int .i64 now, .int .u64 (cnt : Nat)], Res.mp Value.string ekI bm'13_ kb, Res.mp ekU leaV lm'14_ kl])) w1 (hw.frameL [0, 1, 2] rfl hO)
      refine l_as rfl ?_
      refine l_end ?_
      refine c_reg ?_
      refine l_mv rfl ?_
      refine l_mv rfl ?_
      refine l_mv rfl ?_
      refine l_add rfl rfl (wi64 (by omega)) rfl ?_
      refine l_call (by kernel_rfl) rfl rfl (fun w' hw => ?_)
      refine (pass_s b1_ bm2_ lm3_ now cnt kl (a + c) w' ht ⟨by omega, by omega⟩ hkk hkl (hw.give [3, 5] rfl (by decide))).mono ?_
      rintro _ w1 ⟨gv15_, gs16_, e17_, now'18_, kl'19_, rfl, hf9_4, hf9_4_1, hf9_4_2, hf9_4_3, hf9_4_4, hO⟩
      have p1 := hf9_4.trans he1
      have n1 : now'18_ = now + (a + c) := by rw [hf9_4_1]; unfold passN; rw [if_pos he1]
      have k1 := hf9_4_2
      have g1 := hf9_4_3
      refine (?_ : CL _ _ _ _ _ _ (Own w [] [Res.row b19 30 [.int .i64 now, .int .u64 (cnt : Nat), bv, lv], Res.vec 68 2 bv bs.length (bs.flatMap BudD.cells), Res.vec 37 5 lv ls.length (ls.flatMap LeaD.cells), Res.mp Value.string ekI bm2_ kb, Res.row b'12_ 64 [.map (some bm'13_), .map (some lm'14_), .int .i64 now, .int .u64 (cnt : Nat)], Res.mp Value.string ekI bm'13_ kb, Res.mp ekU leaV lm'14_ kl, Res.row b1_ 64 [.map (some bm2_), .map (some lm3_), .int .i64 now'18_, .int .u64 (cnt : Nat)], Res.mp ekU leaV lm3_ kl'19_, Res.vec 26 1 gv15_ gs16_.length (gs16_.flatMap U1)])) w1 (hw.frameL [3, 5] rfl hO)
      refine l_mv rfl ?_
      refine l_ext (vs := [gv15_, .int .i64 e17_]) rfl rfl rfl ?_
      refine l_ext (vs := [gv15_, .int .i64 e17_]) rfl rfl rfl ?_
      refine l_as rfl ?_
      refine l_as rfl ?_
      refine l_end ?_
      refine c_reg ?_
      refine l_mv rfl ?_
      refine l_mv rfl ?_
      refine l_call (by kernel_rfl) rfl rfl (fun w' hw => ?_)
      refine (pass_s b'12_ bm'13_ lm'14_ now cnt kl a w' ht ⟨by omega, by omega⟩ hkk hkl (hw.give [4, 6] rfl (by decide))).mono ?_
      rintro _ w1 ⟨gv20_, gs21_, e22_, now'23_, kl'24_, rfl, hf10_2, hf10_2_1, hf10_2_2, hf10_2_3, hf10_2_4, hO⟩
      have p2 := hf10_2.trans he2
      have n2 : now'23_ = now + a := by rw [hf10_2_1]; unfold passN; rw [if_pos he2]
      have k2 := hf10_2_2
      have g2 := hf10_2_3
      refine (?_ : CL _ _ _ _ _ _ (Own w [] [Res.row b19 30 [.int .i64 now, .int .u64 (cnt : Nat), bv, lv], Res.vec 68 2 bv bs.length (bs.flatMap BudD.cells), Res.vec 37 5 lv ls.length (ls.flatMap LeaD.cells), Res.mp Value.string ekI bm2_ kb, Res.mp Value.string ekI bm'13_ kb, Res.row b1_ 64 [.map (some bm2_), .map (some lm3_), .int .i64 now'18_, .int .u64 (cnt : Nat)], Res.mp ekU leaV lm3_ kl'19_, Res.vec 26 1 gv15_ gs16_.length (gs16_.flatMap U1), Res.row b'12_ 64 [.map (some bm'13_), .map (some lm'14_), .int .i64 now'23_, .int .u64 (cnt : Nat)], Res.mp ekU leaV lm'14_ kl'24_, Res.vec 26 1 gv20_ gs21_.length (gs21_.flatMap U1)])) w1 (hw.frameL [4, 6] rfl hO)
      refine l_mv rfl ?_
      refine l_ext (vs := [gv20_, .int .i64 e22_]) rfl rfl rfl ?_
      refine l_ext (vs := [gv20_, .int .i64 e22_]) rfl rfl rfl ?_
      refine l_as rfl ?_
      refine l_as rfl ?_
      refine l_end ?_
      refine c_reg ?_
      refine l_mv rfl ?_
      refine l_mv rfl ?_
      refine l_call (by kernel_rfl) rfl rfl (fun w' hw => ?_)
      refine (pass_s b'12_ bm'13_ lm'14_ now'23_ cnt kl'24_ c w' (by omega) ⟨by omega, by omega⟩ (by rw [k2]; exact pass_nd hkk) (by rw [k2]; exact Nat.le_trans pass_len hkl) (hw.give [8, 9] rfl (by decide))).mono ?_
      rintro _ w1 ⟨gv25_, gs26_, e27_, now'28_, kl'29_, rfl, hf11_2, hf11_2_1, hf11_2_2, hf11_2_3, hf11_2_4, hO⟩
      have p3 := hf11_2
      have n3 := hf11_2_1
      have k3 := hf11_2_2
      have g3 := hf11_2_3
      rw [n2] at p3 n3 k3 g3
      have p3 := p3.trans he3
      have n3 : now'28_ = now + a + c := by rw [n3]; unfold passN; rw [if_pos he3]
      rw [k2] at k3 g3
      have hlen : gs16_.length = gs21_.length + gs26_.length := by rw [g1.length_eq, g2.length_eq, g3.length_eq]; exact h2p.2
      have k3 := k3.trans h2p.1
      have b1 := gone_len g1
      have b2 := gone_len g2
      refine (?_ : CL _ _ _ _ _ _ (Own w [] [Res.row b19 30 [.int .i64 now, .int .u64 (cnt : Nat), bv, lv], Res.vec 68 2 bv bs.length (bs.flatMap BudD.cells), Res.vec 37 5 lv ls.length (ls.flatMap LeaD.cells), Res.mp Value.string ekI bm2_ kb, Res.mp Value.string ekI bm'13_ kb, Res.row b1_ 64 [.map (some bm2_), .map (some lm3_), .int .i64 now'18_, .int .u64 (cnt : Nat)], Res.mp ekU leaV lm3_ kl'19_, Res.vec 26 1 gv15_ gs16_.length (gs16_.flatMap U1), Res.vec 26 1 gv20_ gs21_.length (gs21_.flatMap U1), Res.row b'12_ 64 [.map (some bm'13_), .map (some lm'14_), .int .i64 now'28_, .int .u64 (cnt : Nat)], Res.mp ekU leaV lm'14_ kl'29_, Res.vec 26 1 gv25_ gs26_.length (gs26_.flatMap U1)])) w1 (hw.frameL [8, 9] rfl hO)
      refine l_mv rfl ?_
      refine l_ext (vs := [gv25_, .int .i64 e27_]) rfl rfl rfl ?_
      refine l_ext (vs := [gv25_, .int .i64 e27_]) rfl rfl rfl ?_
      refine l_as rfl ?_
      refine l_as rfl ?_
      refine l_end ?_
      refine c_seq ?_
      refine c_reg ?_
      refine l_mv rfl ?_
      refine l_ne rfl rfl rfl ?_
      refine l_mv rfl ?_
      refine l_bor (q := e17_ ≠ 0) 2 2 [99, 98] (e22_ ≠ 0) rfl rfl rfl rfl rfl rfl trivial rfl (fun h12_2 => ?_) (fun g12_5 => ?_)
      ·
        refine l_on rfl (gF h12_2) ?_
        refine l_mv rfl ?_
        refine l_on rfl (gF h12_2) ?_
        refine l_ne rfl rfl rfl ?_
        exact l_nil (fun w' hw => ⟨(by repeat (first | exact Out.refl _ _ | refine Out.upd rfl ?_ | refine Out.msk rfl ?_)), rfl, hw⟩)
      refine l_mv rfl ?_
      refine l_bor (q := (e17_ ≠ 0) ∨ (e22_ ≠ 0)) 2 6 [103, 102] (e27_ ≠ 0) rfl rfl rfl rfl rfl rfl trivial rfl (fun h12_6 => ?_) (fun g12_9 => ?_)
      ·
        refine l_on rfl (gF h12_6) ?_
        refine l_mv rfl ?_
        refine l_on rfl (gF h12_6) ?_
        refine l_ne rfl rfl rfl ?_
        exact l_nil (fun w' hw => ⟨(by repeat (first | exact Out.refl _ _ | refine Out.upd rfl ?_ | refine Out.msk rfl ?_)), rfl, hw⟩)
      refine l_mv rfl ?_
      refine l_bor (q := ((e17_ ≠ 0) ∨ (e22_ ≠ 0)) ∨ (e27_ ≠ 0)) 8 10 [113, 112, 111, 110, 109, 108, 107, 106] (((gs16_.length : Nat) : Int) ≠ ((gs21_.length + gs26_.length : Nat) : Int)) rfl rfl rfl rfl rfl rfl trivial rfl (fun h12_10 => ?_) (fun g12_19 => ?_)
      ·
        refine l_on rfl (gF h12_10) ?_
        refine l_mv rfl ?_
        refine l_on rfl (gF h12_10) ?_
        refine l_lenS (len := gs16_.length) (cs := (gs16_.flatMap U1)) (by kernel_rfl) rfl (fun w' hw' => Vec.sl (Own.holds hw' 7 _ rfl)) rfl ?_
        refine l_on rfl (gF h12_10) ?_
        refine l_mv rfl ?_
        refine l_on rfl (gF h12_10) ?_
        refine l_lenS (len := gs21_.length) (cs := (gs21_.flatMap U1)) (by kernel_rfl) rfl (fun w' hw' => Vec.sl (Own.holds hw' 8 _ rfl)) rfl ?_
        refine l_on rfl (gF h12_10) ?_
        refine l_mv rfl ?_
        refine l_on rfl (gF h12_10) ?_
        refine l_lenS (len := gs26_.length) (cs := (gs26_.flatMap U1)) (by kernel_rfl) rfl (fun w' hw' => Vec.sl (Own.holds hw' 11 _ rfl)) rfl ?_
        refine l_on rfl (gF h12_10) ?_
        refine l_add rfl rfl (wi64 (by omega)) rfl ?_
        refine l_on rfl (gF h12_10) ?_
        refine l_ne rfl rfl rfl ?_
        exact l_nil (fun w' hw => ⟨(by repeat (first | exact Out.refl _ _ | refine Out.upd rfl ?_ | refine Out.msk rfl ?_)), rfl, hw⟩)
      refine l_mv rfl ?_
      refine l_bor (q := (((e17_ ≠ 0) ∨ (e22_ ≠ 0)) ∨ (e27_ ≠ 0)) ∨ (((gs16_.length : Nat) : Int) ≠ ((gs21_.length + gs26_.length : Nat) : Int))) 5 20 [120, 119, 118, 117, 116] (now'18_ ≠ now'28_) rfl rfl rfl rfl rfl rfl trivial rfl (fun h12_20 => ?_) (fun g12_26 => ?_)
      ·
        refine l_on rfl (gF h12_20) ?_
        refine l_mv rfl ?_
        refine l_on rfl (gF h12_20) ?_
        refine l_call (by kernel_rfl) rfl rfl (fun w' hw => ?_)
        refine (time_s b1_ bm2_ lm3_ now'18_ cnt w' (hw.give [5] rfl (by decide))).mono ?_
        rintro _ w1 ⟨rfl, hO⟩
        refine (?_ : CL _ _ _ _ _ _ (Own w [] [Res.row b19 30 [.int .i64 now, .int .u64 (cnt : Nat), bv, lv], Res.vec 68 2 bv bs.length (bs.flatMap BudD.cells), Res.vec 37 5 lv ls.length (ls.flatMap LeaD.cells), Res.mp Value.string ekI bm2_ kb, Res.mp Value.string ekI bm'13_ kb, Res.mp ekU leaV lm3_ kl'19_, Res.vec 26 1 gv15_ gs16_.length (gs16_.flatMap U1), Res.vec 26 1 gv20_ gs21_.length (gs21_.flatMap U1), Res.row b'12_ 64 [.map (some bm'13_), .map (some lm'14_), .int .i64 now'28_, .int .u64 (cnt : Nat)], Res.mp ekU leaV lm'14_ kl'29_, Res.vec 26 1 gv25_ gs26_.length (gs26_.flatMap U1), Res.row b1_ 64 [.map (some bm2_), .map (some lm3_), .int .i64 now'18_, .int .u64 (cnt : Nat)]])) w1 (hw.frameL [5] rfl hO)
        refine l_on rfl (gF h12_20) ?_
        refine l_mv rfl ?_
        refine l_on rfl (gF h12_20) ?_
        refine l_call (by kernel_rfl) rfl rfl (fun w' hw => ?_)
        refine (time_s b'12_ bm'13_ lm'14_ now'28_ cnt w' (hw.give [8] rfl (by decide))).mono ?_
        rintro _ w1 ⟨rfl, hO⟩
        refine (?_ : CL _ _ _ _ _ _ (Own w [] [Res.row b19 30 [.int .i64 now, .int .u64 (cnt : Nat), bv, lv], Res.vec 68 2 bv bs.length (bs.flatMap BudD.cells), Res.vec 37 5 lv ls.length (ls.flatMap LeaD.cells), Res.mp Value.string ekI bm2_ kb, Res.mp Value.string ekI bm'13_ kb, Res.mp ekU leaV lm3_ kl'19_, Res.vec 26 1 gv15_ gs16_.length (gs16_.flatMap U1), Res.vec 26 1 gv20_ gs21_.length (gs21_.flatMap U1), Res.mp ekU leaV lm'14_ kl'29_, Res.vec 26 1 gv25_ gs26_.length (gs26_.flatMap U1), Res.row b1_ 64 [.map (some bm2_), .map (some lm3_), .int .i64 now'18_, .int .u64 (cnt : Nat)], Res.row b'12_ 64 [.map (some bm'13_), .map (some lm'14_), .int .i64 now'28_, .int .u64 (cnt : Nat)]])) w1 (hw.frameL [8] rfl hO)
        refine l_on rfl (gF h12_20) ?_
        refine l_ne rfl rfl rfl ?_
        exact l_nil (fun w' hw => ⟨(by repeat (first | exact Out.refl _ _ | refine Out.upd rfl ?_ | refine Out.msk rfl ?_)), rfl, hw.sel [0, 1, 2, 3, 4, 10, 5, 6, 7, 11, 8, 9] rfl (by decide)⟩)
      refine l_end ?_
      refine c_dec rfl (fun c3 => ?_) (fun c3 => ?_)
      ·
        refine c_reg ?_
        refine l_as rfl ?_
        refine l_end ?_
        exact c_ret (ret1 (v := .bool false) rfl rfl (fun w' hw => ⟨(by exfalso; omega), hw.drop⟩))
      ·
        refine c_skipC ?_
        refine c_reg ?_
        refine l_mv rfl ?_
        refine l_call (by kernel_rfl) rfl rfl (fun w' hw => ?_)
        refine (leases_s b1_ bm2_ lm3_ now'18_ cnt kl'19_ w' (by rw [k1]; exact Nat.le_trans pass_len (by omega)) (hw.give [5, 6] rfl (by decide))).mono ?_
        rintro v30_ w1 ⟨_, l31_, rfl, hf14_1, hf14_1_1, hO⟩
        have hl1 : l31_ = passL now (a + c) ls := leas_eq (ho.pass (a + c) ⟨by omega, by omega⟩) (by rw [k1]; exact hr.pass (a + c)) hf14_1 hf14_1_1
        refine (?_ : CL _ _ _ _ _ _ (Own w [] [Res.row b19 30 [.int .i64 now, .int .u64 (cnt : Nat), bv, lv], Res.vec 68 2 bv bs.length (bs.flatMap BudD.cells), Res.vec 37 5 lv ls.length (ls.flatMap LeaD.cells), Res.mp Value.string ekI bm2_ kb, Res.mp Value.string ekI bm'13_ kb, Res.vec 26 1 gv15_ gs16_.length (gs16_.flatMap U1), Res.vec 26 1 gv20_ gs21_.length (gs21_.flatMap U1), Res.row b'12_ 64 [.map (some bm'13_), .map (some lm'14_), .int .i64 now'28_, .int .u64 (cnt : Nat)], Res.mp ekU leaV lm'14_ kl'29_, Res.vec 26 1 gv25_ gs26_.length (gs26_.flatMap U1), Res.row b1_ 64 [.map (some bm2_), .map (some lm3_), .int .i64 now'18_, .int .u64 (cnt : Nat)], Res.mp ekU leaV lm3_ kl'19_, Res.vec 37 5 v30_ l31_.length (l31_.flatMap LeaD.cells)])) w1 (hw.frameL [5, 6] rfl hO)
        refine l_mv rfl ?_
        refine l_call (by kernel_rfl) rfl rfl (fun w' hw => ?_)
        refine (leases_s b'12_ bm'13_ lm'14_ now'28_ cnt kl'29_ w' (by rw [k3]; exact Nat.le_trans pass_len (by omega)) (hw.give [7, 8] rfl (by decide))).mono ?_
        rintro v32_ w1 ⟨_, l33_, rfl, hf14_3, hf14_3_1, hO⟩
        have hl2 : l33_ = passL now (a + c) ls := leas_eq (ho.pass (a + c) ⟨by omega, by omega⟩) (by rw [k3]; exact hr.pass (a + c)) hf14_3 hf14_3_1
        have hl3 := (ho.pass (a + c) ⟨by omega, by omega⟩).llen
        refine (?_ : CL _ _ _ _ _ _ (Own w [] [Res.row b19 30 [.int .i64 now, .int .u64 (cnt : Nat), bv, lv], Res.vec 68 2 bv bs.length (bs.flatMap BudD.cells), Res.vec 37 5 lv ls.length (ls.flatMap LeaD.cells), Res.mp Value.string ekI bm2_ kb, Res.mp Value.string ekI bm'13_ kb, Res.vec 26 1 gv15_ gs16_.length (gs16_.flatMap U1), Res.vec 26 1 gv20_ gs21_.length (gs21_.flatMap U1), Res.vec 26 1 gv25_ gs26_.length (gs26_.flatMap U1), Res.row b1_ 64 [.map (some bm2_), .map (some lm3_), .int .i64 now'18_, .int .u64 (cnt : Nat)], Res.mp ekU leaV lm3_ kl'19_, Res.vec 37 5 v30_ l31_.length (l31_.flatMap LeaD.cells), Res.row b'12_ 64 [.map (some bm'13_), .map (some lm'14_), .int .i64 now'28_, .int .u64 (cnt : Nat)], Res.mp ekU leaV lm'14_ kl'29_, Res.vec 37 5 v32_ l33_.length (l33_.flatMap LeaD.cells)])) w1 (hw.frameL [7, 8] rfl hO)
        refine l_call (by kernel_rfl) rfl rfl (fun w' hw => ?_)
        refine (sameLeases_s v30_ l31_ v32_ l33_ w' (by rw [hl1]; omega) (by rw [hl2]; omega) (hw.rdVec0 10 rfl) (hw.rdVec0 13 rfl)).mono ?_
        rintro _ w1 ⟨rfl, hO⟩
        refine (?_ : CL _ _ _ _ _ _ (Own w [] [Res.row b19 30 [.int .i64 now, .int .u64 (cnt : Nat), bv, lv], Res.vec 68 2 bv bs.length (bs.flatMap BudD.cells), Res.vec 37 5 lv ls.length (ls.flatMap LeaD.cells), Res.mp Value.string ekI bm2_ kb, Res.mp Value.string ekI bm'13_ kb, Res.vec 26 1 gv15_ gs16_.length (gs16_.flatMap U1), Res.vec 26 1 gv20_ gs21_.length (gs21_.flatMap U1), Res.vec 26 1 gv25_ gs26_.length (gs26_.flatMap U1), Res.row b1_ 64 [.map (some bm2_), .map (some lm3_), .int .i64 now'18_, .int .u64 (cnt : Nat)], Res.mp ekU leaV lm3_ kl'19_, Res.vec 37 5 v30_ l31_.length (l31_.flatMap LeaD.cells), Res.row b'12_ 64 [.map (some bm'13_), .map (some lm'14_), .int .i64 now'28_, .int .u64 (cnt : Nat)], Res.mp ekU leaV lm'14_ kl'29_, Res.vec 37 5 v32_ l33_.length (l33_.flatMap LeaD.cells)])) w1 (hw.frame0 hO)
        refine l_mv rfl ?_
        refine l_band (q := l31_ = l33_) 5 5 [132, 131, 130, 129, 128] (True) rfl rfl rfl rfl rfl rfl trivial rfl (fun h14_5 => ?_) (fun g14_11 => ?_)
        ·
          refine l_on rfl (gT h14_5) ?_
          refine l_mv rfl ?_
          refine l_on rfl (gT h14_5) ?_
          refine l_call (by kernel_rfl) rfl rfl (fun w' hw => ?_)
          refine (budgets_s b1_ bm2_ lm3_ now'18_ cnt kb w' (by omega) (hw.give [8, 3] rfl (by decide))).mono ?_
          rintro v34_ w1 ⟨_, l35_, ks36_, rfl, hf14_7, hf14_7_1, hf14_7_2, hO⟩
          have hb1 : l35_ = bs := hf14_7_2.trans (buds_eq ho hs hr hf14_7 hf14_7_1)
          refine (?_ : CL _ _ _ _ _ _ (Own w [] [Res.row b19 30 [.int .i64 now, .int .u64 (cnt : Nat), bv, lv], Res.vec 68 2 bv bs.length (bs.flatMap BudD.cells), Res.vec 37 5 lv ls.length (ls.flatMap LeaD.cells), Res.mp Value.string ekI bm'13_ kb, Res.vec 26 1 gv15_ gs16_.length (gs16_.flatMap U1), Res.vec 26 1 gv20_ gs21_.length (gs21_.flatMap U1), Res.vec 26 1 gv25_ gs26_.length (gs26_.flatMap U1), Res.mp ekU leaV lm3_ kl'19_, Res.vec 37 5 v30_ l31_.length (l31_.flatMap LeaD.cells), Res.row b'12_ 64 [.map (some bm'13_), .map (some lm'14_), .int .i64 now'28_, .int .u64 (cnt : Nat)], Res.mp ekU leaV lm'14_ kl'29_, Res.vec 37 5 v32_ l33_.length (l33_.flatMap LeaD.cells), Res.row b1_ 64 [.map (some bm2_), .map (some lm3_), .int .i64 now'18_, .int .u64 (cnt : Nat)], Res.mp Value.string ekI bm2_ kb, Res.vec 68 2 v34_ l35_.length (l35_.flatMap BudD.cells)])) w1 (hw.frameL [8, 3] rfl hO)
          refine l_on rfl (gT h14_5) ?_
          refine l_mv rfl ?_
          refine l_on rfl (gT h14_5) ?_
          refine l_call (by kernel_rfl) rfl rfl (fun w' hw => ?_)
          refine (budgets_s b'12_ bm'13_ lm'14_ now'28_ cnt kb w' (by omega) (hw.give [9, 3] rfl (by decide))).mono ?_
          rintro v37_ w1 ⟨_, l38_, ks39_, rfl, hf14_9, hf14_9_1, hf14_9_2, hO⟩
          have hb2 : l38_ = bs := hf14_9_2.trans (buds_eq ho hs hr hf14_9 hf14_9_1)
          have hb3 := ho.blen
          refine (?_ : CL _ _ _ _ _ _ (Own w [] [Res.row b19 30 [.int .i64 now, .int .u64 (cnt : Nat), bv, lv], Res.vec 68 2 bv bs.length (bs.flatMap BudD.cells), Res.vec 37 5 lv ls.length (ls.flatMap LeaD.cells), Res.vec 26 1 gv15_ gs16_.length (gs16_.flatMap U1), Res.vec 26 1 gv20_ gs21_.length (gs21_.flatMap U1), Res.vec 26 1 gv25_ gs26_.length (gs26_.flatMap U1), Res.mp ekU leaV lm3_ kl'19_, Res.vec 37 5 v30_ l31_.length (l31_.flatMap LeaD.cells), Res.mp ekU leaV lm'14_ kl'29_, Res.vec 37 5 v32_ l33_.length (l33_.flatMap LeaD.cells), Res.row b1_ 64 [.map (some bm2_), .map (some lm3_), .int .i64 now'18_, .int .u64 (cnt : Nat)], Res.mp Value.string ekI bm2_ kb, Res.vec 68 2 v34_ l35_.length (l35_.flatMap BudD.cells), Res.row b'12_ 64 [.map (some bm'13_), .map (some lm'14_), .int .i64 now'28_, .int .u64 (cnt : Nat)], Res.mp Value.string ekI bm'13_ kb, Res.vec 68 2 v37_ l38_.length (l38_.flatMap BudD.cells)])) w1 (hw.frameL [9, 3] rfl hO)
          refine l_on rfl (gT h14_5) ?_
          refine l_call (by kernel_rfl) rfl rfl (fun w' hw => ?_)
          refine (sameBudgets_s v34_ l35_ v37_ l38_ w' (by rw [hb1]; omega) (by rw [hb2]; omega) (hw.rdVec0 12 rfl) (hw.rdVec0 15 rfl)).mono ?_
          rintro _ w1 ⟨rfl, hO⟩
          refine (?_ : CL _ _ _ _ _ _ (Own w [] [Res.row b19 30 [.int .i64 now, .int .u64 (cnt : Nat), bv, lv], Res.vec 68 2 bv bs.length (bs.flatMap BudD.cells), Res.vec 37 5 lv ls.length (ls.flatMap LeaD.cells), Res.vec 26 1 gv15_ gs16_.length (gs16_.flatMap U1), Res.vec 26 1 gv20_ gs21_.length (gs21_.flatMap U1), Res.vec 26 1 gv25_ gs26_.length (gs26_.flatMap U1), Res.mp ekU leaV lm3_ kl'19_, Res.vec 37 5 v30_ l31_.length (l31_.flatMap LeaD.cells), Res.mp ekU leaV lm'14_ kl'29_, Res.vec 37 5 v32_ l33_.length (l33_.flatMap LeaD.cells), Res.row b1_ 64 [.map (some bm2_), .map (some lm3_), .int .i64 now'18_, .int .u64 (cnt : Nat)], Res.mp Value.string ekI bm2_ kb, Res.vec 68 2 v34_ l35_.length (l35_.flatMap BudD.cells), Res.row b'12_ 64 [.map (some bm'13_), .map (some lm'14_), .int .i64 now'28_, .int .u64 (cnt : Nat)], Res.mp Value.string ekI bm'13_ kb, Res.vec 68 2 v37_ l38_.length (l38_.flatMap BudD.cells)])) w1 (hw.frame0 hO)
          exact l_nil (fun w' hw => ⟨(by repeat (first | exact Out.refl _ _ | refine Out.upd rfl ?_ | refine Out.msk rfl ?_)), (show Value.bool (decide _) = Value.bool (decide _) by congr 1; rw [decide_eq_decide]; exact ⟨fun _ => trivial, fun _ => hb1.trans hb2.symm⟩), hw.sel [0, 1, 2, 11, 14, 3, 4, 5, 10, 6, 7, 13, 8, 9] rfl (by decide)⟩)
        refine l_as rfl ?_
        refine l_end ?_
        exact c_ret (ret1 (v := .bool (decide ((l31_ = l33_) ∧ True))) rfl rfl (fun w' hw => ⟨(by congr 1; exact decide_eq_true ⟨hl1.trans hl2.symm, trivial⟩), hw.drop⟩))
end Go.Proofs.Ytgkeoenbcjfeaaa
