/-
  THE LAW QuotaActs.
-/
import Derived.Test.YtgkeoenbcjfeaaaGreatQuotaLd
set_option linter.unusedVariables false
set_option maxRecDepth 10000
namespace Go.Proofs.YtgkeoenbcjfeaaaGreat
open Go Go.Sc Go.Proofs

theorem quotaActs_s (v : Value) (acts : List QActD) (w : World) (hl : acts.length ≤ 100000000) (hwf : ∀ a ∈ acts, a.wf) (hv : Rd w [] (Res.sl v acts.length (acts.flatMap QActD.cells))) : Rets Tryz.prog 3 #[v] w fun u_ w' => u_ = .bool true ∧ Own w [] [] w' := by
  refine fn_enter (args := [v]) Tryz.func3 rfl Tryz.ntmps3 rfl (Own.start w) ?_
  refine c_reg ?_
  refine l_as rfl ?_
  refine l_end ?_
  refine c_reg ?_
  refine l_call (by kernel_rfl) rfl rfl (fun w' hw => ?_)
  refine (new_s w').mono ?_
  rintro _ w1 ⟨b1_, bm2_, lm3_, rfl, hO⟩
  refine (?_ : CL _ _ _ _ _ _ (Own w [] [Res.row b1_ 58 [.map (some bm2_), .map (some lm3_), .int .i64 0, .int .u64 (0 : Nat)], Res.mp Value.string ekI bm2_ ([] : List (ByteArray × Int)), Res.mp ekU leaV lm3_ ([] : List (Nat × LeaD))])) w1 (hw.frame0 hO)
  refine l_bld (cs := [.int .i64 0, .int .u64 (0 : Nat), .slice none 0 0, .slice none 0 0]) (z := [.int .i64 0, .int .u64 (0 : Nat), .slice none 0 0, .slice none 0 0]) (pl := [(0, 1), (1, 1), (2, 1), (3, 1)]) (by kernel_rfl) (by kernel_rfl) rfl ?_
  refine l_box rfl rfl (fun b9 => ?_)
  refine l_as rfl ?_
  refine l_as rfl ?_
  refine l_end ?_
  refine c_seq ?_
  refine c_reg ?_
  refine l_call (by kernel_rfl) rfl rfl (fun w' hw => ?_)
  refine (answers_s w').mono ?_
  rintro _ w1 ⟨rfl, hO⟩
  refine (?_ : CL _ _ _ _ _ _ (Own w [] [Res.row b1_ 58 [.map (some bm2_), .map (some lm3_), .int .i64 0, .int .u64 (0 : Nat)], Res.mp Value.string ekI bm2_ ([] : List (ByteArray × Int)), Res.mp ekU leaV lm3_ ([] : List (Nat × LeaD)), Res.row b9 30 [.int .i64 0, .int .u64 (0 : Nat), .slice none 0 0, .slice none 0 0]])) w1 (hw.frame0 hO)
  refine l_not (b := true) rfl rfl ?_
  refine l_mv rfl ?_
  refine l_on rfl rfl ?_
  refine l_mv rfl ?_
  refine l_on rfl rfl ?_
  refine l_nilp (by kernel_rfl) rfl rfl rfl ?_
  refine l_pickF rfl rfl ?_
  refine l_end ?_
  refine c_no rfl ?_
  refine c_skipC ?_
  refine c_seq ?_
  refine c_reg ?_
  refine l_as rfl ?_
  refine l_end ?_
  refine c_block ?_
  refine c_loop12 (fun (i b bm lm : Nat) (now : Int) (cnt : Nat) (kb : List (ByteArray × Int)) (kl : List (Nat × LeaD)) (bv lv : Value) (bs : List BudD) (ls : List LeaD) => [(0, v), (3, .pointer (some ⟨b, 0, none⟩)), (4, .pointer (some ⟨b9, 0, none⟩)), (5, .int .i64 (i : Nat))]) (fun (i b bm lm : Nat) (now : Int) (cnt : Nat) (kb : List (ByteArray × Int)) (kl : List (Nat × LeaD)) (bv lv : Value) (bs : List BudD) (ls : List LeaD) => (i ≤ acts.length ∧ i ≤ 300) ∧ Grown i now cnt kb kl bs ls ∧ QSrt bs) (fun (i b bm lm : Nat) (now : Int) (cnt : Nat) (kb : List (ByteArray × Int)) (kl : List (Nat × LeaD)) (bv lv : Value) (bs : List BudD) (ls : List LeaD) => [Res.row b 58 [.map (some bm), .map (some lm), .int .i64 now, .int .u64 (cnt : Nat)], Res.mp Value.string ekI bm kb, Res.mp ekU leaV lm kl, Res.row b9 30 [.int .i64 now, .int .u64 (cnt : Nat), bv, lv], Res.vec 62 2 bv bs.length (bs.flatMap BudD.cells), Res.vec 49 5 lv ls.length (ls.flatMap LeaD.cells)]) (fun (i b bm lm : Nat) (now : Int) (cnt : Nat) (kb : List (ByteArray × Int)) (kl : List (Nat × LeaD)) (bv lv : Value) (bs : List BudD) (ls : List LeaD) => acts.length - i) (fun w' hw => ⟨0, b1_, bm2_, lm3_, 0, 0, [], [], .slice none 0 0, .slice none 0 0, [], [], ⟨rfl, rfl, rfl, rfl, trivial⟩, ⟨by omega, ⟨QOk.start, QRel.start, by omega⟩, QSrt.start⟩, (own_nil (own_nil hw 62 2) 49 5)⟩) (fun i b bm lm now cnt kb kl bv lv bs ls g hΦ => ?_)
  have hi := hΦ.1
  have ho := hΦ.2.1.ok
  have hr := hΦ.2.1.rel
  have hcn := hΦ.2.1.cnt
  have ht := ho.time
  have hs := hΦ.2.2
  refine c_seq ?_
  refine c_reg ?_
  refine l_mv rfl ?_
  refine l_mv rfl ?_
  refine l_lenS (len := acts.length) (cs := (acts.flatMap QActD.cells)) (by kernel_rfl) rfl (fun w' hw' => Own.rd hv hw') rfl ?_
  refine l_lss rfl rfl rfl ?_
  refine l_mv rfl ?_
  refine l_band (q := ((i : Nat) : Int) < ((acts.length : Nat) : Int)) 2 4 [22, 21] (((i : Nat) : Int) < 300) rfl rfl rfl rfl rfl rfl trivial rfl (fun h5_4 => ?_) (fun g5_7 => ?_)
  ·
    refine l_on rfl (gT h5_4) ?_
    refine l_mv rfl ?_
    refine l_on rfl (gT h5_4) ?_
    refine l_lss rfl rfl rfl ?_
    exact l_nil (fun w' hw => ⟨(by repeat (first | exact Out.refl _ _ | refine Out.upd rfl ?_ | refine Out.msk rfl ?_)), rfl, hw⟩)
  refine l_end ?_
  refine c_dec rfl (fun c2 => ?_) (fun c2 => ?_)
  ·
    refine c_skipC ?_
    refine c_seq ?_
    refine c_block ?_
    refine c_cut3 (fun (b2 bm2 lm2 : Nat) => [(0, v), (3, .pointer (some ⟨b2, 0, none⟩)), (4, .pointer (some ⟨b9, 0, none⟩)), (5, .int .i64 (i : Nat))]) (fun (b2 bm2 lm2 : Nat) => True) (fun (b2 bm2 lm2 : Nat) => [Res.row b2 58 [.map (some bm2), .map (some lm2), .int .i64 now, .int .u64 (cnt : Nat)], Res.mp Value.string ekI bm2 kb, Res.mp ekU leaV lm2 kl, Res.row b9 30 [.int .i64 now, .int .u64 (cnt : Nat), bv, lv], Res.vec 62 2 bv bs.length (bs.flatMap BudD.cells), Res.vec 49 5 lv ls.length (ls.flatMap LeaD.cells)]) ?_ (fun b2 bm2 lm2 g hΦ => ?_)
    ·
      refine c_reg ?_
      refine l_mv rfl ?_
      refine l_mv rfl ?_
      refine l_idxS (j := i) (sz := 6) (len := acts.length) (cs := (acts.flatMap QActD.cells)) rfl rfl (by kernel_rfl) (fun w' hw' => Own.rd hv hw') rfl (by omega) rfl ?_
      refine l_fld (o := 0) rfl (by kernel_rfl) rfl ?_
      refine l_ldS (v := v) (off := offV v + i * 6 + 0) (i * 6 + 0) (cs := (acts.flatMap QActD.cells)) rfl (by omega) (fun w' hw' => Own.rd hv hw') (flat_at (sz := 6) (fun _ => rfl) (nth_some (by omega)) (i := 0) rfl) (by kernel_rfl) rfl ?_
      refine l_eq rfl rfl rfl ?_
      refine l_end ?_
      refine c_dec rfl (fun c3 => ?_) (fun c3 => ?_)
      ·
        refine c_last ?_
        refine l_mv rfl ?_
        refine l_call (by kernel_rfl) rfl rfl (fun w' hw => ?_)
        refine (copy_s b bm lm now cnt kb kl w' (hw.give [0, 1, 2] rfl (by decide))).mono ?_
        rintro _ w1 ⟨b'4_, bm'5_, lm'6_, rfl, hO⟩
        refine (?_ : CL _ _ _ _ _ _ (Own w [] [Res.row b9 30 [.int .i64 now, .int .u64 (cnt : Nat), bv, lv], Res.vec 62 2 bv bs.length (bs.flatMap BudD.cells), Res.vec 49 5 lv ls.length (ls.flatMap LeaD.cells), Res.row b 58 [.map (some bm), .map (some lm), .int .i64 now, .int .u64 (cnt : Nat)], Res.mp Value.string ekI bm kb, Res.mp ekU leaV lm kl, Res.row b'4_ 58 [.map (some bm'5_), .map (some lm'6_), .int .i64 now, .int .u64 (cnt : Nat)], Res.mp Value.string ekI bm'5_ kb, Res.mp ekU leaV lm'6_ kl])) w1 (hw.frameL [0, 1, 2] rfl hO)
        refine l_as rfl ?_
        exact l_nil (fun w' hw => ⟨b'4_, bm'5_, lm'6_, ⟨rfl, rfl, rfl, rfl, trivial⟩, trivial, hw.sel [6, 7, 8, 0, 1, 2] rfl (by decide)⟩)
      ·
        exact c_skip (fun w' hw => ⟨b, bm, lm, ⟨rfl, rfl, rfl, rfl, trivial⟩, trivial, hw⟩)
    refine c_cut5 (fun (b3 bm3 lm3 : Nat) (kb3 : List (ByteArray × Int)) (kl3 : List (Nat × LeaD)) => [(0, v), (3, .pointer (some ⟨b3, 0, none⟩)), (4, .pointer (some ⟨b9, 0, none⟩)), (5, .int .i64 (i : Nat))]) (fun (b3 bm3 lm3 : Nat) (kb3 : List (ByteArray × Int)) (kl3 : List (Nat × LeaD)) => QRel kb3 kl3 bs ls) (fun (b3 bm3 lm3 : Nat) (kb3 : List (ByteArray × Int)) (kl3 : List (Nat × LeaD)) => [Res.row b3 58 [.map (some bm3), .map (some lm3), .int .i64 now, .int .u64 (cnt : Nat)], Res.mp Value.string ekI bm3 kb3, Res.mp ekU leaV lm3 kl3, Res.row b9 30 [.int .i64 now, .int .u64 (cnt : Nat), bv, lv], Res.vec 62 2 bv bs.length (bs.flatMap BudD.cells), Res.vec 49 5 lv ls.length (ls.flatMap LeaD.cells)]) ?_ (fun b3 bm3 lm3 kb3 kl3 g hΦ => ?_)
    ·
      refine c_reg ?_
      refine l_mv rfl ?_
      refine l_mv rfl ?_
      refine l_idxS (j := i) (sz := 6) (len := acts.length) (cs := (acts.flatMap QActD.cells)) rfl rfl (by kernel_rfl) (fun w' hw' => Own.rd hv hw') rfl (by omega) rfl ?_
      refine l_fld (o := 0) rfl (by kernel_rfl) rfl ?_
      refine l_ldS (v := v) (off := offV v + i * 6 + 0) (i * 6 + 0) (cs := (acts.flatMap QActD.cells)) rfl (by omega) (fun w' hw' => Own.rd hv hw') (flat_at (sz := 6) (fun _ => rfl) (nth_some (by omega)) (i := 0) rfl) (by kernel_rfl) rfl ?_
      refine l_eq rfl rfl rfl ?_
      refine l_end ?_
      refine c_dec rfl (fun c4 => ?_) (fun c4 => ?_)
      ·
        refine c_reg ?_
        refine l_call (by kernel_rfl) rfl rfl (fun w' hw => ?_)
        refine (new_s w').mono ?_
        rintro _ w1 ⟨b7_, bm8_, lm9_, rfl, hO⟩
        refine (?_ : CL _ _ _ _ _ _ (Own w [] [Res.row b2 58 [.map (some bm2), .map (some lm2), .int .i64 now, .int .u64 (cnt : Nat)], Res.mp Value.string ekI bm2 kb, Res.mp ekU leaV lm2 kl, Res.row b9 30 [.int .i64 now, .int .u64 (cnt : Nat), bv, lv], Res.vec 62 2 bv bs.length (bs.flatMap BudD.cells), Res.vec 49 5 lv ls.length (ls.flatMap LeaD.cells), Res.row b7_ 58 [.map (some bm8_), .map (some lm9_), .int .i64 0, .int .u64 (0 : Nat)], Res.mp Value.string ekI bm8_ ([] : List (ByteArray × Int)), Res.mp ekU leaV lm9_ ([] : List (Nat × LeaD))])) w1 (hw.frame0 hO)
        refine l_as rfl ?_
        refine l_end ?_
        refine c_seq ?_
        refine c_reg ?_
        refine l_mv rfl ?_
        refine l_nilp (by kernel_rfl) rfl rfl rfl ?_
        refine l_mv rfl ?_
        refine l_on rfl rfl ?_
        refine l_mv rfl ?_
        refine l_on rfl rfl ?_
        refine l_mv rfl ?_
        refine l_on rfl rfl ?_
        refine l_call (by kernel_rfl) rfl rfl (fun w' hw => ?_)
        refine (time_s b2 bm2 lm2 now cnt w' (hw.give [0] rfl (by decide))).mono ?_
        rintro _ w1 ⟨rfl, hO⟩
        refine (?_ : CL _ _ _ _ _ _ (Own w [] [Res.mp Value.string ekI bm2 kb, Res.mp ekU leaV lm2 kl, Res.row b9 30 [.int .i64 now, .int .u64 (cnt : Nat), bv, lv], Res.vec 62 2 bv bs.length (bs.flatMap BudD.cells), Res.vec 49 5 lv ls.length (ls.flatMap LeaD.cells), Res.row b7_ 58 [.map (some bm8_), .map (some lm9_), .int .i64 0, .int .u64 (0 : Nat)], Res.mp Value.string ekI bm8_ ([] : List (ByteArray × Int)), Res.mp ekU leaV lm9_ ([] : List (Nat × LeaD)), Res.row b2 58 [.map (some bm2), .map (some lm2), .int .i64 now, .int .u64 (cnt : Nat)]])) w1 (hw.frameL [0] rfl hO)
        refine l_on rfl rfl ?_
        refine l_mv rfl ?_
        refine l_on rfl rfl ?_
        refine l_call (by kernel_rfl) rfl rfl (fun w' hw => ?_)
        refine (last_s b2 bm2 lm2 now cnt w' (hw.give [8] rfl (by decide))).mono ?_
        rintro _ w1 ⟨rfl, hO⟩
        refine (?_ : CL _ _ _ _ _ _ (Own w [] [Res.mp Value.string ekI bm2 kb, Res.mp ekU leaV lm2 kl, Res.row b9 30 [.int .i64 now, .int .u64 (cnt : Nat), bv, lv], Res.vec 62 2 bv bs.length (bs.flatMap BudD.cells), Res.vec 49 5 lv ls.length (ls.flatMap LeaD.cells), Res.row b7_ 58 [.map (some bm8_), .map (some lm9_), .int .i64 0, .int .u64 (0 : Nat)], Res.mp Value.string ekI bm8_ ([] : List (ByteArray × Int)), Res.mp ekU leaV lm9_ ([] : List (Nat × LeaD)), Res.row b2 58 [.map (some bm2), .map (some lm2), .int .i64 now, .int .u64 (cnt : Nat)]])) w1 (hw.frameL [8] rfl hO)
        refine l_on rfl rfl ?_
        refine l_mv rfl ?_
        refine l_on rfl rfl ?_
        refine l_call (by kernel_rfl) rfl rfl (fun w' hw => ?_)
        refine (budgets_s b2 bm2 lm2 now cnt kb w' (by rw [hr.blen]; have := ho.blen; omega) (hw.give [8, 0] rfl (by decide))).mono ?_
        rintro v10_ w1 ⟨_, l11_, ks12_, rfl, hf11_9, hf11_9_1, hf11_9_2, hO⟩
        have hb8 : l11_ = bs := hf11_9_2.trans (buds_eq ho hs hr hf11_9 hf11_9_1)
        refine (?_ : CL _ _ _ _ _ _ (Own w [] [Res.mp ekU leaV lm2 kl, Res.row b9 30 [.int .i64 now, .int .u64 (cnt : Nat), bv, lv], Res.vec 62 2 bv bs.length (bs.flatMap BudD.cells), Res.vec 49 5 lv ls.length (ls.flatMap LeaD.cells), Res.row b7_ 58 [.map (some bm8_), .map (some lm9_), .int .i64 0, .int .u64 (0 : Nat)], Res.mp Value.string ekI bm8_ ([] : List (ByteArray × Int)), Res.mp ekU leaV lm9_ ([] : List (Nat × LeaD)), Res.row b2 58 [.map (some bm2), .map (some lm2), .int .i64 now, .int .u64 (cnt : Nat)], Res.mp Value.string ekI bm2 kb, Res.vec 62 2 v10_ l11_.length (l11_.flatMap BudD.cells)])) w1 (hw.frameL [8, 0] rfl hO)
        refine l_on rfl rfl ?_
        refine l_mv rfl ?_
        refine l_on rfl rfl ?_
        refine l_call (by kernel_rfl) rfl rfl (fun w' hw => ?_)
        refine (leases_s b2 bm2 lm2 now cnt kl w' (by rw [hr.llen]; have := ho.llen; omega) (hw.give [7, 0] rfl (by decide))).mono ?_
        rintro v13_ w1 ⟨_, l14_, rfl, hf11_11, hf11_11_1, hO⟩
        have hl8 : l14_ = ls := leas_eq ho hr hf11_11 hf11_11_1
        refine (?_ : CL _ _ _ _ _ _ (Own w [] [Res.row b9 30 [.int .i64 now, .int .u64 (cnt : Nat), bv, lv], Res.vec 62 2 bv bs.length (bs.flatMap BudD.cells), Res.vec 49 5 lv ls.length (ls.flatMap LeaD.cells), Res.row b7_ 58 [.map (some bm8_), .map (some lm9_), .int .i64 0, .int .u64 (0 : Nat)], Res.mp Value.string ekI bm8_ ([] : List (ByteArray × Int)), Res.mp ekU leaV lm9_ ([] : List (Nat × LeaD)), Res.mp Value.string ekI bm2 kb, Res.vec 62 2 v10_ l11_.length (l11_.flatMap BudD.cells), Res.row b2 58 [.map (some bm2), .map (some lm2), .int .i64 now, .int .u64 (cnt : Nat)], Res.mp ekU leaV lm2 kl, Res.vec 49 5 v13_ l14_.length (l14_.flatMap LeaD.cells)])) w1 (hw.frameL [7, 0] rfl hO)
        refine l_on rfl rfl ?_
        refine l_call (by kernel_rfl) rfl rfl (fun w' hw => ?_)
        refine (loadY_s b7_ bm8_ lm9_ 0 0 [] [] now cnt v10_ l11_ v13_ l14_ w' (by rw [hb8, hl8]; exact ho.load hs) (by rw [hb8]; exact QOk.amtB ho) (by rw [hl8]; exact QOk.amtL ho) (hw.rdVec 7 rfl [3, 4, 5] rfl rfl) (hw.rdVec 10 rfl [3, 4, 5] rfl rfl) (hw.give [3, 4, 5] rfl (by decide))).mono ?_
        rintro _ w1 ⟨bm'15_, lm'16_, rfl, hO⟩
        refine (?_ : CL _ _ _ _ _ _ (Own w [] [Res.row b9 30 [.int .i64 now, .int .u64 (cnt : Nat), bv, lv], Res.vec 62 2 bv bs.length (bs.flatMap BudD.cells), Res.vec 49 5 lv ls.length (ls.flatMap LeaD.cells), Res.mp Value.string ekI bm2 kb, Res.vec 62 2 v10_ l11_.length (l11_.flatMap BudD.cells), Res.row b2 58 [.map (some bm2), .map (some lm2), .int .i64 now, .int .u64 (cnt : Nat)], Res.mp ekU leaV lm2 kl, Res.vec 49 5 v13_ l14_.length (l14_.flatMap LeaD.cells), Res.row b7_ 58 [.map (some bm'15_), .map (some lm'16_), .int .i64 now, .int .u64 (cnt : Nat)], Res.mp Value.string ekI bm'15_ (KB l11_), Res.mp ekU leaV lm'16_ (KL l14_)])) w1 (hw.frameL [3, 4, 5] rfl hO)
        refine l_on rfl rfl ?_
        refine l_ne rfl rfl rfl ?_
        refine l_pickF rfl rfl ?_
        refine l_end ?_
        refine c_dec rfl (fun c5 => ?_) (fun c5 => ?_)
        ·
          refine c_reg ?_
          refine l_as rfl ?_
          refine l_end ?_
          exact c_ret (ret1 (v := .bool false) rfl rfl (fun w' hw => ⟨(by exfalso; exact c5 rfl), hw.drop⟩))
        ·
          refine c_skipC ?_
          refine c_last ?_
          refine l_mv rfl ?_
          refine l_as rfl ?_
          exact l_nil (fun w' hw => ⟨b7_, bm'15_, lm'16_, KB l11_, KL l14_, ⟨rfl, rfl, rfl, rfl, trivial⟩, (by rw [hb8, hl8]; exact ⟨.refl _, .refl _⟩), hw.sel [8, 9, 10, 0, 1, 2] rfl (by decide)⟩)
      ·
        exact c_skip (fun w' hw => ⟨b2, bm2, lm2, kb, kl, ⟨rfl, rfl, rfl, rfl, trivial⟩, hr, hw⟩)
    have hr3 := hΦ
    refine c_reg ?_
    refine l_mv rfl ?_
    refine l_nilp (by kernel_rfl) rfl rfl rfl ?_
    refine l_mv rfl ?_
    refine l_on rfl rfl ?_
    refine l_mv rfl ?_
    refine l_on rfl rfl ?_
    refine l_mv rfl ?_
    refine l_on rfl rfl ?_
    refine l_mv rfl ?_
    refine l_on rfl rfl ?_
    refine l_mv rfl ?_
    refine l_on rfl rfl ?_
    refine l_idxS (j := i) (sz := 6) (len := acts.length) (cs := (acts.flatMap QActD.cells)) rfl rfl (by kernel_rfl) (fun w' hw' => Own.rd hv hw') rfl (by omega) rfl ?_
    refine l_on rfl rfl ?_
    refine l_ldSN (v := v) (off := offV v + i * 6) (i * 6 + 0) (cs := (acts.flatMap QActD.cells)) (QActD.cells (nth acts i)) rfl (by omega) (fun w' hw' => Own.rd hv hw') (flat_atN (sz := 6) (fun _ => rfl) (nth_some (by omega)) (o := 0) (us := (QActD.cells (nth acts i))) (fun k u h => by rw [Nat.zero_add]; exact h)) (by kernel_rfl) rfl ?_
    refine l_on rfl rfl ?_
    refine l_call (by kernel_rfl) rfl rfl (fun w' hw => ?_)
    refine (qact_s b3 bm3 lm3 b9 now cnt kb3 kl3 bv lv bs ls (nth acts i) w' ho hr3 (hwf _ (nth_mem (by omega))) (by omega) (hw.give [0, 1, 2, 3, 4, 5] rfl (by decide))).mono ?_
    rintro _ w1 ⟨now'17_, cnt'18_, kb'19_, kl'20_, bv'21_, lv'22_, bs'23_, ls'24_, rfl, hf14_9, hf14_9_1, hf14_9_2, hf14_9_3, hf14_9_4, hO⟩
    have ho4 := hf14_9
    have hr4 := hf14_9_1
    have hc4 := hf14_9_2
    have hs4 := hf14_9_4 hs
    refine (?_ : CL _ _ _ _ _ _ (Own w [] [Res.row b3 58 [.map (some bm3), .map (some lm3), .int .i64 now'17_, .int .u64 (cnt'18_ : Nat)], Res.mp Value.string ekI bm3 kb'19_, Res.mp ekU leaV lm3 kl'20_, Res.row b9 30 [.int .i64 now'17_, .int .u64 (cnt'18_ : Nat), bv'21_, lv'22_], Res.vec 62 2 bv'21_ bs'23_.length (bs'23_.flatMap BudD.cells), Res.vec 49 5 lv'22_ ls'24_.length (ls'24_.flatMap LeaD.cells)])) w1 (hw.frameL [0, 1, 2, 3, 4, 5] rfl hO)
    refine l_on rfl rfl ?_
    refine l_not (b := true) rfl rfl ?_
    refine l_pickF rfl rfl ?_
    refine l_mv rfl ?_
    refine l_on rfl rfl ?_
    refine l_mv rfl ?_
    refine l_on rfl rfl ?_
    refine l_mv rfl ?_
    refine l_on rfl rfl ?_
    refine l_call (by kernel_rfl) rfl rfl (fun w' hw => ?_)
    refine (alike_s b3 bm3 lm3 b9 now'17_ now'17_ cnt'18_ cnt'18_ kb'19_ kl'20_ bv'21_ lv'22_ bs'23_ ls'24_ w' rfl rfl ho4 hr4 hs4 (hw.give [0, 1, 2, 3, 4, 5] rfl (by decide))).mono ?_
    rintro _ w1 ⟨rfl, hO⟩
    refine (?_ : CL _ _ _ _ _ _ (Own w [] [Res.row b3 58 [.map (some bm3), .map (some lm3), .int .i64 now'17_, .int .u64 (cnt'18_ : Nat)], Res.mp Value.string ekI bm3 kb'19_, Res.mp ekU leaV lm3 kl'20_, Res.row b9 30 [.int .i64 now'17_, .int .u64 (cnt'18_ : Nat), bv'21_, lv'22_], Res.vec 62 2 bv'21_ bs'23_.length (bs'23_.flatMap BudD.cells), Res.vec 49 5 lv'22_ ls'24_.length (ls'24_.flatMap LeaD.cells)])) w1 (hw.frameL [0, 1, 2, 3, 4, 5] rfl hO)
    refine l_on rfl rfl ?_
    refine l_not (b := true) rfl rfl ?_
    refine l_pickF rfl rfl ?_
    refine l_end ?_
    refine c_no rfl ?_
    refine c_skipC ?_
    refine c_last ?_
    refine l_mv rfl ?_
    refine l_add rfl rfl (wi64 (by omega)) rfl ?_
    refine l_as rfl ?_
    exact l_nil (fun w' hw => ⟨i + 1, b3, bm3, lm3, now'17_, cnt'18_, kb'19_, kl'20_, bv'21_, lv'22_, bs'23_, ls'24_, ⟨rfl, rfl, rfl, rfl, trivial⟩, ⟨by omega, ⟨ho4, hr4, by omega⟩, hs4⟩, hw, (by omega)⟩)
  ·
    refine c_exitC rfl ?_
    refine c_reg ?_
    refine l_as rfl ?_
    refine l_end ?_
    exact c_ret (ret1 (v := .bool true) rfl rfl (fun w' hw => ⟨rfl, hw.drop⟩))
end Go.Proofs.YtgkeoenbcjfeaaaGreat
