/-
  A TABLE LOADED; the reference's table of what is loaded.
-/
import Derived.Test.YtgkeoenbcjfeaaaQuotaT
set_option linter.unusedVariables false
set_option maxRecDepth 10000
namespace Go.Proofs.Ytgkeoenbcjfeaaa
open Go Go.Sc Go.Proofs

theorem sound_iff {x : LeaD} {now : Int} {last : Nat} : (((((((((0 : Nat) : Int) < ((x.id : Nat) : Int)) ∧ (((x.id : Nat) : Int) ≤ ((last : Nat) : Int))) ∧ (((0 : Nat) : Int) < ((x.session : Nat) : Int))) ∧ (keyOk x.key)) ∧ (1 ≤ x.amount)) ∧ (now < x.until_)) ∧ (x.until_ ≤ 4611686018427387904)) ↔ LeaOk now last x := by
  unfold LeaOk
  constructor
  · rintro ⟨⟨⟨⟨⟨⟨a, b⟩, c⟩, d⟩, e⟩, f⟩, k⟩
    exact ⟨by omega, by omega, by omega, d, e, f, k⟩
  · rintro ⟨a, b, c, d, e, f, k⟩
    exact ⟨⟨⟨⟨⟨⟨by omega, by omega⟩, by omega⟩, d⟩, e⟩, f⟩, k⟩
theorem tot_bad {n a m e : Int} (h : (9223372036854775807 < nth [n, a] 0 + nth [n, a] 1 ∧ e = 3 ∧ m = 0) ∨ (nth [n, a] 0 + nth [n, a] 1 ≤ 9223372036854775807 ∧ e = 0 ∧ m = nth [n, a] 0 + nth [n, a] 1)) (he : e ≠ 0) : 9223372036854775807 < n + a := by
  rcases h with h | h
  · exact h.1
  · exact absurd h.2.1 he
theorem tot_ok {n a m e : Int} (h : (9223372036854775807 < nth [n, a] 0 + nth [n, a] 1 ∧ e = 3 ∧ m = 0) ∨ (nth [n, a] 0 + nth [n, a] 1 ≤ 9223372036854775807 ∧ e = 0 ∧ m = nth [n, a] 0 + nth [n, a] 1)) (he : ¬ e ≠ 0) : n + a ≤ 9223372036854775807 := by
  rcases h with h | h
  · have := h.2.1; omega
  · exact h.1

theorem sound_s (x : LeaD) (now : Int) (last : Nat) (w : World) : Rets Try.prog 50 #[.agg (LeaD.cells x).toArray, .int .i64 now, .int .u64 (last : Nat)] w fun u_ w' => u_ = .bool (decide (LeaOk now last x)) ∧ Own w [] [] w' := by
  refine fn_enter (args := [.agg (LeaD.cells x).toArray, .int .i64 now, .int .u64 (last : Nat)]) Try.func50 rfl Try.ntmps50 rfl (Own.start w) ?_
  refine c_reg ?_
  refine l_box rfl rfl (fun b3 => ?_)
  refine l_as rfl ?_
  refine l_end ?_
  refine c_reg ?_
  refine l_fld (o := 0) rfl (by kernel_rfl) rfl ?_
  refine l_ldo 0 (v := .int .u64 (x.id : Nat)) rfl rfl rfl (by kernel_rfl) rfl ?_
  refine l_gtr rfl rfl rfl ?_
  refine l_mv rfl ?_
  refine l_band (q := ((0 : Nat) : Int) < ((x.id : Nat) : Int)) 4 3 [14, 13, 12, 11] (((x.id : Nat) : Int) ≤ ((last : Nat) : Int)) rfl rfl rfl rfl rfl rfl trivial rfl (fun h1_3 => ?_) (fun g1_8 => ?_)
  ·
    refine l_on rfl (gT h1_3) ?_
    refine l_fld (o := 0) rfl (by kernel_rfl) rfl ?_
    refine l_on rfl (gT h1_3) ?_
    refine l_ldo 0 (v := .int .u64 (x.id : Nat)) rfl rfl rfl (by kernel_rfl) rfl ?_
    refine l_on rfl (gT h1_3) ?_
    refine l_mv rfl ?_
    refine l_on rfl (gT h1_3) ?_
    refine l_leq rfl rfl rfl ?_
    exact l_nil (fun w' hw => ⟨(by repeat (first | exact Out.refl _ _ | refine Out.upd rfl ?_ | refine Out.msk rfl ?_)), rfl, hw⟩)
  refine l_mv rfl ?_
  refine l_band (q := (((0 : Nat) : Int) < ((x.id : Nat) : Int)) ∧ (((x.id : Nat) : Int) ≤ ((last : Nat) : Int))) 3 9 [19, 18, 17] (((0 : Nat) : Int) < ((x.session : Nat) : Int)) rfl rfl rfl rfl rfl rfl trivial rfl (fun h1_9 => ?_) (fun g1_13 => ?_)
  ·
    refine l_on rfl (gT h1_9) ?_
    refine l_fld (o := 1) rfl (by kernel_rfl) rfl ?_
    refine l_on rfl (gT h1_9) ?_
    refine l_ldo 0 (v := .int .u64 (x.session : Nat)) rfl rfl rfl (by kernel_rfl) rfl ?_
    refine l_on rfl (gT h1_9) ?_
    refine l_gtr rfl rfl rfl ?_
    exact l_nil (fun w' hw => ⟨(by repeat (first | exact Out.refl _ _ | refine Out.upd rfl ?_ | refine Out.msk rfl ?_)), rfl, hw⟩)
  refine l_mv rfl ?_
  refine l_band (q := ((((0 : Nat) : Int) < ((x.id : Nat) : Int)) ∧ (((x.id : Nat) : Int) ≤ ((last : Nat) : Int))) ∧ (((0 : Nat) : Int) < ((x.session : Nat) : Int))) 3 14 [24, 23, 22] (keyOk x.key) rfl rfl rfl rfl rfl rfl trivial rfl (fun h1_14 => ?_) (fun g1_18 => ?_)
  ·
    refine l_on rfl (gT h1_14) ?_
    refine l_fld (o := 2) rfl (by kernel_rfl) rfl ?_
    refine l_on rfl (gT h1_14) ?_
    refine l_ldo 0 (v := .string x.key) rfl rfl rfl (by kernel_rfl) rfl ?_
    refine l_on rfl (gT h1_14) ?_
    refine l_call (by kernel_rfl) rfl rfl (fun w' hw => ?_)
    refine (keyed_s x.key w').mono ?_
    rintro _ w1 ⟨rfl, hO⟩
    refine (?_ : CL _ _ _ _ _ _ (Own w [] [Res.row b3 37 (LeaD.cells x)])) w1 (hw.frame0 hO)
    exact l_nil (fun w' hw => ⟨(by repeat (first | exact Out.refl _ _ | refine Out.upd rfl ?_ | refine Out.msk rfl ?_)), rfl, hw⟩)
  refine l_mv rfl ?_
  refine l_band (q := (((((0 : Nat) : Int) < ((x.id : Nat) : Int)) ∧ (((x.id : Nat) : Int) ≤ ((last : Nat) : Int))) ∧ (((0 : Nat) : Int) < ((x.session : Nat) : Int))) ∧ (keyOk x.key)) 3 19 [29, 28, 27] (1 ≤ x.amount) rfl rfl rfl rfl rfl rfl trivial rfl (fun h1_19 => ?_) (fun g1_23 => ?_)
  ·
    refine l_on rfl (gT h1_19) ?_
    refine l_fld (o := 3) rfl (by kernel_rfl) rfl ?_
    refine l_on rfl (gT h1_19) ?_
    refine l_ldo 0 (v := .int .i64 x.amount) rfl rfl rfl (by kernel_rfl) rfl ?_
    refine l_on rfl (gT h1_19) ?_
    refine l_geq rfl rfl rfl ?_
    exact l_nil (fun w' hw => ⟨(by repeat (first | exact Out.refl _ _ | refine Out.upd rfl ?_ | refine Out.msk rfl ?_)), rfl, hw⟩)
  refine l_mv rfl ?_
  refine l_band (q := ((((((0 : Nat) : Int) < ((x.id : Nat) : Int)) ∧ (((x.id : Nat) : Int) ≤ ((last : Nat) : Int))) ∧ (((0 : Nat) : Int) < ((x.session : Nat) : Int))) ∧ (keyOk x.key)) ∧ (1 ≤ x.amount)) 4 24 [35, 34, 33, 32] (now < x.until_) rfl rfl rfl rfl rfl rfl trivial rfl (fun h1_24 => ?_) (fun g1_29 => ?_)
  ·
    refine l_on rfl (gT h1_24) ?_
    refine l_fld (o := 4) rfl (by kernel_rfl) rfl ?_
    refine l_on rfl (gT h1_24) ?_
    refine l_ldo 0 (v := .int .i64 x.until_) rfl rfl rfl (by kernel_rfl) rfl ?_
    refine l_on rfl (gT h1_24) ?_
    refine l_mv rfl ?_
    refine l_on rfl (gT h1_24) ?_
    refine l_gtr rfl rfl rfl ?_
    exact l_nil (fun w' hw => ⟨(by repeat (first | exact Out.refl _ _ | refine Out.upd rfl ?_ | refine Out.msk rfl ?_)), rfl, hw⟩)
  refine l_mv rfl ?_
  refine l_band (q := (((((((0 : Nat) : Int) < ((x.id : Nat) : Int)) ∧ (((x.id : Nat) : Int) ≤ ((last : Nat) : Int))) ∧ (((0 : Nat) : Int) < ((x.session : Nat) : Int))) ∧ (keyOk x.key)) ∧ (1 ≤ x.amount)) ∧ (now < x.until_)) 3 30 [40, 39, 38] (x.until_ ≤ 4611686018427387904) rfl rfl rfl rfl rfl rfl trivial rfl (fun h1_30 => ?_) (fun g1_34 => ?_)
  ·
    refine l_on rfl (gT h1_30) ?_
    refine l_fld (o := 4) rfl (by kernel_rfl) rfl ?_
    refine l_on rfl (gT h1_30) ?_
    refine l_ldo 0 (v := .int .i64 x.until_) rfl rfl rfl (by kernel_rfl) rfl ?_
    refine l_on rfl (gT h1_30) ?_
    refine l_leq rfl rfl rfl ?_
    exact l_nil (fun w' hw => ⟨(by repeat (first | exact Out.refl _ _ | refine Out.upd rfl ?_ | refine Out.msk rfl ?_)), rfl, hw⟩)
  refine l_as rfl ?_
  refine l_end ?_
  exact c_ret (ret1 (v := .bool (decide (((((((((0 : Nat) : Int) < ((x.id : Nat) : Int)) ∧ (((x.id : Nat) : Int) ≤ ((last : Nat) : Int))) ∧ (((0 : Nat) : Int) < ((x.session : Nat) : Int))) ∧ (keyOk x.key)) ∧ (1 ≤ x.amount)) ∧ (now < x.until_)) ∧ (x.until_ ≤ 4611686018427387904)))) rfl rfl (fun w' hw => ⟨(by congr 1; exact decide_eq_decide.2 (sound_iff)), hw.drop⟩))
theorem load_s (b bm lm : Nat) (now0 : Int) (cnt0 : Nat) (kb : List (ByteArray × Int)) (kl : List (Nat × LeaD)) (now : Int) (last : Nat) (bv : Value) (bs : List BudD) (lv : Value) (ls : List LeaD) (w : World) (hbl : bs.length ≤ 2000000) (hll : ls.length ≤ 2000000) (hbi : ∀ b ∈ bs, isI b.amount) (hli : ∀ l ∈ ls, isI l.amount) (hbv : Rd w (fps [Res.row b 64 [.map (some bm), .map (some lm), .int .i64 now0, .int .u64 (cnt0 : Nat)], Res.mp Value.string ekI bm kb, Res.mp ekU leaV lm kl]) (Res.sl bv bs.length (bs.flatMap BudD.cells))) (hlv : Rd w (fps [Res.row b 64 [.map (some bm), .map (some lm), .int .i64 now0, .int .u64 (cnt0 : Nat)], Res.mp Value.string ekI bm kb, Res.mp ekU leaV lm kl]) (Res.sl lv ls.length (ls.flatMap LeaD.cells))) (hin : Own w (fps [Res.row b 64 [.map (some bm), .map (some lm), .int .i64 now0, .int .u64 (cnt0 : Nat)], Res.mp Value.string ekI bm kb, Res.mp ekU leaV lm kl]) [Res.row b 64 [.map (some bm), .map (some lm), .int .i64 now0, .int .u64 (cnt0 : Nat)], Res.mp Value.string ekI bm kb, Res.mp ekU leaV lm kl] w) : Rets Try.prog 25 #[.pointer (some ⟨b, 0, none⟩), .int .i64 now, .int .u64 (last : Nat), bv, lv] w fun u_ w' => ∃ (bm' lm' : Nat) (now' : Int) (cnt' : Nat) (kb' : List (ByteArray × Int)) (kl' : List (Nat × LeaD)) (e : Int), u_ = .int .i64 e ∧ ((e = 0 ∧ LoadOk now last bs ls ∧ now' = now ∧ cnt' = last ∧ kb' = KB bs ∧ kl' = KL ls) ∨ (e = 2 ∧ ¬ LoadOk now last bs ls ∧ now' = now0 ∧ cnt' = cnt0 ∧ kb' = kb ∧ kl' = kl)) ∧ Own w (fps [Res.row b 64 [.map (some bm), .map (some lm), .int .i64 now0, .int .u64 (cnt0 : Nat)], Res.mp Value.string ekI bm kb, Res.mp ekU leaV lm kl]) [Res.row b 64 [.map (some bm'), .map (some lm'), .int .i64 now', .int .u64 (cnt' : Nat)], Res.mp Value.string ekI bm' kb', Res.mp ekU leaV lm' kl'] w' := by
  refine fn_enter (args := [.pointer (some ⟨b, 0, none⟩), .int .i64 now, .int .u64 (last : Nat), bv, lv]) Try.func25 rfl Try.ntmps25 rfl (show Own w (fps [Res.row b 64 [.map (some bm), .map (some lm), .int .i64 now0, .int .u64 (cnt0 : Nat)], Res.mp Value.string ekI bm kb, Res.mp ekU leaV lm kl]) [Res.row b 64 [.map (some bm), .map (some lm), .int .i64 now0, .int .u64 (cnt0 : Nat)], Res.mp Value.string ekI bm kb, Res.mp ekU leaV lm kl] w from hin) ?_
  refine c_reg ?_
  refine l_as rfl ?_
  refine l_end ?_
  refine c_seq ?_
  refine c_reg ?_
  refine l_mv rfl ?_
  refine l_nilp (by kernel_rfl) rfl rfl rfl ?_
  refine l_end ?_
  refine c_no rfl ?_
  refine c_skipC ?_
  refine c_seq ?_
  refine c_reg ?_
  refine l_mv rfl ?_
  refine l_lss rfl rfl rfl ?_
  refine l_mv rfl ?_
  refine l_bor (q := now < 0) 2 2 [24, 23] (2305843009213693952 < now) rfl rfl rfl rfl rfl rfl trivial rfl (fun h3_2 => ?_) (fun g3_5 => ?_)
  ·
    refine l_on rfl (gF h3_2) ?_
    refine l_mv rfl ?_
    refine l_on rfl (gF h3_2) ?_
    refine l_gtr rfl rfl rfl ?_
    exact l_nil (fun w' hw => ⟨(by repeat (first | exact Out.refl _ _ | refine Out.upd rfl ?_ | refine Out.msk rfl ?_)), rfl, hw⟩)
  refine l_mv rfl ?_
  refine l_bor (q := (now < 0) ∨ (2305843009213693952 < now)) 3 6 [29, 28, 27] (64 < ((bs.length : Nat) : Int)) rfl rfl rfl rfl rfl rfl trivial rfl (fun h3_6 => ?_) (fun g3_10 => ?_)
  ·
    refine l_on rfl (gF h3_6) ?_
    refine l_mv rfl ?_
    refine l_on rfl (gF h3_6) ?_
    refine l_lenS (len := bs.length) (cs := (bs.flatMap BudD.cells)) (by kernel_rfl) rfl (fun w' hw' => Own.rd hbv hw') rfl ?_
    refine l_on rfl (gF h3_6) ?_
    refine l_gtr rfl rfl rfl ?_
    exact l_nil (fun w' hw => ⟨(by repeat (first | exact Out.refl _ _ | refine Out.upd rfl ?_ | refine Out.msk rfl ?_)), rfl, hw⟩)
  refine l_mv rfl ?_
  refine l_bor (q := ((now < 0) ∨ (2305843009213693952 < now)) ∨ (64 < ((bs.length : Nat) : Int))) 3 11 [34, 33, 32] (128 < ((ls.length : Nat) : Int)) rfl rfl rfl rfl rfl rfl trivial rfl (fun h3_11 => ?_) (fun g3_15 => ?_)
  ·
    refine l_on rfl (gF h3_11) ?_
    refine l_mv rfl ?_
    refine l_on rfl (gF h3_11) ?_
    refine l_lenS (len := ls.length) (cs := (ls.flatMap LeaD.cells)) (by kernel_rfl) rfl (fun w' hw' => Own.rd hlv hw') rfl ?_
    refine l_on rfl (gF h3_11) ?_
    refine l_gtr rfl rfl rfl ?_
    exact l_nil (fun w' hw => ⟨(by repeat (first | exact Out.refl _ _ | refine Out.upd rfl ?_ | refine Out.msk rfl ?_)), rfl, hw⟩)
  refine l_end ?_
  refine c_dec rfl (fun c2 => ?_) (fun c2 => ?_)
  ·
    refine c_reg ?_
    refine l_as rfl ?_
    refine l_end ?_
    exact c_ret (ret1 (v := .int .i64 2) rfl rfl (fun w' hw => ⟨bm, lm, now0, cnt0, kb, kl, 2, rfl, .inr ⟨rfl, (fun q => by have h1 := q.time; have h2 := q.blen; have h3 := q.llen; omega), rfl, rfl, rfl, rfl⟩, hw⟩))
  ·
    refine c_skipC ?_
    refine c_reg ?_
    refine l_call (by kernel_rfl) rfl rfl (fun w' hw => ?_)
    refine (new_s w').mono ?_
    rintro _ w1 ⟨b1_, bm2_, lm3_, rfl, hO⟩
    refine (?_ : CL _ _ _ _ _ _ (Own w (fps [Res.row b 64 [.map (some bm), .map (some lm), .int .i64 now0, .int .u64 (cnt0 : Nat)], Res.mp Value.string ekI bm kb, Res.mp ekU leaV lm kl]) [Res.row b 64 [.map (some bm), .map (some lm), .int .i64 now0, .int .u64 (cnt0 : Nat)], Res.mp Value.string ekI bm kb, Res.mp ekU leaV lm kl, Res.row b1_ 64 [.map (some bm2_), .map (some lm3_), .int .i64 0, .int .u64 (0 : Nat)], Res.mp Value.string ekI bm2_ ([] : List (ByteArray × Int)), Res.mp ekU leaV lm3_ ([] : List (Nat × LeaD))])) w1 (hw.frame0 hO)
    refine l_as rfl ?_
    refine l_end ?_
    refine c_reg ?_
    refine l_mv rfl ?_
    refine l_mv rfl ?_
    refine l_mv rfl ?_
    refine l_mv rfl ?_
    refine l_nck rfl rfl ?_
    refine l_fld (o := 2) rfl (by kernel_rfl) rfl ?_
    refine l_st (cs := [.map (some bm2_), .map (some lm3_), .int .i64 0, .int .u64 (0 : Nat)]) 3 rfl rfl rfl (by kernel_rfl) rfl (Nat.le_of_ble_eq_true rfl) ?_
    refine l_nck rfl rfl ?_
    refine l_fld (o := 3) rfl (by kernel_rfl) rfl ?_
    refine l_st (cs := [.map (some bm2_), .map (some lm3_), .int .i64 now, .int .u64 (0 : Nat)]) 3 rfl rfl rfl (by kernel_rfl) rfl (Nat.le_of_ble_eq_true rfl) ?_
    refine l_end ?_
    refine c_seq ?_
    refine c_reg ?_
    refine l_mv rfl ?_
    refine l_lenS (len := bs.length) (cs := (bs.flatMap BudD.cells)) (by kernel_rfl) rfl (fun w' hw' => Own.rd hbv hw') rfl ?_
    refine l_mv rfl ?_
    refine l_end ?_
    refine c_block ?_
    refine c_loop2 (fun (i : Nat) (kn : List (ByteArray × Int)) => [(0, .pointer (some ⟨b, 0, none⟩)), (1, .int .i64 now), (2, .int .u64 (last : Nat)), (3, bv), (4, lv), (11, .pointer (some ⟨b1_, 0, none⟩)), (45, bv), (46, .int .i64 (bs.length : Nat)), (47, .int .i64 (i : Nat))]) (fun (i : Nat) (kn : List (ByteArray × Int)) => i ≤ bs.length ∧ BudsOk (bs.take i) ∧ kn = KB (bs.take i)) (fun (i : Nat) (kn : List (ByteArray × Int)) => [Res.row b 64 [.map (some bm), .map (some lm), .int .i64 now0, .int .u64 (cnt0 : Nat)], Res.mp Value.string ekI bm kb, Res.mp ekU leaV lm kl, Res.row b1_ 64 [.map (some bm2_), .map (some lm3_), .int .i64 now, .int .u64 (last : Nat)], Res.mp Value.string ekI bm2_ kn, Res.mp ekU leaV lm3_ ([] : List (Nat × LeaD))]) (fun (i : Nat) (kn : List (ByteArray × Int)) => bs.length - i) (fun w' hw => ⟨0, [], ⟨rfl, rfl, rfl, rfl, rfl, rfl, rfl, rfl, rfl, trivial⟩, ⟨Nat.zero_le _, BudsOk.nil, rfl⟩, hw⟩) (fun i kn g hΦ => ?_)
    have hi := hΦ.1
    have hBI := hΦ.2.1
    have hkn := hΦ.2.2
    refine c_reg ?_
    refine l_lss rfl rfl rfl ?_
    refine l_end ?_
    refine c_seq ?_
    refine c_dec rfl (fun c3 => ?_) (fun c3 => ?_)
    ·
      refine c_skipC ?_
      refine c_seq ?_
      refine c_block ?_
      refine c_reg ?_
      refine l_mv rfl ?_
      refine l_idxS (j := i) (sz := 2) (len := bs.length) (cs := (bs.flatMap BudD.cells)) rfl rfl (by kernel_rfl) (fun w' hw' => Own.rd hbv hw') rfl (by omega) rfl ?_
      refine l_ldSN (v := bv) (off := offV bv + i * 2) (i * 2 + 0) (cs := (bs.flatMap BudD.cells)) (BudD.cells (nth bs i)) rfl (by omega) (fun w' hw' => Own.rd hbv hw') (flat_atN (sz := 2) (fun _ => rfl) (nth_some (by omega)) (o := 0) (us := (BudD.cells (nth bs i))) (fun k u h => by rw [Nat.zero_add]; exact h)) (by kernel_rfl) rfl ?_
      refine l_new (v := .agg #[.string (⟨#[]⟩ : ByteArray), .int .i64 0]) (by kernel_rfl) rfl (fun b13 => ?_)
      refine l_as rfl ?_
      refine l_stN (cs := [.string (⟨#[]⟩ : ByteArray), .int .i64 0]) (vs := [.string ((nth bs i).key), .int .i64 ((nth bs i).amount)]) 6 rfl rfl rfl (by kernel_rfl) (allc_cons rfl (allc_cons rfl allc_nil)) (Nat.le_of_ble_eq_true rfl) ?_
      refine l_end ?_
      refine c_seq ?_
      refine c_seq ?_
      refine c_heldo [0, 1, 2, 3, 4, 5, 6] rfl (by decide) (by kernel_rfl) (fun w' hw hS => ?_)
      refine h_take 0 rfl (by kernel_rfl) (by kernel_rfl) (by kernel_rfl) (v_fld (o := 0) rfl (by kernel_rfl)) rfl hS ?_
      refine h_take 1 rfl (by kernel_rfl) (by kernel_rfl) (by kernel_rfl) (v_ldo 6 (v := .string ((nth bs i).key)) rfl rfl rfl (by kernel_rfl)) rfl hS ?_
      refine h_one 2 (by kernel_rfl) rfl hw ?_
      refine l_call (by kernel_rfl) rfl rfl (fun w' hw => ?_)
      refine (keyed_s ((nth bs i).key) w').mono ?_
      rintro _ w1 ⟨rfl, hO⟩
      refine (?_ : CL _ _ _ _ _ _ (Own w (fps [Res.row b 64 [.map (some bm), .map (some lm), .int .i64 now0, .int .u64 (cnt0 : Nat)], Res.mp Value.string ekI bm kb, Res.mp ekU leaV lm kl]) [Res.row b 64 [.map (some bm), .map (some lm), .int .i64 now0, .int .u64 (cnt0 : Nat)], Res.mp Value.string ekI bm kb, Res.mp ekU leaV lm kl, Res.row b1_ 64 [.map (some bm2_), .map (some lm3_), .int .i64 now, .int .u64 (last : Nat)], Res.mp Value.string ekI bm2_ kn, Res.mp ekU leaV lm3_ ([] : List (Nat × LeaD)), Res.row b13 68 (BudD.cells (nth bs i))])) w1 (hw.frame0 hO)
      refine l_nil (fun w' hw => ?_)
      have hS := hw.sel [0, 1, 2, 3, 4, 5, 6] rfl (by decide)
      refine ⟨hS, ?_⟩
      refine h_take 3 rfl (by kernel_rfl) (by kernel_rfl) (by kernel_rfl) (v_notp (q := keyOk ((nth bs i).key)) rfl) rfl hS ?_
      refine h_take 4 rfl (by kernel_rfl) (by kernel_rfl) (by kernel_rfl) (v_mv) rfl hS ?_
      by_cases g10_4 : ¬ (keyOk ((nth bs i).key))
      ·
        refine h_offg 5 rfl rfl (gT g10_4) rfl (by kernel_rfl) (by kernel_rfl) (by kernel_rfl) rfl hS ?_
        refine h_offg 6 rfl rfl (gT g10_4) rfl (by kernel_rfl) (by kernel_rfl) (by kernel_rfl) rfl hS ?_
        refine h_offg 7 rfl rfl (gT g10_4) rfl (by kernel_rfl) (by kernel_rfl) (by kernel_rfl) rfl hS ?_
        refine h_take 8 rfl (by kernel_rfl) (by kernel_rfl) (by kernel_rfl) (v_pickT (gT g10_4)) rfl hS ?_
        refine h_take 9 rfl (by kernel_rfl) (by kernel_rfl) (by kernel_rfl) (v_mv) rfl hS ?_
        refine h_offg 10 rfl rfl rfl rfl (by kernel_rfl) (by kernel_rfl) (by kernel_rfl) rfl hS ?_
        refine h_offg 11 rfl rfl rfl rfl (by kernel_rfl) (by kernel_rfl) (by kernel_rfl) rfl hS ?_
        refine h_offg 12 rfl rfl rfl rfl (by kernel_rfl) (by kernel_rfl) (by kernel_rfl) rfl hS ?_
        refine h_offu 13 rfl rfl rfl (by kernel_rfl) (by kernel_rfl) (by kernel_rfl) rfl hS ?_
        refine h_offu 14 rfl rfl rfl (by kernel_rfl) (by kernel_rfl) (by kernel_rfl) rfl hS ?_
        refine h_offu 15 rfl rfl rfl (by kernel_rfl) (by kernel_rfl) (by kernel_rfl) rfl hS ?_
        refine h_offu 16 rfl rfl rfl (by kernel_rfl) (by kernel_rfl) (by kernel_rfl) rfl hS ?_
        refine h_offu 17 rfl rfl rfl (by kernel_rfl) (by kernel_rfl) (by kernel_rfl) rfl hS ?_
        refine h_offu 18 rfl rfl rfl (by kernel_rfl) (by kernel_rfl) (by kernel_rfl) rfl hS ?_
        refine h_offu 19 rfl rfl rfl (by kernel_rfl) (by kernel_rfl) (by kernel_rfl) rfl hS ?_
        refine h_offu 20 rfl rfl rfl (by kernel_rfl) (by kernel_rfl) (by kernel_rfl) rfl hS ?_
        refine h_offu 21 rfl rfl rfl (by kernel_rfl) (by kernel_rfl) (by kernel_rfl) rfl hS ?_
        refine h_offg 22 rfl rfl rfl rfl (by kernel_rfl) (by kernel_rfl) (by kernel_rfl) rfl hS ?_
        refine h_take 23 rfl (by kernel_rfl) (by kernel_rfl) (by kernel_rfl) (v_pickT rfl) rfl hS ?_
        refine h_done (by kernel_rfl) ?_
        refine (?_ : C _ _ _ _ _ _ _ (Own w (fps [Res.row b 64 [.map (some bm), .map (some lm), .int .i64 now0, .int .u64 (cnt0 : Nat)], Res.mp Value.string ekI bm kb, Res.mp ekU leaV lm kl]) [Res.row b 64 [.map (some bm), .map (some lm), .int .i64 now0, .int .u64 (cnt0 : Nat)], Res.mp Value.string ekI bm kb, Res.mp ekU leaV lm kl, Res.row b1_ 64 [.map (some bm2_), .map (some lm3_), .int .i64 now, .int .u64 (last : Nat)], Res.mp Value.string ekI bm2_ kn, Res.mp ekU leaV lm3_ ([] : List (Nat × LeaD)), Res.row b13 68 (BudD.cells (nth bs i))])) _ hw
        refine c_yes rfl ?_
        refine c_reg ?_
        refine l_as rfl ?_
        refine l_end ?_
        exact c_ret (ret1 (v := .int .i64 2) rfl rfl (fun w' hw => ⟨bm, lm, now0, cnt0, kb, kl, 2, rfl, .inr ⟨rfl, (fun q => bud_bad (i := i) q.buds (by omega) (.inl g10_4)), rfl, rfl, rfl, rfl⟩, hw.sel [0, 1, 2] rfl (by decide)⟩))
      ·
        refine h_takeg 5 rfl rfl (gF g10_4) (by kernel_rfl) (by kernel_rfl) (by kernel_rfl) (v_fld (o := 1) rfl (by kernel_rfl)) rfl hS ?_
        refine h_takeg 6 rfl rfl (gF g10_4) (by kernel_rfl) (by kernel_rfl) (by kernel_rfl) (v_ldo 6 (v := .int .i64 ((nth bs i).amount)) rfl rfl rfl (by kernel_rfl)) rfl hS ?_
        refine h_takeg 7 rfl rfl (gF g10_4) (by kernel_rfl) (by kernel_rfl) (by kernel_rfl) (v_lss rfl rfl) rfl hS ?_
        refine h_take 8 rfl (by kernel_rfl) (by kernel_rfl) (by kernel_rfl) (v_pickF (gF g10_4)) rfl hS ?_
        refine h_take 9 rfl (by kernel_rfl) (by kernel_rfl) (by kernel_rfl) (v_mv) rfl hS ?_
        by_cases g10_9 : ((nth bs i).amount) < 1
        ·
          refine h_offg 10 rfl rfl (gT g10_9) rfl (by kernel_rfl) (by kernel_rfl) (by kernel_rfl) rfl hS ?_
          refine h_offg 11 rfl rfl (gT g10_9) rfl (by kernel_rfl) (by kernel_rfl) (by kernel_rfl) rfl hS ?_
          refine h_offg 12 rfl rfl (gT g10_9) rfl (by kernel_rfl) (by kernel_rfl) (by kernel_rfl) rfl hS ?_
          refine h_offu 13 rfl rfl rfl (by kernel_rfl) (by kernel_rfl) (by kernel_rfl) rfl hS ?_
          refine h_offu 14 rfl rfl rfl (by kernel_rfl) (by kernel_rfl) (by kernel_rfl) rfl hS ?_
          refine h_offu 15 rfl rfl rfl (by kernel_rfl) (by kernel_rfl) (by kernel_rfl) rfl hS ?_
          refine h_offu 16 rfl rfl rfl (by kernel_rfl) (by kernel_rfl) (by kernel_rfl) rfl hS ?_
          refine h_offu 17 rfl rfl rfl (by kernel_rfl) (by kernel_rfl) (by kernel_rfl) rfl hS ?_
          refine h_offu 18 rfl rfl rfl (by kernel_rfl) (by kernel_rfl) (by kernel_rfl) rfl hS ?_
          refine h_offu 19 rfl rfl rfl (by kernel_rfl) (by kernel_rfl) (by kernel_rfl) rfl hS ?_
          refine h_offu 20 rfl rfl rfl (by kernel_rfl) (by kernel_rfl) (by kernel_rfl) rfl hS ?_
          refine h_offu 21 rfl rfl rfl (by kernel_rfl) (by kernel_rfl) (by kernel_rfl) rfl hS ?_
          refine h_offg 22 rfl rfl (gT g10_9) rfl (by kernel_rfl) (by kernel_rfl) (by kernel_rfl) rfl hS ?_
          refine h_take 23 rfl (by kernel_rfl) (by kernel_rfl) (by kernel_rfl) (v_pickT (gT g10_9)) rfl hS ?_
          refine h_done (by kernel_rfl) ?_
          refine (?_ : C _ _ _ _ _ _ _ (Own w (fps [Res.row b 64 [.map (some bm), .map (some lm), .int .i64 now0, .int .u64 (cnt0 : Nat)], Res.mp Value.string ekI bm kb, Res.mp ekU leaV lm kl]) [Res.row b 64 [.map (some bm), .map (some lm), .int .i64 now0, .int .u64 (cnt0 : Nat)], Res.mp Value.string ekI bm kb, Res.mp ekU leaV lm kl, Res.row b1_ 64 [.map (some bm2_), .map (some lm3_), .int .i64 now, .int .u64 (last : Nat)], Res.mp Value.string ekI bm2_ kn, Res.mp ekU leaV lm3_ ([] : List (Nat × LeaD)), Res.row b13 68 (BudD.cells (nth bs i))])) _ hw
          refine c_yes rfl ?_
          refine c_reg ?_
          refine l_as rfl ?_
          refine l_end ?_
          exact c_ret (ret1 (v := .int .i64 2) rfl rfl (fun w' hw => ⟨bm, lm, now0, cnt0, kb, kl, 2, rfl, .inr ⟨rfl, (fun q => bud_bad (i := i) q.buds (by omega) (.inr (.inl g10_9))), rfl, rfl, rfl, rfl⟩, hw.sel [0, 1, 2] rfl (by decide)⟩))
        ·
          refine h_takeg 10 rfl rfl (gF g10_9) (by kernel_rfl) (by kernel_rfl) (by kernel_rfl) (v_mv) rfl hS ?_
          refine h_takeg 11 rfl rfl (gF g10_9) (by kernel_rfl) (by kernel_rfl) (by kernel_rfl) (v_gtr rfl rfl) rfl hS ?_
          refine h_takeg 12 rfl rfl (gF g10_9) (by kernel_rfl) (by kernel_rfl) (by kernel_rfl) (v_mv) rfl hS ?_
          by_cases g10_12 : 0 < ((i : Nat) : Int)
          ·
            refine h_takeg 13 rfl rfl (gT g10_12) (by kernel_rfl) (by kernel_rfl) (by kernel_rfl) (v_fld (o := 0) rfl (by kernel_rfl)) rfl hS ?_
            refine h_takeg 14 rfl rfl (gT g10_12) (by kernel_rfl) (by kernel_rfl) (by kernel_rfl) (v_ldo 6 (v := .string ((nth bs i).key)) rfl rfl rfl (by kernel_rfl)) rfl hS ?_
            refine h_takeg 15 rfl rfl (gT g10_12) (by kernel_rfl) (by kernel_rfl) (by kernel_rfl) (v_mv) rfl hS ?_
            refine h_takeg 16 rfl rfl (gT g10_12) (by kernel_rfl) (by kernel_rfl) (by kernel_rfl) (v_mv) rfl hS ?_
            refine h_takeg 17 rfl rfl (gT g10_12) (by kernel_rfl) (by kernel_rfl) (by kernel_rfl) (v_sub rfl rfl (wi64 (by omega))) rfl hS ?_
            refine h_takeg 18 rfl rfl (gT g10_12) (by kernel_rfl) (by kernel_rfl) (by kernel_rfl) (v_idxS (j := i - 1) (sz := 2) (len := bs.length) (cs := (bs.flatMap BudD.cells)) rfl rfl (by kernel_rfl) (fun w' hw' => Own.rd hbv hw') (by omega) (by omega)) rfl hS ?_
            refine h_takeg 19 rfl rfl (gT g10_12) (by kernel_rfl) (by kernel_rfl) (by kernel_rfl) (v_fld (o := 0) rfl (by kernel_rfl)) rfl hS ?_
            refine h_takeg 20 rfl rfl (gT g10_12) (by kernel_rfl) (by kernel_rfl) (by kernel_rfl) (v_ldS (v := bv) (off := offV bv + (i - 1) * 2 + 0) ((i - 1) * 2 + 0) (cs := (bs.flatMap BudD.cells)) rfl (by omega) (fun w' hw' => Own.rd hbv hw') (flat_at (sz := 2) (fun _ => rfl) (nth_some (by omega)) (i := 0) rfl) (by kernel_rfl)) rfl hS ?_
            refine h_takeg 21 rfl rfl (gT g10_12) (by kernel_rfl) (by kernel_rfl) (by kernel_rfl) (v_sle rfl rfl) rfl hS ?_
            refine h_takeg 22 rfl rfl (gF g10_9) (by kernel_rfl) (by kernel_rfl) (by kernel_rfl) (v_pickT (gT g10_12)) rfl hS ?_
            refine h_take 23 rfl (by kernel_rfl) (by kernel_rfl) (by kernel_rfl) (v_pickF (gF g10_9)) rfl hS ?_
            refine h_done (by kernel_rfl) ?_
            refine (?_ : C _ _ _ _ _ _ _ (Own w (fps [Res.row b 64 [.map (some bm), .map (some lm), .int .i64 now0, .int .u64 (cnt0 : Nat)], Res.mp Value.string ekI bm kb, Res.mp ekU leaV lm kl]) [Res.row b 64 [.map (some bm), .map (some lm), .int .i64 now0, .int .u64 (cnt0 : Nat)], Res.mp Value.string ekI bm kb, Res.mp ekU leaV lm kl, Res.row b1_ 64 [.map (some bm2_), .map (some lm3_), .int .i64 now, .int .u64 (last : Nat)], Res.mp Value.string ekI bm2_ kn, Res.mp ekU leaV lm3_ ([] : List (Nat × LeaD)), Res.row b13 68 (BudD.cells (nth bs i))])) _ hw
            refine c_dec rfl (fun c6 => ?_) (fun c6 => ?_)
            ·
              refine c_reg ?_
              refine l_as rfl ?_
              refine l_end ?_
              exact c_ret (ret1 (v := .int .i64 2) rfl rfl (fun w' hw => ⟨bm, lm, now0, cnt0, kb, kl, 2, rfl, .inr ⟨rfl, (fun q => bud_bad (i := i) q.buds (by omega) (.inr (.inr ⟨by omega, c6⟩))), rfl, rfl, rfl, rfl⟩, hw.sel [0, 1, 2] rfl (by decide)⟩))
            ·
              refine c_skipC ?_
              refine c_heldo [0, 1, 2, 3, 5, 6] rfl (by decide) (by kernel_rfl) (fun w' hw hS => ?_)
              refine h_take 0 rfl (by kernel_rfl) (by kernel_rfl) (by kernel_rfl) (v_mv) rfl hS ?_
              refine h_take 1 rfl (by kernel_rfl) (by kernel_rfl) (by kernel_rfl) (v_nck rfl) rfl hS ?_
              refine h_take 2 rfl (by kernel_rfl) (by kernel_rfl) (by kernel_rfl) (v_fld (o := 0) rfl (by kernel_rfl)) rfl hS ?_
              refine h_take 3 rfl (by kernel_rfl) (by kernel_rfl) (by kernel_rfl) (v_ldo 3 (v := .map (some bm2_)) rfl rfl rfl (by kernel_rfl)) rfl hS ?_
              refine h_take 4 rfl (by kernel_rfl) (by kernel_rfl) (by kernel_rfl) (v_fld (o := 0) rfl (by kernel_rfl)) rfl hS ?_
              refine h_take 5 rfl (by kernel_rfl) (by kernel_rfl) (by kernel_rfl) (v_ldo 5 (v := .string ((nth bs i).key)) rfl rfl rfl (by kernel_rfl)) rfl hS ?_
              refine h_take 6 rfl (by kernel_rfl) (by kernel_rfl) (by kernel_rfl) (v_fld (o := 1) rfl (by kernel_rfl)) rfl hS ?_
              refine h_take 7 rfl (by kernel_rfl) (by kernel_rfl) (by kernel_rfl) (v_ldo 5 (v := .int .i64 ((nth bs i).amount)) rfl rfl rfl (by kernel_rfl)) rfl hS ?_
              refine h_one 8 (by kernel_rfl) rfl hw ?_
              refine l_mupA 4 (k := (nth bs i).key) (v := (nth bs i).amount) keyB mapB rfl rfl rfl rfl ?_
              refine l_nil (fun w' hw => ?_)
              have hS := hw.sel [0, 1, 2, 3, 5, 6] rfl (by decide)
              refine ⟨hS, ?_⟩
              refine h_done (by kernel_rfl) ?_
              refine (?_ : C _ _ _ _ _ _ _ (Own w (fps [Res.row b 64 [.map (some bm), .map (some lm), .int .i64 now0, .int .u64 (cnt0 : Nat)], Res.mp Value.string ekI bm kb, Res.mp ekU leaV lm kl]) [Res.row b 64 [.map (some bm), .map (some lm), .int .i64 now0, .int .u64 (cnt0 : Nat)], Res.mp Value.string ekI bm kb, Res.mp ekU leaV lm kl, Res.row b1_ 64 [.map (some bm2_), .map (some lm3_), .int .i64 now, .int .u64 (last : Nat)], Res.mp Value.string ekI bm2_ (putA ((nth bs i).key) ((nth bs i).amount) kn), Res.mp ekU leaV lm3_ ([] : List (Nat × LeaD)), Res.row b13 68 (BudD.cells (nth bs i))])) _ hw
              refine c_last ?_
              refine l_add rfl rfl (wi64 (by omega)) rfl ?_
              refine l_mv rfl ?_
              exact l_nil (fun w' hw => ⟨i + 1, putA (nth bs i).key (nth bs i).amount kn, ⟨rfl, rfl, rfl, rfl, rfl, rfl, rfl, rfl, rfl, trivial⟩, ⟨by omega, bud_step hBI (by omega) (Decidable.not_not.1 g10_4) (by omega) (fun _ => c6), by rw [hkn]; exact bud_put hBI (by omega) (fun _ => c6)⟩, hw.sel [0, 1, 2, 3, 4, 5] rfl (by decide), (by omega)⟩)
          ·
            refine h_offg 13 rfl rfl (gF g10_12) rfl (by kernel_rfl) (by kernel_rfl) (by kernel_rfl) rfl hS ?_
            refine h_offg 14 rfl rfl (gF g10_12) rfl (by kernel_rfl) (by kernel_rfl) (by kernel_rfl) rfl hS ?_
            refine h_offg 15 rfl rfl (gF g10_12) rfl (by kernel_rfl) (by kernel_rfl) (by kernel_rfl) rfl hS ?_
            refine h_offg 16 rfl rfl (gF g10_12) rfl (by kernel_rfl) (by kernel_rfl) (by kernel_rfl) rfl hS ?_
            refine h_offg 17 rfl rfl (gF g10_12) rfl (by kernel_rfl) (by kernel_rfl) (by kernel_rfl) rfl hS ?_
            refine h_offg 18 rfl rfl (gF g10_12) rfl (by kernel_rfl) (by kernel_rfl) (by kernel_rfl) rfl hS ?_
            refine h_offg 19 rfl rfl (gF g10_12) rfl (by kernel_rfl) (by kernel_rfl) (by kernel_rfl) rfl hS ?_
            refine h_offg 20 rfl rfl (gF g10_12) rfl (by kernel_rfl) (by kernel_rfl) (by kernel_rfl) rfl hS ?_
            refine h_offg 21 rfl rfl (gF g10_12) rfl (by kernel_rfl) (by kernel_rfl) (by kernel_rfl) rfl hS ?_
            refine h_takeg 22 rfl rfl (gF g10_9) (by kernel_rfl) (by kernel_rfl) (by kernel_rfl) (v_pickF (gF g10_12)) rfl hS ?_
            refine h_take 23 rfl (by kernel_rfl) (by kernel_rfl) (by kernel_rfl) (v_pickF (gF g10_9)) rfl hS ?_
            refine h_done (by kernel_rfl) ?_
            refine (?_ : C _ _ _ _ _ _ _ (Own w (fps [Res.row b 64 [.map (some bm), .map (some lm), .int .i64 now0, .int .u64 (cnt0 : Nat)], Res.mp Value.string ekI bm kb, Res.mp ekU leaV lm kl]) [Res.row b 64 [.map (some bm), .map (some lm), .int .i64 now0, .int .u64 (cnt0 : Nat)], Res.mp Value.string ekI bm kb, Res.mp ekU leaV lm kl, Res.row b1_ 64 [.map (some bm2_), .map (some lm3_), .int .i64 now, .int .u64 (last : Nat)], Res.mp Value.string ekI bm2_ kn, Res.mp ekU leaV lm3_ ([] : List (Nat × LeaD)), Res.row b13 68 (BudD.cells (nth bs i))])) _ hw
            refine c_no rfl ?_
            refine c_skipC ?_
            refine c_heldo [0, 1, 2, 3, 5, 6] rfl (by decide) (by kernel_rfl) (fun w' hw hS => ?_)
            refine h_take 0 rfl (by kernel_rfl) (by kernel_rfl) (by kernel_rfl) (v_mv) rfl hS ?_
            refine h_take 1 rfl (by kernel_rfl) (by kernel_rfl) (by kernel_rfl) (v_nck rfl) rfl hS ?_
            refine h_take 2 rfl (by kernel_rfl) (by kernel_rfl) (by kernel_rfl) (v_fld (o := 0) rfl (by kernel_rfl)) rfl hS ?_
            refine h_take 3 rfl (by kernel_rfl) (by kernel_rfl) (by kernel_rfl) (v_ldo 3 (v := .map (some bm2_)) rfl rfl rfl (by kernel_rfl)) rfl hS ?_
            refine h_take 4 rfl (by kernel_rfl) (by kernel_rfl) (by kernel_rfl) (v_fld (o := 0) rfl (by kernel_rfl)) rfl hS ?_
            refine h_take 5 rfl (by kernel_rfl) (by kernel_rfl) (by kernel_rfl) (v_ldo 5 (v := .string ((nth bs i).key)) rfl rfl rfl (by kernel_rfl)) rfl hS ?_
            refine h_take 6 rfl (by kernel_rfl) (by kernel_rfl) (by kernel_rfl) (v_fld (o := 1) rfl (by kernel_rfl)) rfl hS ?_
            refine h_take 7 rfl (by kernel_rfl) (by kernel_rfl) (by kernel_rfl) (v_ldo 5 (v := .int .i64 ((nth bs i).amount)) rfl rfl rfl (by kernel_rfl)) rfl hS ?_
            refine h_one 8 (by kernel_rfl) rfl hw ?_
            refine l_mupA 4 (k := (nth bs i).key) (v := (nth bs i).amount) keyB mapB rfl rfl rfl rfl ?_
            refine l_nil (fun w' hw => ?_)
            have hS := hw.sel [0, 1, 2, 3, 5, 6] rfl (by decide)
            refine ⟨hS, ?_⟩
            refine h_done (by kernel_rfl) ?_
            refine (?_ : C _ _ _ _ _ _ _ (Own w (fps [Res.row b 64 [.map (some bm), .map (some lm), .int .i64 now0, .int .u64 (cnt0 : Nat)], Res.mp Value.string ekI bm kb, Res.mp ekU leaV lm kl]) [Res.row b 64 [.map (some bm), .map (some lm), .int .i64 now0, .int .u64 (cnt0 : Nat)], Res.mp Value.string ekI bm kb, Res.mp ekU leaV lm kl, Res.row b1_ 64 [.map (some bm2_), .map (some lm3_), .int .i64 now, .int .u64 (last : Nat)], Res.mp Value.string ekI bm2_ (putA ((nth bs i).key) ((nth bs i).amount) kn), Res.mp ekU leaV lm3_ ([] : List (Nat × LeaD)), Res.row b13 68 (BudD.cells (nth bs i))])) _ hw
            refine c_last ?_
            refine l_add rfl rfl (wi64 (by omega)) rfl ?_
            refine l_mv rfl ?_
            exact l_nil (fun w' hw => ⟨i + 1, putA (nth bs i).key (nth bs i).amount kn, ⟨rfl, rfl, rfl, rfl, rfl, rfl, rfl, rfl, rfl, trivial⟩, ⟨by omega, bud_step hBI (by omega) (Decidable.not_not.1 g10_4) (by omega) (fun h => absurd h (by omega)), by rw [hkn]; exact bud_put hBI (by omega) (fun h => absurd h (by omega))⟩, hw.sel [0, 1, 2, 3, 4, 5] rfl (by decide), (by omega)⟩)
    ·
      refine c_exitC rfl ?_
      refine c_seq ?_
      refine c_reg ?_
      refine l_mv rfl ?_
      refine l_lenS (len := ls.length) (cs := (ls.flatMap LeaD.cells)) (by kernel_rfl) rfl (fun w' hw' => Own.rd hlv hw') rfl ?_
      refine l_mv rfl ?_
      refine l_end ?_
      refine c_block ?_
      refine c_loop2 (fun (j : Nat) (kn2 : List (Nat × LeaD)) => [(0, .pointer (some ⟨b, 0, none⟩)), (1, .int .i64 now), (2, .int .u64 (last : Nat)), (4, lv), (11, .pointer (some ⟨b1_, 0, none⟩)), (85, lv), (86, .int .i64 (ls.length : Nat)), (87, .int .i64 (j : Nat))]) (fun (j : Nat) (kn2 : List (Nat × LeaD)) => j ≤ ls.length ∧ LeasOk now last (ls.take j) ∧ kn2 = KL (ls.take j)) (fun (j : Nat) (kn2 : List (Nat × LeaD)) => [Res.row b 64 [.map (some bm), .map (some lm), .int .i64 now0, .int .u64 (cnt0 : Nat)], Res.mp Value.string ekI bm kb, Res.mp ekU leaV lm kl, Res.row b1_ 64 [.map (some bm2_), .map (some lm3_), .int .i64 now, .int .u64 (last : Nat)], Res.mp Value.string ekI bm2_ kn, Res.mp ekU leaV lm3_ kn2]) (fun (j : Nat) (kn2 : List (Nat × LeaD)) => ls.length - j) (fun w' hw => ⟨0, [], ⟨rfl, rfl, rfl, rfl, rfl, rfl, rfl, rfl, trivial⟩, ⟨Nat.zero_le _, LeasOk.nil _ _, rfl⟩, hw⟩) (fun j kn2 g hΦ => ?_)
      have hj := hΦ.1
      have hLI := hΦ.2.1
      have hkn2 := hΦ.2.2
      refine c_reg ?_
      refine l_lss rfl rfl rfl ?_
      refine l_end ?_
      refine c_seq ?_
      refine c_dec rfl (fun c8 => ?_) (fun c8 => ?_)
      ·
        refine c_skipC ?_
        refine c_seq ?_
        refine c_block ?_
        refine c_reg ?_
        refine l_mv rfl ?_
        refine l_idxS (j := j) (sz := 5) (len := ls.length) (cs := (ls.flatMap LeaD.cells)) rfl rfl (by kernel_rfl) (fun w' hw' => Own.rd hlv hw') rfl (by omega) rfl ?_
        refine l_ldSN (v := lv) (off := offV lv + j * 5) (j * 5 + 0) (cs := (ls.flatMap LeaD.cells)) (LeaD.cells (nth ls j)) rfl (by omega) (fun w' hw' => Own.rd hlv hw') (flat_atN (sz := 5) (fun _ => rfl) (nth_some (by omega)) (o := 0) (us := (LeaD.cells (nth ls j))) (fun k u h => by rw [Nat.zero_add]; exact h)) (by kernel_rfl) rfl ?_
        refine l_new (v := .agg #[.int .u64 (0 : Nat), .int .u64 (0 : Nat), .string (⟨#[]⟩ : ByteArray), .int .i64 0, .int .i64 0]) (by kernel_rfl) rfl (fun b15 => ?_)
        refine l_as rfl ?_
        refine l_stN (cs := [.int .u64 (0 : Nat), .int .u64 (0 : Nat), .string (⟨#[]⟩ : ByteArray), .int .i64 0, .int .i64 0]) (vs := [.int .u64 ((nth ls j).id : Nat), .int .u64 ((nth ls j).session : Nat), .string ((nth ls j).key), .int .i64 ((nth ls j).amount), .int .i64 ((nth ls j).until_)]) 6 rfl rfl rfl (by kernel_rfl) (allc_cons rfl (allc_cons rfl (allc_cons rfl (allc_cons rfl (allc_cons rfl allc_nil))))) (Nat.le_of_ble_eq_true rfl) ?_
        refine l_end ?_
        refine c_seq ?_
        refine c_heldo [0, 1, 2, 4, 6] rfl (by decide) (by kernel_rfl) (fun w' hw hS => ?_)
        refine h_take 0 rfl (by kernel_rfl) (by kernel_rfl) (by kernel_rfl) (v_mv) rfl hS ?_
        refine h_take 1 rfl (by kernel_rfl) (by kernel_rfl) (by kernel_rfl) (v_fld (o := 2) rfl (by kernel_rfl)) rfl hS ?_
        refine h_take 2 rfl (by kernel_rfl) (by kernel_rfl) (by kernel_rfl) (v_ldo 4 (v := .string ((nth ls j).key)) rfl rfl rfl (by kernel_rfl)) rfl hS ?_
        refine h_take 4 rfl (by kernel_rfl) (by kernel_rfl) (by kernel_rfl) (v_fld (o := 3) rfl (by kernel_rfl)) rfl hS ?_
        refine h_take 5 rfl (by kernel_rfl) (by kernel_rfl) (by kernel_rfl) (v_ldo 4 (v := .int .i64 ((nth ls j).amount)) rfl rfl rfl (by kernel_rfl)) rfl hS ?_
        refine h_one 3 (by kernel_rfl) rfl hw ?_
        refine l_call (by kernel_rfl) rfl rfl (fun w' hw => ?_)
        refine (lent_s b1_ bm2_ lm3_ now last kn2 ((nth ls j).key) w' (hw.give [3, 5] rfl (by decide))).mono ?_
        rintro _ w1 ⟨n4_, rfl, hf17_3, hO⟩
        refine (?_ : CL _ _ _ _ _ _ (Own w (fps [Res.row b 64 [.map (some bm), .map (some lm), .int .i64 now0, .int .u64 (cnt0 : Nat)], Res.mp Value.string ekI bm kb, Res.mp ekU leaV lm kl]) [Res.row b 64 [.map (some bm), .map (some lm), .int .i64 now0, .int .u64 (cnt0 : Nat)], Res.mp Value.string ekI bm kb, Res.mp ekU leaV lm kl, Res.mp Value.string ekI bm2_ kn, Res.row b15 37 (LeaD.cells (nth ls j)), Res.row b1_ 64 [.map (some bm2_), .map (some lm3_), .int .i64 now, .int .u64 (last : Nat)], Res.mp ekU leaV lm3_ kn2])) w1 (hw.frameL [3, 5] rfl hO)
        refine l_nil (fun w' hw => ?_)
        have hS := hw.sel [0, 1, 2, 3, 4] rfl (by decide)
        refine ⟨hS, ?_⟩
        refine h_one 6 (by kernel_rfl) rfl hw ?_
        refine l_bsl (e := 2) (sz := 1) (vs := [.int .i64 n4_, .int .i64 ((nth ls j).amount)]) (by kernel_rfl) rfl rfl (by simp [Value.cells]) (by decide) rfl (fun b99 => ?_)
        refine l_nil (fun w' hw => ?_)
        have hS := hw.sel [0, 1, 2, 3, 4] rfl (by decide)
        refine ⟨hS, ?_⟩
        refine h_one 7 (by kernel_rfl) rfl hw ?_
        refine l_call (by kernel_rfl) rfl rfl (fun w' hw => ?_)
        refine (total_s (.slice (some ⟨b99, 0, none⟩) 2 2) [n4_, (nth ls j).amount] w' rfl (by show 0 ≤ n4_ ∧ n4_ ≤ _; rw [hf17_3, hkn2, (lea_lent hLI _).1]; exact (lea_lent hLI _).2) (by show _ ≤ (nth ls j).amount ∧ (nth ls j).amount ≤ _; exact hli _ (nth_mem (by omega))) (hw.rdVec0 7 rfl)).mono ?_
        rintro _ w1 ⟨n5_, e6_, rfl, hf17_7, hO⟩
        refine (?_ : CL _ _ _ _ _ _ (Own w (fps [Res.row b 64 [.map (some bm), .map (some lm), .int .i64 now0, .int .u64 (cnt0 : Nat)], Res.mp Value.string ekI bm kb, Res.mp ekU leaV lm kl]) [Res.row b 64 [.map (some bm), .map (some lm), .int .i64 now0, .int .u64 (cnt0 : Nat)], Res.mp Value.string ekI bm kb, Res.mp ekU leaV lm kl, Res.mp Value.string ekI bm2_ kn, Res.row b15 37 (LeaD.cells (nth ls j)), Res.row b1_ 64 [.map (some bm2_), .map (some lm3_), .int .i64 now, .int .u64 (last : Nat)], Res.mp ekU leaV lm3_ kn2, Res.vec 2 1 (.slice (some ⟨b99, 0, none⟩) 2 2) [n4_, (nth ls j).amount].length ([n4_, (nth ls j).amount].flatMap I1)])) w1 (hw.frame0 hO)
        refine l_nil (fun w' hw => ?_)
        have hS := hw.sel [0, 1, 2, 3, 4] rfl (by decide)
        refine ⟨hS, ?_⟩
        refine h_take 8 rfl (by kernel_rfl) (by kernel_rfl) (by kernel_rfl) (v_mv) rfl hS ?_
        refine h_take 9 rfl (by kernel_rfl) (by kernel_rfl) (by kernel_rfl) (v_ext (vs := [.int .i64 n5_, .int .i64 e6_]) rfl rfl) rfl hS ?_
        refine h_take 10 rfl (by kernel_rfl) (by kernel_rfl) (by kernel_rfl) (v_ext (vs := [.int .i64 n5_, .int .i64 e6_]) rfl rfl) rfl hS ?_
        refine h_take 11 rfl (by kernel_rfl) (by kernel_rfl) (by kernel_rfl) (v_as) rfl hS ?_
        refine h_take 12 rfl (by kernel_rfl) (by kernel_rfl) (by kernel_rfl) (v_as) rfl hS ?_
        refine h_done (by kernel_rfl) ?_
        refine (?_ : C _ _ _ _ _ _ _ (Own w (fps [Res.row b 64 [.map (some bm), .map (some lm), .int .i64 now0, .int .u64 (cnt0 : Nat)], Res.mp Value.string ekI bm kb, Res.mp ekU leaV lm kl]) [Res.row b 64 [.map (some bm), .map (some lm), .int .i64 now0, .int .u64 (cnt0 : Nat)], Res.mp Value.string ekI bm kb, Res.mp ekU leaV lm kl, Res.mp Value.string ekI bm2_ kn, Res.row b15 37 (LeaD.cells (nth ls j)), Res.row b1_ 64 [.map (some bm2_), .map (some lm3_), .int .i64 now, .int .u64 (last : Nat)], Res.mp ekU leaV lm3_ kn2, Res.vec 2 1 (.slice (some ⟨b99, 0, none⟩) 2 2) [n4_, (nth ls j).amount].length ([n4_, (nth ls j).amount].flatMap I1)])) _ hw
        refine c_seq ?_
        refine c_seq ?_
        refine c_heldo [0, 1, 2, 3, 4, 5, 6, 7] rfl (by decide) (by kernel_rfl) (fun w' hw hS => ?_)
        refine h_take 0 rfl (by kernel_rfl) (by kernel_rfl) (by kernel_rfl) (v_mv) rfl hS ?_
        refine h_take 1 rfl (by kernel_rfl) (by kernel_rfl) (by kernel_rfl) (v_ne rfl rfl) rfl hS ?_
        refine h_take 2 rfl (by kernel_rfl) (by kernel_rfl) (by kernel_rfl) (v_mv) rfl hS ?_
        by_cases g18_2 : e6_ ≠ 0
        ·
          refine h_offg 3 rfl rfl (gT g18_2) rfl (by kernel_rfl) (by kernel_rfl) (by kernel_rfl) rfl hS ?_
          refine h_offg 4 rfl rfl (gT g18_2) rfl (by kernel_rfl) (by kernel_rfl) (by kernel_rfl) rfl hS ?_
          refine h_offg 5 rfl rfl (gT g18_2) rfl (by kernel_rfl) (by kernel_rfl) (by kernel_rfl) rfl hS ?_
          refine h_offg 6 rfl rfl (gT g18_2) rfl (by kernel_rfl) (by kernel_rfl) (by kernel_rfl) rfl hS ?_
          refine h_offg 7 rfl rfl (gT g18_2) rfl (by kernel_rfl) (by kernel_rfl) (by kernel_rfl) rfl hS ?_
          refine h_take 8 rfl (by kernel_rfl) (by kernel_rfl) (by kernel_rfl) (v_pickT (gT g18_2)) rfl hS ?_
          refine h_take 9 rfl (by kernel_rfl) (by kernel_rfl) (by kernel_rfl) (v_mv) rfl hS ?_
          refine h_offg 10 rfl rfl rfl rfl (by kernel_rfl) (by kernel_rfl) (by kernel_rfl) rfl hS ?_
          refine h_offg 11 rfl rfl rfl rfl (by kernel_rfl) (by kernel_rfl) (by kernel_rfl) rfl hS ?_
          refine h_offg 12 rfl rfl rfl rfl (by kernel_rfl) (by kernel_rfl) (by kernel_rfl) rfl hS ?_
          refine h_offu 13 rfl rfl rfl (by kernel_rfl) (by kernel_rfl) (by kernel_rfl) rfl hS ?_
          refine h_offu 14 rfl rfl rfl (by kernel_rfl) (by kernel_rfl) (by kernel_rfl) rfl hS ?_
          refine h_offu 15 rfl rfl rfl (by kernel_rfl) (by kernel_rfl) (by kernel_rfl) rfl hS ?_
          refine h_offu 16 rfl rfl rfl (by kernel_rfl) (by kernel_rfl) (by kernel_rfl) rfl hS ?_
          refine h_offu 17 rfl rfl rfl (by kernel_rfl) (by kernel_rfl) (by kernel_rfl) rfl hS ?_
          refine h_offu 18 rfl rfl rfl (by kernel_rfl) (by kernel_rfl) (by kernel_rfl) rfl hS ?_
          refine h_offu 19 rfl rfl rfl (by kernel_rfl) (by kernel_rfl) (by kernel_rfl) rfl hS ?_
          refine h_offu 20 rfl rfl rfl (by kernel_rfl) (by kernel_rfl) (by kernel_rfl) rfl hS ?_
          refine h_offu 21 rfl rfl rfl (by kernel_rfl) (by kernel_rfl) (by kernel_rfl) rfl hS ?_
          refine h_offg 22 rfl rfl rfl rfl (by kernel_rfl) (by kernel_rfl) (by kernel_rfl) rfl hS ?_
          refine h_take 23 rfl (by kernel_rfl) (by kernel_rfl) (by kernel_rfl) (v_pickT rfl) rfl hS ?_
          refine h_done (by kernel_rfl) ?_
          refine (?_ : C _ _ _ _ _ _ _ (Own w (fps [Res.row b 64 [.map (some bm), .map (some lm), .int .i64 now0, .int .u64 (cnt0 : Nat)], Res.mp Value.string ekI bm kb, Res.mp ekU leaV lm kl]) [Res.row b 64 [.map (some bm), .map (some lm), .int .i64 now0, .int .u64 (cnt0 : Nat)], Res.mp Value.string ekI bm kb, Res.mp ekU leaV lm kl, Res.mp Value.string ekI bm2_ kn, Res.row b15 37 (LeaD.cells (nth ls j)), Res.row b1_ 64 [.map (some bm2_), .map (some lm3_), .int .i64 now, .int .u64 (last : Nat)], Res.mp ekU leaV lm3_ kn2, Res.vec 2 1 (.slice (some ⟨b99, 0, none⟩) 2 2) [n4_, (nth ls j).amount].length ([n4_, (nth ls j).amount].flatMap I1)])) _ hw
          refine c_yes rfl ?_
          refine c_reg ?_
          refine l_as rfl ?_
          refine l_end ?_
          exact c_ret (ret1 (v := .int .i64 2) rfl rfl (fun w' hw => ⟨bm, lm, now0, cnt0, kb, kl, 2, rfl, .inr ⟨rfl, (fun q => lea_bad (i := j) q.leas (by omega) (.inl (by have := tot_bad hf17_7 g18_2; rw [hf17_3, hkn2, (lea_lent hLI _).1] at this; exact this))), rfl, rfl, rfl, rfl⟩, hw.sel [0, 1, 2] rfl (by decide)⟩))
        ·
          refine h_takeg 3 rfl rfl (gF g18_2) (by kernel_rfl) (by kernel_rfl) (by kernel_rfl) (v_ldr (cs := (LeaD.cells (nth ls j))) 4 rfl rfl (by kernel_rfl)) rfl hS ?_
          refine h_takeg 4 rfl rfl (gF g18_2) (by kernel_rfl) (by kernel_rfl) (by kernel_rfl) (v_mv) rfl hS ?_
          refine h_takeg 5 rfl rfl (gF g18_2) (by kernel_rfl) (by kernel_rfl) (by kernel_rfl) (v_mv) rfl hS ?_
          refine h_one 6 (by kernel_rfl) rfl hw ?_
          refine l_on rfl (gF g18_2) ?_
          refine l_call (by kernel_rfl) rfl rfl (fun w' hw => ?_)
          refine (sound_s (nth ls j) now last w').mono ?_
          rintro _ w1 ⟨rfl, hO⟩
          refine (?_ : CL _ _ _ _ _ _ (Own w (fps [Res.row b 64 [.map (some bm), .map (some lm), .int .i64 now0, .int .u64 (cnt0 : Nat)], Res.mp Value.string ekI bm kb, Res.mp ekU leaV lm kl]) [Res.row b 64 [.map (some bm), .map (some lm), .int .i64 now0, .int .u64 (cnt0 : Nat)], Res.mp Value.string ekI bm kb, Res.mp ekU leaV lm kl, Res.mp Value.string ekI bm2_ kn, Res.row b15 37 (LeaD.cells (nth ls j)), Res.row b1_ 64 [.map (some bm2_), .map (some lm3_), .int .i64 now, .int .u64 (last : Nat)], Res.mp ekU leaV lm3_ kn2, Res.vec 2 1 (.slice (some ⟨b99, 0, none⟩) 2 2) [n4_, (nth ls j).amount].length ([n4_, (nth ls j).amount].flatMap I1)])) w1 (hw.frame0 hO)
          refine l_nil (fun w' hw => ?_)
          have hS := hw.sel [0, 1, 2, 3, 4, 5, 6, 7] rfl (by decide)
          refine ⟨hS, ?_⟩
          refine h_takeg 7 rfl rfl (gF g18_2) (by kernel_rfl) (by kernel_rfl) (by kernel_rfl) (v_notp (q := LeaOk now last (nth ls j)) rfl) rfl hS ?_
          refine h_take 8 rfl (by kernel_rfl) (by kernel_rfl) (by kernel_rfl) (v_pickF (gF g18_2)) rfl hS ?_
          refine h_take 9 rfl (by kernel_rfl) (by kernel_rfl) (by kernel_rfl) (v_mv) rfl hS ?_
          by_cases g18_9 : ¬ (LeaOk now last (nth ls j))
          ·
            refine h_offg 10 rfl rfl (gT g18_9) rfl (by kernel_rfl) (by kernel_rfl) (by kernel_rfl) rfl hS ?_
            refine h_offg 11 rfl rfl (gT g18_9) rfl (by kernel_rfl) (by kernel_rfl) (by kernel_rfl) rfl hS ?_
            refine h_offg 12 rfl rfl (gT g18_9) rfl (by kernel_rfl) (by kernel_rfl) (by kernel_rfl) rfl hS ?_
            refine h_offu 13 rfl rfl rfl (by kernel_rfl) (by kernel_rfl) (by kernel_rfl) rfl hS ?_
            refine h_offu 14 rfl rfl rfl (by kernel_rfl) (by kernel_rfl) (by kernel_rfl) rfl hS ?_
            refine h_offu 15 rfl rfl rfl (by kernel_rfl) (by kernel_rfl) (by kernel_rfl) rfl hS ?_
            refine h_offu 16 rfl rfl rfl (by kernel_rfl) (by kernel_rfl) (by kernel_rfl) rfl hS ?_
            refine h_offu 17 rfl rfl rfl (by kernel_rfl) (by kernel_rfl) (by kernel_rfl) rfl hS ?_
            refine h_offu 18 rfl rfl rfl (by kernel_rfl) (by kernel_rfl) (by kernel_rfl) rfl hS ?_
            refine h_offu 19 rfl rfl rfl (by kernel_rfl) (by kernel_rfl) (by kernel_rfl) rfl hS ?_
            refine h_offu 20 rfl rfl rfl (by kernel_rfl) (by kernel_rfl) (by kernel_rfl) rfl hS ?_
            refine h_offu 21 rfl rfl rfl (by kernel_rfl) (by kernel_rfl) (by kernel_rfl) rfl hS ?_
            refine h_offg 22 rfl rfl (gT g18_9) rfl (by kernel_rfl) (by kernel_rfl) (by kernel_rfl) rfl hS ?_
            refine h_take 23 rfl (by kernel_rfl) (by kernel_rfl) (by kernel_rfl) (v_pickT (gT g18_9)) rfl hS ?_
            refine h_done (by kernel_rfl) ?_
            refine (?_ : C _ _ _ _ _ _ _ (Own w (fps [Res.row b 64 [.map (some bm), .map (some lm), .int .i64 now0, .int .u64 (cnt0 : Nat)], Res.mp Value.string ekI bm kb, Res.mp ekU leaV lm kl]) [Res.row b 64 [.map (some bm), .map (some lm), .int .i64 now0, .int .u64 (cnt0 : Nat)], Res.mp Value.string ekI bm kb, Res.mp ekU leaV lm kl, Res.mp Value.string ekI bm2_ kn, Res.row b15 37 (LeaD.cells (nth ls j)), Res.row b1_ 64 [.map (some bm2_), .map (some lm3_), .int .i64 now, .int .u64 (last : Nat)], Res.mp ekU leaV lm3_ kn2, Res.vec 2 1 (.slice (some ⟨b99, 0, none⟩) 2 2) [n4_, (nth ls j).amount].length ([n4_, (nth ls j).amount].flatMap I1)])) _ hw
            refine c_yes rfl ?_
            refine c_reg ?_
            refine l_as rfl ?_
            refine l_end ?_
            exact c_ret (ret1 (v := .int .i64 2) rfl rfl (fun w' hw => ⟨bm, lm, now0, cnt0, kb, kl, 2, rfl, .inr ⟨rfl, (fun q => lea_bad (i := j) q.leas (by omega) (.inr (.inl g18_9))), rfl, rfl, rfl, rfl⟩, hw.sel [0, 1, 2] rfl (by decide)⟩))
          ·
            refine h_takeg 10 rfl rfl (gF g18_9) (by kernel_rfl) (by kernel_rfl) (by kernel_rfl) (v_mv) rfl hS ?_
            refine h_takeg 11 rfl rfl (gF g18_9) (by kernel_rfl) (by kernel_rfl) (by kernel_rfl) (v_gtr rfl rfl) rfl hS ?_
            refine h_takeg 12 rfl rfl (gF g18_9) (by kernel_rfl) (by kernel_rfl) (by kernel_rfl) (v_mv) rfl hS ?_
            by_cases g18_12 : 0 < ((j : Nat) : Int)
            ·
              refine h_takeg 13 rfl rfl (gT g18_12) (by kernel_rfl) (by kernel_rfl) (by kernel_rfl) (v_fld (o := 0) rfl (by kernel_rfl)) rfl hS ?_
              refine h_takeg 14 rfl rfl (gT g18_12) (by kernel_rfl) (by kernel_rfl) (by kernel_rfl) (v_ldo 4 (v := .int .u64 ((nth ls j).id : Nat)) rfl rfl rfl (by kernel_rfl)) rfl hS ?_
              refine h_takeg 15 rfl rfl (gT g18_12) (by kernel_rfl) (by kernel_rfl) (by kernel_rfl) (v_mv) rfl hS ?_
              refine h_takeg 16 rfl rfl (gT g18_12) (by kernel_rfl) (by kernel_rfl) (by kernel_rfl) (v_mv) rfl hS ?_
              refine h_takeg 17 rfl rfl (gT g18_12) (by kernel_rfl) (by kernel_rfl) (by kernel_rfl) (v_sub rfl rfl (wi64 (by omega))) rfl hS ?_
              refine h_takeg 18 rfl rfl (gT g18_12) (by kernel_rfl) (by kernel_rfl) (by kernel_rfl) (v_idxS (j := j - 1) (sz := 5) (len := ls.length) (cs := (ls.flatMap LeaD.cells)) rfl rfl (by kernel_rfl) (fun w' hw' => Own.rd hlv hw') (by omega) (by omega)) rfl hS ?_
              refine h_takeg 19 rfl rfl (gT g18_12) (by kernel_rfl) (by kernel_rfl) (by kernel_rfl) (v_fld (o := 0) rfl (by kernel_rfl)) rfl hS ?_
              refine h_takeg 20 rfl rfl (gT g18_12) (by kernel_rfl) (by kernel_rfl) (by kernel_rfl) (v_ldS (v := lv) (off := offV lv + (j - 1) * 5 + 0) ((j - 1) * 5 + 0) (cs := (ls.flatMap LeaD.cells)) rfl (by omega) (fun w' hw' => Own.rd hlv hw') (flat_at (sz := 5) (fun _ => rfl) (nth_some (by omega)) (i := 0) rfl) (by kernel_rfl)) rfl hS ?_
              refine h_takeg 21 rfl rfl (gT g18_12) (by kernel_rfl) (by kernel_rfl) (by kernel_rfl) (v_leq rfl rfl) rfl hS ?_
              refine h_takeg 22 rfl rfl (gF g18_9) (by kernel_rfl) (by kernel_rfl) (by kernel_rfl) (v_pickT (gT g18_12)) rfl hS ?_
              refine h_take 23 rfl (by kernel_rfl) (by kernel_rfl) (by kernel_rfl) (v_pickF (gF g18_9)) rfl hS ?_
              refine h_done (by kernel_rfl) ?_
              refine (?_ : C _ _ _ _ _ _ _ (Own w (fps [Res.row b 64 [.map (some bm), .map (some lm), .int .i64 now0, .int .u64 (cnt0 : Nat)], Res.mp Value.string ekI bm kb, Res.mp ekU leaV lm kl]) [Res.row b 64 [.map (some bm), .map (some lm), .int .i64 now0, .int .u64 (cnt0 : Nat)], Res.mp Value.string ekI bm kb, Res.mp ekU leaV lm kl, Res.mp Value.string ekI bm2_ kn, Res.row b15 37 (LeaD.cells (nth ls j)), Res.row b1_ 64 [.map (some bm2_), .map (some lm3_), .int .i64 now, .int .u64 (last : Nat)], Res.mp ekU leaV lm3_ kn2, Res.vec 2 1 (.slice (some ⟨b99, 0, none⟩) 2 2) [n4_, (nth ls j).amount].length ([n4_, (nth ls j).amount].flatMap I1)])) _ hw
              refine c_dec rfl (fun c11 => ?_) (fun c11 => ?_)
              ·
                refine c_reg ?_
                refine l_as rfl ?_
                refine l_end ?_
                exact c_ret (ret1 (v := .int .i64 2) rfl rfl (fun w' hw => ⟨bm, lm, now0, cnt0, kb, kl, 2, rfl, .inr ⟨rfl, (fun q => lea_bad (i := j) q.leas (by omega) (.inr (.inr ⟨by omega, by omega⟩))), rfl, rfl, rfl, rfl⟩, hw.sel [0, 1, 2] rfl (by decide)⟩))
              ·
                refine c_skipC ?_
                refine c_heldo [0, 1, 2, 3, 4, 5, 7] rfl (by decide) (by kernel_rfl) (fun w' hw hS => ?_)
                refine h_take 0 rfl (by kernel_rfl) (by kernel_rfl) (by kernel_rfl) (v_mv) rfl hS ?_
                refine h_take 1 rfl (by kernel_rfl) (by kernel_rfl) (by kernel_rfl) (v_nck rfl) rfl hS ?_
                refine h_take 2 rfl (by kernel_rfl) (by kernel_rfl) (by kernel_rfl) (v_fld (o := 1) rfl (by kernel_rfl)) rfl hS ?_
                refine h_take 3 rfl (by kernel_rfl) (by kernel_rfl) (by kernel_rfl) (v_ldo 5 (v := .map (some lm3_)) rfl rfl rfl (by kernel_rfl)) rfl hS ?_
                refine h_take 4 rfl (by kernel_rfl) (by kernel_rfl) (by kernel_rfl) (v_fld (o := 0) rfl (by kernel_rfl)) rfl hS ?_
                refine h_take 5 rfl (by kernel_rfl) (by kernel_rfl) (by kernel_rfl) (v_ldo 4 (v := .int .u64 ((nth ls j).id : Nat)) rfl rfl rfl (by kernel_rfl)) rfl hS ?_
                refine h_take 6 rfl (by kernel_rfl) (by kernel_rfl) (by kernel_rfl) (v_ldr (cs := (LeaD.cells (nth ls j))) 4 rfl rfl (by kernel_rfl)) rfl hS ?_
                refine h_one 7 (by kernel_rfl) rfl hw ?_
                refine l_mupA 6 (k := (nth ls j).id) (v := (nth ls j)) keyU mapL rfl rfl rfl rfl ?_
                refine l_nil (fun w' hw => ?_)
                have hS := hw.sel [0, 1, 2, 3, 4, 5, 7] rfl (by decide)
                refine ⟨hS, ?_⟩
                refine h_done (by kernel_rfl) ?_
                refine (?_ : C _ _ _ _ _ _ _ (Own w (fps [Res.row b 64 [.map (some bm), .map (some lm), .int .i64 now0, .int .u64 (cnt0 : Nat)], Res.mp Value.string ekI bm kb, Res.mp ekU leaV lm kl]) [Res.row b 64 [.map (some bm), .map (some lm), .int .i64 now0, .int .u64 (cnt0 : Nat)], Res.mp Value.string ekI bm kb, Res.mp ekU leaV lm kl, Res.mp Value.string ekI bm2_ kn, Res.row b15 37 (LeaD.cells (nth ls j)), Res.row b1_ 64 [.map (some bm2_), .map (some lm3_), .int .i64 now, .int .u64 (last : Nat)], Res.mp ekU leaV lm3_ (putA ((nth ls j).id) (nth ls j) kn2), Res.vec 2 1 (.slice (some ⟨b99, 0, none⟩) 2 2) [n4_, (nth ls j).amount].length ([n4_, (nth ls j).amount].flatMap I1)])) _ hw
                refine c_last ?_
                refine l_add rfl rfl (wi64 (by omega)) rfl ?_
                refine l_mv rfl ?_
                exact l_nil (fun w' hw => ⟨j + 1, putA (nth ls j).id (nth ls j) kn2, ⟨rfl, rfl, rfl, rfl, rfl, rfl, rfl, rfl, trivial⟩, ⟨by omega, lea_step hLI (by omega) (Decidable.not_not.1 g18_9) (by have := tot_ok hf17_7 g18_2; rw [hf17_3, hkn2, (lea_lent hLI _).1] at this; exact this) (fun _ => by omega), by rw [hkn2]; exact lea_put hLI (by omega) (fun _ => by omega)⟩, hw.sel [0, 1, 2, 5, 3, 6] rfl (by decide), (by omega)⟩)
            ·
              refine h_offg 13 rfl rfl (gF g18_12) rfl (by kernel_rfl) (by kernel_rfl) (by kernel_rfl) rfl hS ?_
              refine h_offg 14 rfl rfl (gF g18_12) rfl (by kernel_rfl) (by kernel_rfl) (by kernel_rfl) rfl hS ?_
              refine h_offg 15 rfl rfl (gF g18_12) rfl (by kernel_rfl) (by kernel_rfl) (by kernel_rfl) rfl hS ?_
              refine h_offg 16 rfl rfl (gF g18_12) rfl (by kernel_rfl) (by kernel_rfl) (by kernel_rfl) rfl hS ?_
              refine h_offg 17 rfl rfl (gF g18_12) rfl (by kernel_rfl) (by kernel_rfl) (by kernel_rfl) rfl hS ?_
              refine h_offg 18 rfl rfl (gF g18_12) rfl (by kernel_rfl) (by kernel_rfl) (by kernel_rfl) rfl hS ?_
              refine h_offg 19 rfl rfl (gF g18_12) rfl (by kernel_rfl) (by kernel_rfl) (by kernel_rfl) rfl hS ?_
              refine h_offg 20 rfl rfl (gF g18_12) rfl (by kernel_rfl) (by kernel_rfl) (by kernel_rfl) rfl hS ?_
              refine h_offg 21 rfl rfl (gF g18_12) rfl (by kernel_rfl) (by kernel_rfl) (by kernel_rfl) rfl hS ?_
              refine h_takeg 22 rfl rfl (gF g18_9) (by kernel_rfl) (by kernel_rfl) (by kernel_rfl) (v_pickF (gF g18_12)) rfl hS ?_
              refine h_take 23 rfl (by kernel_rfl) (by kernel_rfl) (by kernel_rfl) (v_pickF (gF g18_9)) rfl hS ?_
              refine h_done (by kernel_rfl) ?_
              refine (?_ : C _ _ _ _ _ _ _ (Own w (fps [Res.row b 64 [.map (some bm), .map (some lm), .int .i64 now0, .int .u64 (cnt0 : Nat)], Res.mp Value.string ekI bm kb, Res.mp ekU leaV lm kl]) [Res.row b 64 [.map (some bm), .map (some lm), .int .i64 now0, .int .u64 (cnt0 : Nat)], Res.mp Value.string ekI bm kb, Res.mp ekU leaV lm kl, Res.mp Value.string ekI bm2_ kn, Res.row b15 37 (LeaD.cells (nth ls j)), Res.row b1_ 64 [.map (some bm2_), .map (some lm3_), .int .i64 now, .int .u64 (last : Nat)], Res.mp ekU leaV lm3_ kn2, Res.vec 2 1 (.slice (some ⟨b99, 0, none⟩) 2 2) [n4_, (nth ls j).amount].length ([n4_, (nth ls j).amount].flatMap I1)])) _ hw
              refine c_no rfl ?_
              refine c_skipC ?_
              refine c_heldo [0, 1, 2, 3, 4, 5, 7] rfl (by decide) (by kernel_rfl) (fun w' hw hS => ?_)
              refine h_take 0 rfl (by kernel_rfl) (by kernel_rfl) (by kernel_rfl) (v_mv) rfl hS ?_
              refine h_take 1 rfl (by kernel_rfl) (by kernel_rfl) (by kernel_rfl) (v_nck rfl) rfl hS ?_
              refine h_take 2 rfl (by kernel_rfl) (by kernel_rfl) (by kernel_rfl) (v_fld (o := 1) rfl (by kernel_rfl)) rfl hS ?_
              refine h_take 3 rfl (by kernel_rfl) (by kernel_rfl) (by kernel_rfl) (v_ldo 5 (v := .map (some lm3_)) rfl rfl rfl (by kernel_rfl)) rfl hS ?_
              refine h_take 4 rfl (by kernel_rfl) (by kernel_rfl) (by kernel_rfl) (v_fld (o := 0) rfl (by kernel_rfl)) rfl hS ?_
              refine h_take 5 rfl (by kernel_rfl) (by kernel_rfl) (by kernel_rfl) (v_ldo 4 (v := .int .u64 ((nth ls j).id : Nat)) rfl rfl rfl (by kernel_rfl)) rfl hS ?_
              refine h_take 6 rfl (by kernel_rfl) (by kernel_rfl) (by kernel_rfl) (v_ldr (cs := (LeaD.cells (nth ls j))) 4 rfl rfl (by kernel_rfl)) rfl hS ?_
              refine h_one 7 (by kernel_rfl) rfl hw ?_
              refine l_mupA 6 (k := (nth ls j).id) (v := (nth ls j)) keyU mapL rfl rfl rfl rfl ?_
              refine l_nil (fun w' hw => ?_)
              have hS := hw.sel [0, 1, 2, 3, 4, 5, 7] rfl (by decide)
              refine ⟨hS, ?_⟩
              refine h_done (by kernel_rfl) ?_
              refine (?_ : C _ _ _ _ _ _ _ (Own w (fps [Res.row b 64 [.map (some bm), .map (some lm), .int .i64 now0, .int .u64 (cnt0 : Nat)], Res.mp Value.string ekI bm kb, Res.mp ekU leaV lm kl]) [Res.row b 64 [.map (some bm), .map (some lm), .int .i64 now0, .int .u64 (cnt0 : Nat)], Res.mp Value.string ekI bm kb, Res.mp ekU leaV lm kl, Res.mp Value.string ekI bm2_ kn, Res.row b15 37 (LeaD.cells (nth ls j)), Res.row b1_ 64 [.map (some bm2_), .map (some lm3_), .int .i64 now, .int .u64 (last : Nat)], Res.mp ekU leaV lm3_ (putA ((nth ls j).id) (nth ls j) kn2), Res.vec 2 1 (.slice (some ⟨b99, 0, none⟩) 2 2) [n4_, (nth ls j).amount].length ([n4_, (nth ls j).amount].flatMap I1)])) _ hw
              refine c_last ?_
              refine l_add rfl rfl (wi64 (by omega)) rfl ?_
              refine l_mv rfl ?_
              exact l_nil (fun w' hw => ⟨j + 1, putA (nth ls j).id (nth ls j) kn2, ⟨rfl, rfl, rfl, rfl, rfl, rfl, rfl, rfl, trivial⟩, ⟨by omega, lea_step hLI (by omega) (Decidable.not_not.1 g18_9) (by have := tot_ok hf17_7 g18_2; rw [hf17_3, hkn2, (lea_lent hLI _).1] at this; exact this) (fun _ => by omega), by rw [hkn2]; exact lea_put hLI (by omega) (fun _ => by omega)⟩, hw.sel [0, 1, 2, 5, 3, 6] rfl (by decide), (by omega)⟩)
      ·
        refine c_exitC rfl ?_
        refine c_reg ?_
        refine l_mv rfl ?_
        refine l_mv rfl ?_
        refine l_nck rfl rfl ?_
        refine l_ldr (cs := [.map (some bm2_), .map (some lm3_), .int .i64 now, .int .u64 (last : Nat)]) 3 rfl rfl (by kernel_rfl) rfl ?_
        refine l_nck rfl rfl ?_
        refine l_stN (cs := [.map (some bm), .map (some lm), .int .i64 now0, .int .u64 (cnt0 : Nat)]) (vs := [.map (some bm2_), .map (some lm3_), .int .i64 now, .int .u64 (last : Nat)]) 0 rfl rfl rfl (by kernel_rfl) (allc_cons rfl (allc_cons rfl (allc_cons rfl (allc_cons rfl allc_nil)))) (Nat.le_of_ble_eq_true rfl) ?_
        refine l_end ?_
        refine c_reg ?_
        refine l_as rfl ?_
        refine l_end ?_
        exact c_ret (ret1 (v := .int .i64 0) rfl rfl (fun w' hw => ⟨bm2_, lm3_, now, last, kn, kn2, 0, rfl, .inl ⟨rfl, ⟨⟨by omega, by omega⟩, by omega, by omega, (by have := hBI; rwa [List.take_of_length_le (by omega)] at this), (by have := hLI; rwa [List.take_of_length_le (by omega)] at this)⟩, rfl, rfl, (by rw [hkn, List.take_of_length_le (by omega)]), (by rw [hkn2, List.take_of_length_le (by omega)])⟩, hw.sel [0, 4, 5] rfl (by decide)⟩))
theorem loadQ_yes {now now' now0 : Int} {last cnt' cnt0 : Nat} {bs : List BudD} {ls : List LeaD} {kb kb' : List (ByteArray × Int)} {kl kl' : List (Nat × LeaD)} {e : Int}
    (h : (e = 0 ∧ LoadOk now last bs ls ∧ now' = now ∧ cnt' = last ∧ kb' = KB bs ∧ kl' = KL ls) ∨ (e = 2 ∧ ¬ LoadOk now last bs ls ∧ now' = now0 ∧ cnt' = cnt0 ∧ kb' = kb ∧ kl' = kl)) (hl : LoadOk now last bs ls) : e = 0 ∧ now' = now ∧ cnt' = last ∧ kb' = KB bs ∧ kl' = KL ls := by
  rcases h with h | h
  · exact ⟨h.1, h.2.2⟩
  · exact absurd hl h.2.1
theorem loadQ_no {now now' now0 : Int} {last cnt' cnt0 : Nat} {bs : List BudD} {ls : List LeaD} {kb kb' : List (ByteArray × Int)} {kl kl' : List (Nat × LeaD)} {e : Int}
    (h : (e = 0 ∧ LoadOk now last bs ls ∧ now' = now ∧ cnt' = last ∧ kb' = KB bs ∧ kl' = KL ls) ∨ (e = 2 ∧ ¬ LoadOk now last bs ls ∧ now' = now0 ∧ cnt' = cnt0 ∧ kb' = kb ∧ kl' = kl)) (hl : ¬ LoadOk now last bs ls) : e = 2 ∧ now' = now0 ∧ cnt' = cnt0 ∧ kb' = kb ∧ kl' = kl := by
  rcases h with h | h
  · exact absurd h.2.1 hl
  · exact ⟨h.1, h.2.2⟩
end Go.Proofs.Ytgkeoenbcjfeaaa
