/-
  THE LAWS DedupActs AND DedupLoads.
-/
import Derived.Test.YtjnnobekbgpaaaaDupC
set_option linter.unusedVariables false
set_option maxRecDepth 10000
namespace Go.Proofs.Ytjnnobekbgpaaaa
open Go Go.Sc Go.Proofs

instance (l : List RepD) : Decidable (COk l) := decidable_of_iff ((l.map (·.session)).Pairwise (· < ·) ∧ (∀ r ∈ l, r.ok ∧ 1 ≤ r.session ∧ 1 ≤ r.seq) ∧ l.length ≤ 32) ⟨fun h => ⟨h.1, h.2.1, h.2.2⟩, fun h => ⟨h.up, h.each, h.len⟩⟩
theorem load_ne {e : Int} {l : List RepD} {kl kl' : List (Nat × RepD)} (h : (e = 0 ∧ COk l ∧ kl' = KR l) ∨ (e = 2 ∧ ¬ COk l ∧ kl' = kl)) (ho : COk l) (he : e ≠ 0) : False := by
  rcases h with h | h
  · exact he h.1
  · exact h.2.1 ho
theorem load_yes {e : Int} {l : List RepD} {kl kl' : List (Nat × RepD)} (h : (e = 0 ∧ COk l ∧ kl' = KR l) ∨ (e = 2 ∧ ¬ COk l ∧ kl' = kl)) (ho : COk l) : e = 0 ∧ kl' = KR l := by
  rcases h with h | h
  · exact ⟨h.1, h.2.2⟩
  · exact absurd ho h.2.1
theorem load_no {e : Int} {l : List RepD} {kl kl' : List (Nat × RepD)} (h : (e = 0 ∧ COk l ∧ kl' = KR l) ∨ (e = 2 ∧ ¬ COk l ∧ kl' = kl)) (ho : ¬ COk l) : e = 2 ∧ kl' = kl := by
  rcases h with h | h
  · exact absurd h.2.1 ho
  · exact ⟨h.1, h.2.2⟩
theorem load_rel {e : Int} {l : List RepD} {kl kl' : List (Nat × RepD)} (h : (e = 0 ∧ COk l ∧ kl' = KR l) ∨ (e = 2 ∧ ¬ COk l ∧ kl' = kl)) (he : ¬ e ≠ 0) : CRel kl' l := by
  rcases h with h | h
  · rw [h.2.2]; exact .refl _
  · exact absurd h.1 (by omega)
theorem dedupActs_s (v : Value) (acts : List DActD) (w : World) (hl : acts.length ≤ 100000000) (hwf : ∀ a ∈ acts, a.r.wf) (hv : Rd w [] (Res.sl v acts.length (acts.flatMap DActD.cells))) : Rets Try.prog 5 #[v] w fun u_ w' => u_ = .bool true ∧ Own w [] [] w' := by
  refine fn_enter (args := [v]) Try.func5 rfl Try.ntmps5 rfl (Own.start w) ?_
  refine c_reg ?_
  refine l_as rfl ?_
  refine l_end ?_
  refine c_reg ?_
  refine l_call (by kernel_rfl) rfl rfl (fun w' hw => ?_)
  refine (dnew_s w').mono ?_
  rintro _ w1 ⟨b1_, m2_, rfl, hO⟩
  refine (?_ : CL _ _ _ _ _ _ (Own w [] [Res.row b1_ 56 [.map (some m2_)], Res.mp ekR repA m2_ ([] : List (Nat × RepD))])) w1 (hw.frame0 hO)
  refine l_bld (cs := [.slice none 0 0]) (z := [.slice none 0 0]) (pl := [(0, 1)]) (by kernel_rfl) (by kernel_rfl) rfl ?_
  refine l_box rfl rfl (fun b9 => ?_)
  refine l_as rfl ?_
  refine l_as rfl ?_
  refine l_end ?_
  refine c_seq ?_
  refine c_reg ?_
  refine l_call (by kernel_rfl) rfl rfl (fun w' hw => ?_)
  refine (danswers_s w').mono ?_
  rintro _ w1 ⟨rfl, hO⟩
  refine (?_ : CL _ _ _ _ _ _ (Own w [] [Res.row b1_ 56 [.map (some m2_)], Res.mp ekR repA m2_ ([] : List (Nat × RepD)), Res.row b9 42 [.slice none 0 0]])) w1 (hw.frame0 hO)
  refine l_not (b := true) rfl rfl ?_
  refine l_mv rfl ?_
  refine l_on rfl rfl ?_
  refine l_mv rfl ?_
  refine l_on rfl rfl ?_
  refine l_nilp (by kernel_rfl) rfl rfl rfl ?_
  refine l_pickF rfl rfl ?_
  refine l_end ?_
  refine c_no rfl ?_
  refine c_skipC ?_
  refine c_seq ?_
  refine c_reg ?_
  refine l_as rfl ?_
  refine l_end ?_
  refine c_block ?_
  refine c_loop6 (fun (i b m : Nat) (kl : List (Nat × RepD)) (lv : Value) (l : List RepD) => [(0, v), (3, .pointer (some ⟨b, 0, none⟩)), (4, .pointer (some ⟨b9, 0, none⟩)), (5, .int .i64 (i : Nat))]) (fun (i b m : Nat) (kl : List (Nat × RepD)) (lv : Value) (l : List RepD) => i ≤ acts.length ∧ COk l ∧ CRel kl l ∧ ∀ r ∈ l, r.wf) (fun (i b m : Nat) (kl : List (Nat × RepD)) (lv : Value) (l : List RepD) => [Res.row b 56 [.map (some m)], Res.mp ekR repA m kl, Res.row b9 42 [lv], Res.vec 26 6 lv l.length (l.flatMap RepD.cells)]) (fun (i b m : Nat) (kl : List (Nat × RepD)) (lv : Value) (l : List RepD) => acts.length - i) (fun w' hw => ⟨0, b1_, m2_, [], .slice none 0 0, [], ⟨rfl, rfl, rfl, rfl, trivial⟩, ⟨Nat.zero_le _, COk.start, CRel.start, by simp⟩, (own_nil hw 26 6)⟩) (fun i b m kl lv l g hΦ => ?_)
  have hi := hΦ.1
  have ho := hΦ.2.1
  have hr := hΦ.2.2.1
  have hwl := hΦ.2.2.2
  refine c_seq ?_
  refine c_reg ?_
  refine l_mv rfl ?_
  refine l_mv rfl ?_
  refine l_lenS (len := acts.length) (cs := (acts.flatMap DActD.cells)) (by kernel_rfl) rfl (fun w' hw' => Own.rd hv hw') rfl ?_
  refine l_lss rfl rfl rfl ?_
  refine l_mv rfl ?_
  refine l_band (q := ((i : Nat) : Int) < ((acts.length : Nat) : Int)) 2 4 [22, 21] (((i : Nat) : Int) < 300) rfl rfl rfl rfl rfl rfl trivial rfl (fun h5_4 => ?_) (fun g5_7 => ?_)
  ·
    refine l_on rfl (gT h5_4) ?_
    refine l_mv rfl ?_
    refine l_on rfl (gT h5_4) ?_
    refine l_lss rfl rfl rfl ?_
    exact l_nil (fun w' hw => ⟨(by repeat (first | exact Out.refl _ _ | refine Out.upd rfl ?_ | refine Out.msk rfl ?_)), rfl, hw⟩)
  refine l_end ?_
  refine c_dec rfl (fun c2 => ?_) (fun c2 => ?_)
  ·
    refine c_skipC ?_
    refine c_seq ?_
    refine c_block ?_
    refine c_cut2 (fun (b2 m2 : Nat) => [(0, v), (3, .pointer (some ⟨b2, 0, none⟩)), (4, .pointer (some ⟨b9, 0, none⟩)), (5, .int .i64 (i : Nat))]) (fun (b2 m2 : Nat) => True) (fun (b2 m2 : Nat) => [Res.row b2 56 [.map (some m2)], Res.mp ekR repA m2 kl, Res.row b9 42 [lv], Res.vec 26 6 lv l.length (l.flatMap RepD.cells)]) ?_ (fun b2 m2 g hΦ => ?_)
    ·
      refine c_reg ?_
      refine l_mv rfl ?_
      refine l_mv rfl ?_
      refine l_idxS (j := i) (sz := 7) (len := acts.length) (cs := (acts.flatMap DActD.cells)) rfl rfl (by kernel_rfl) (fun w' hw' => Own.rd hv hw') rfl (by omega) rfl ?_
      refine l_fld (o := 0) rfl (by kernel_rfl) rfl ?_
      refine l_ldS (v := v) (off := offV v + i * 7 + 0) (i * 7 + 0) (cs := (acts.flatMap DActD.cells)) rfl (by omega) (fun w' hw' => Own.rd hv hw') (flat_at (sz := 7) (fun _ => rfl) (nth_some (by omega)) (i := 0) rfl) (by kernel_rfl) rfl ?_
      refine l_eq rfl rfl rfl ?_
      refine l_end ?_
      refine c_dec rfl (fun c3 => ?_) (fun c3 => ?_)
      ·
        refine c_last ?_
        refine l_mv rfl ?_
        refine l_call (by kernel_rfl) rfl rfl (fun w' hw => ?_)
        refine (dcopy_s b m kl w' (hw.give [0, 1] rfl (by decide))).mono ?_
        rintro _ w1 ⟨b'3_, m'4_, rfl, hO⟩
        refine (?_ : CL _ _ _ _ _ _ (Own w [] [Res.row b9 42 [lv], Res.vec 26 6 lv l.length (l.flatMap RepD.cells), Res.row b 56 [.map (some m)], Res.mp ekR repA m kl, Res.row b'3_ 56 [.map (some m'4_)], Res.mp ekR repA m'4_ kl])) w1 (hw.frameL [0, 1] rfl hO)
        refine l_as rfl ?_
        exact l_nil (fun w' hw => ⟨b'3_, m'4_, ⟨rfl, rfl, rfl, rfl, trivial⟩, trivial, hw.sel [4, 5, 0, 1] rfl (by decide)⟩)
      ·
        exact c_skip (fun w' hw => ⟨b, m, ⟨rfl, rfl, rfl, rfl, trivial⟩, trivial, hw⟩)
    refine c_cut3 (fun (b3 m3 : Nat) (kl3 : List (Nat × RepD)) => [(0, v), (3, .pointer (some ⟨b3, 0, none⟩)), (4, .pointer (some ⟨b9, 0, none⟩)), (5, .int .i64 (i : Nat))]) (fun (b3 m3 : Nat) (kl3 : List (Nat × RepD)) => CRel kl3 l) (fun (b3 m3 : Nat) (kl3 : List (Nat × RepD)) => [Res.row b3 56 [.map (some m3)], Res.mp ekR repA m3 kl3, Res.row b9 42 [lv], Res.vec 26 6 lv l.length (l.flatMap RepD.cells)]) ?_ (fun b3 m3 kl3 g hΦ => ?_)
    ·
      refine c_reg ?_
      refine l_mv rfl ?_
      refine l_mv rfl ?_
      refine l_idxS (j := i) (sz := 7) (len := acts.length) (cs := (acts.flatMap DActD.cells)) rfl rfl (by kernel_rfl) (fun w' hw' => Own.rd hv hw') rfl (by omega) rfl ?_
      refine l_fld (o := 0) rfl (by kernel_rfl) rfl ?_
      refine l_ldS (v := v) (off := offV v + i * 7 + 0) (i * 7 + 0) (cs := (acts.flatMap DActD.cells)) rfl (by omega) (fun w' hw' => Own.rd hv hw') (flat_at (sz := 7) (fun _ => rfl) (nth_some (by omega)) (i := 0) rfl) (by kernel_rfl) rfl ?_
      refine l_eq rfl rfl rfl ?_
      refine l_end ?_
      refine c_dec rfl (fun c4 => ?_) (fun c4 => ?_)
      ·
        refine c_reg ?_
        refine l_call (by kernel_rfl) rfl rfl (fun w' hw => ?_)
        refine (dnew_s w').mono ?_
        rintro _ w1 ⟨b5_, m6_, rfl, hO⟩
        refine (?_ : CL _ _ _ _ _ _ (Own w [] [Res.row b2 56 [.map (some m2)], Res.mp ekR repA m2 kl, Res.row b9 42 [lv], Res.vec 26 6 lv l.length (l.flatMap RepD.cells), Res.row b5_ 56 [.map (some m6_)], Res.mp ekR repA m6_ ([] : List (Nat × RepD))])) w1 (hw.frame0 hO)
        refine l_as rfl ?_
        refine l_end ?_
        refine c_seq ?_
        refine c_reg ?_
        refine l_mv rfl ?_
        refine l_nilp (by kernel_rfl) rfl rfl rfl ?_
        refine l_mv rfl ?_
        refine l_on rfl rfl ?_
        refine l_mv rfl ?_
        refine l_on rfl rfl ?_
        refine l_mv rfl ?_
        refine l_on rfl rfl ?_
        refine l_call (by kernel_rfl) rfl rfl (fun w' hw => ?_)
        refine (dall_s b2 m2 kl w' (by rw [hr.length_eq, KR_len]; have := ho.len; omega) (hw.give [0, 1] rfl (by decide))).mono ?_
        rintro v7_ w1 ⟨_, l8_, ks9_, rfl, hf11_5, hf11_5_1, hf11_5_2, hO⟩
        have hl8 : l8_ = l := hf11_5_2.trans (all_eq ho hr hf11_5 hf11_5_1)
        refine (?_ : CL _ _ _ _ _ _ (Own w [] [Res.row b9 42 [lv], Res.vec 26 6 lv l.length (l.flatMap RepD.cells), Res.row b5_ 56 [.map (some m6_)], Res.mp ekR repA m6_ ([] : List (Nat × RepD)), Res.row b2 56 [.map (some m2)], Res.mp ekR repA m2 kl, Res.vec 26 6 v7_ l8_.length (l8_.flatMap RepD.cells)])) w1 (hw.frameL [0, 1] rfl hO)
        refine l_on rfl rfl ?_
        refine l_call (by kernel_rfl) rfl rfl (fun w' hw => ?_)
        refine (dload_s b5_ m6_ [] v7_ l8_ w' (by rw [hl8]; have := ho.len; omega) (by rw [hl8]; exact hwl) (hw.rdVec 6 rfl [2, 3] rfl rfl) (hw.give [2, 3] rfl (by decide))).mono ?_
        rintro _ w1 ⟨m'10_, kl'11_, e12_, rfl, hf11_6, hO⟩
        have hld := hf11_6
        rw [hl8] at hld
        refine (?_ : CL _ _ _ _ _ _ (Own w [] [Res.row b9 42 [lv], Res.vec 26 6 lv l.length (l.flatMap RepD.cells), Res.row b2 56 [.map (some m2)], Res.mp ekR repA m2 kl, Res.vec 26 6 v7_ l8_.length (l8_.flatMap RepD.cells), Res.row b5_ 56 [.map (some m'10_)], Res.mp ekR repA m'10_ kl'11_])) w1 (hw.frameL [2, 3] rfl hO)
        refine l_on rfl rfl ?_
        refine l_ne rfl rfl rfl ?_
        refine l_pickF rfl rfl ?_
        refine l_end ?_
        refine c_dec rfl (fun c5 => ?_) (fun c5 => ?_)
        ·
          refine c_reg ?_
          refine l_as rfl ?_
          refine l_end ?_
          exact c_ret (ret1 (v := .bool false) rfl rfl (fun w' hw => ⟨(by exfalso; exact load_ne hld ho c5), hw.drop⟩))
        ·
          refine c_skipC ?_
          refine c_last ?_
          refine l_mv rfl ?_
          refine l_as rfl ?_
          exact l_nil (fun w' hw => ⟨b5_, m'10_, kl'11_, ⟨rfl, rfl, rfl, rfl, trivial⟩, load_rel hld c5, hw.sel [5, 6, 0, 1] rfl (by decide)⟩)
      ·
        exact c_skip (fun w' hw => ⟨b2, m2, kl, ⟨rfl, rfl, rfl, rfl, trivial⟩, hr, hw⟩)
    have hr3 := hΦ
    refine c_seq ?_
    refine c_heldo [] rfl (by decide) (by kernel_rfl) (fun w' hw hS => ?_)
    refine h_take 0 rfl (by kernel_rfl) (by kernel_rfl) (by kernel_rfl) (v_mv) rfl hS ?_
    refine h_take 1 rfl (by kernel_rfl) (by kernel_rfl) (by kernel_rfl) (v_nilp (by kernel_rfl) rfl rfl) rfl hS ?_
    refine h_take 2 rfl (by kernel_rfl) (by kernel_rfl) (by kernel_rfl) (v_mv) rfl hS ?_
    refine h_takeg 3 rfl rfl rfl (by kernel_rfl) (by kernel_rfl) (by kernel_rfl) (v_mv) rfl hS ?_
    refine h_takeg 4 rfl rfl rfl (by kernel_rfl) (by kernel_rfl) (by kernel_rfl) (v_mv) rfl hS ?_
    refine h_takeg 5 rfl rfl rfl (by kernel_rfl) (by kernel_rfl) (by kernel_rfl) (v_mv) rfl hS ?_
    refine h_takeg 6 rfl rfl rfl (by kernel_rfl) (by kernel_rfl) (by kernel_rfl) (v_mv) rfl hS ?_
    refine h_takeg 7 rfl rfl rfl (by kernel_rfl) (by kernel_rfl) (by kernel_rfl) (v_idxS (j := i) (sz := 7) (len := acts.length) (cs := (acts.flatMap DActD.cells)) rfl rfl (by kernel_rfl) (fun w' hw' => Own.rd hv hw') rfl (by omega)) rfl hS ?_
    refine h_takeg 8 rfl rfl rfl (by kernel_rfl) (by kernel_rfl) (by kernel_rfl) (v_ldSN (v := v) (off := offV v + i * 7) (i * 7 + 0) (cs := (acts.flatMap DActD.cells)) (DActD.cells (nth acts i)) rfl (by omega) (fun w' hw' => Own.rd hv hw') (flat_atN (sz := 7) (fun _ => rfl) (nth_some (by omega)) (o := 0) (us := (DActD.cells (nth acts i))) (fun k u h => by rw [Nat.zero_add]; exact h)) (by kernel_rfl)) rfl hS ?_
    refine h_one 9 (by kernel_rfl) rfl hw ?_
    refine l_on rfl rfl ?_
    refine l_call (by kernel_rfl) rfl rfl (fun w' hw => ?_)
    refine (dact_s b3 m3 b9 kl3 lv l (nth acts i) w' ho hr3 (hwf _ (nth_mem (by omega))) (hw.give [0, 1, 2, 3] rfl (by decide))).mono ?_
    rintro _ w1 ⟨kl'13_, lv'14_, l'15_, rfl, hf14_9, hf14_9_1, hf14_9_2, hO⟩
    have ho4 := hf14_9
    have hr4 := hf14_9_1
    have hsub := hf14_9_2
    refine (?_ : CL _ _ _ _ _ _ (Own w [] [Res.row b3 56 [.map (some m3)], Res.mp ekR repA m3 kl'13_, Res.row b9 42 [lv'14_], Res.vec 26 6 lv'14_ l'15_.length (l'15_.flatMap RepD.cells)])) w1 (hw.frameL [0, 1, 2, 3] rfl hO)
    refine l_nil (fun w' hw => ?_)
    have hS := hw.sel [] rfl (by decide)
    refine ⟨hS, ?_⟩
    refine h_takeg 10 rfl rfl rfl (by kernel_rfl) (by kernel_rfl) (by kernel_rfl) (v_not (b := true) rfl) rfl hS ?_
    refine h_take 11 rfl (by kernel_rfl) (by kernel_rfl) (by kernel_rfl) (v_pickF rfl) rfl hS ?_
    refine h_take 12 rfl (by kernel_rfl) (by kernel_rfl) (by kernel_rfl) (v_mv) rfl hS ?_
    refine h_takeg 13 rfl rfl rfl (by kernel_rfl) (by kernel_rfl) (by kernel_rfl) (v_mv) rfl hS ?_
    refine h_takeg 15 rfl rfl rfl (by kernel_rfl) (by kernel_rfl) (by kernel_rfl) (v_mv) rfl hS ?_
    refine h_takeg 16 rfl rfl rfl (by kernel_rfl) (by kernel_rfl) (by kernel_rfl) (v_nck rfl) rfl hS ?_
    refine h_takeg 17 rfl rfl rfl (by kernel_rfl) (by kernel_rfl) (by kernel_rfl) (v_fld (o := 0) rfl (by kernel_rfl)) rfl hS ?_
    refine h_pick2 (i := 14) (j := 18) (by kernel_rfl) ?_ ?_
    ·
      refine pk_of 14 rfl hw ?_
      refine l_on rfl rfl ?_
      refine l_call (by kernel_rfl) rfl rfl (fun w' hw => ?_)
      refine (dall_s b3 m3 kl'13_ w' (by rw [hr4.length_eq, KR_len]; have := ho4.len; omega) (hw.give [0, 1] rfl (by decide))).mono ?_
      rintro v16_ w1 ⟨_, l17_, ks18_, rfl, hf14_14, hf14_14_1, hf14_14_2, hO⟩
      have hl9 : l17_ = l'15_ := hf14_14_2.trans (all_eq ho4 hr4 hf14_14 hf14_14_1)
      refine (?_ : CL _ _ _ _ _ _ (Own w [] [Res.row b9 42 [lv'14_], Res.vec 26 6 lv'14_ l'15_.length (l'15_.flatMap RepD.cells), Res.row b3 56 [.map (some m3)], Res.mp ekR repA m3 kl'13_, Res.vec 26 6 v16_ l17_.length (l17_.flatMap RepD.cells)])) w1 (hw.frameL [0, 1] rfl hO)
      refine l_nil (fun w' hw => ?_)
      have hS := hw.sel [] rfl (by decide)
      refine ⟨hS, ?_⟩
      refine h_one 18 (by kernel_rfl) rfl hw ?_
      refine l_on rfl rfl ?_
      refine l_ldo 0 (v := lv'14_) rfl rfl rfl (by kernel_rfl) rfl ?_
      refine l_nil (fun w' hw => ?_)
      have hS := hw.sel [] rfl (by decide)
      refine ⟨hS, ?_⟩
      refine h_one 19 (by kernel_rfl) rfl hw ?_
      refine l_on rfl rfl ?_
      refine l_call (by kernel_rfl) rfl rfl (fun w' hw => ?_)
      refine (sameReplies_s v16_ l17_ lv'14_ l'15_ w' (by rw [hl9]; have := ho4.len; omega) (by have := ho4.len; omega) (hw.rdVec0 4 rfl) (hw.rdVec0 1 rfl)).mono ?_
      rintro _ w1 ⟨rfl, hO⟩
      refine (?_ : CL _ _ _ _ _ _ (Own w [] [Res.row b9 42 [lv'14_], Res.vec 26 6 lv'14_ l'15_.length (l'15_.flatMap RepD.cells), Res.row b3 56 [.map (some m3)], Res.mp ekR repA m3 kl'13_, Res.vec 26 6 v16_ l17_.length (l17_.flatMap RepD.cells)])) w1 (hw.frame0 hO)
      refine l_nil (fun w' hw => ?_)
      have hS := hw.sel [] rfl (by decide)
      refine ⟨hS, ?_⟩
      refine h_takeg 20 rfl rfl rfl (by kernel_rfl) (by kernel_rfl) (by kernel_rfl) (v_notp (q := l17_ = l'15_) rfl) rfl hS ?_
      refine h_take 21 rfl (by kernel_rfl) (by kernel_rfl) (by kernel_rfl) (v_pickF rfl) rfl hS ?_
      refine h_done (by kernel_rfl) ?_
      refine (?_ : C _ _ _ _ _ _ _ (Own w [] [Res.row b9 42 [lv'14_], Res.vec 26 6 lv'14_ l'15_.length (l'15_.flatMap RepD.cells), Res.row b3 56 [.map (some m3)], Res.mp ekR repA m3 kl'13_, Res.vec 26 6 v16_ l17_.length (l17_.flatMap RepD.cells)])) _ hw
      refine c_dec rfl (fun c6 => ?_) (fun c6 => ?_)
      ·
        refine c_reg ?_
        refine l_as rfl ?_
        refine l_end ?_
        exact c_ret (ret1 (v := .bool false) rfl rfl (fun w' hw => ⟨(by exfalso; exact c6 hl9), hw.drop⟩))
      ·
        refine c_skipC ?_
        refine c_last ?_
        refine l_mv rfl ?_
        refine l_add rfl rfl (wi64 (by omega)) rfl ?_
        refine l_as rfl ?_
        exact l_nil (fun w' hw => ⟨i + 1, b3, m3, kl'13_, lv'14_, l'15_, ⟨rfl, rfl, rfl, rfl, trivial⟩, ⟨by omega, ho4, hr4, fun x hx => (hsub x hx).elim (hwl x) (fun e => e ▸ hwf _ (nth_mem (by omega)))⟩, hw.sel [2, 3, 0, 1] rfl (by decide), (by omega)⟩)
    ·
      refine pk_of 18 rfl hw ?_
      refine l_on rfl rfl ?_
      refine l_ldo 2 (v := lv'14_) rfl rfl rfl (by kernel_rfl) rfl ?_
      refine l_nil (fun w' hw => ?_)
      have hS := hw.sel [] rfl (by decide)
      refine ⟨hS, ?_⟩
      refine h_one 14 (by kernel_rfl) rfl hw ?_
      refine l_on rfl rfl ?_
      refine l_call (by kernel_rfl) rfl rfl (fun w' hw => ?_)
      refine (dall_s b3 m3 kl'13_ w' (by rw [hr4.length_eq, KR_len]; have := ho4.len; omega) (hw.give [0, 1] rfl (by decide))).mono ?_
      rintro v19_ w1 ⟨_, l20_, ks21_, rfl, hf14_14, hf14_14_1, hf14_14_2, hO⟩
      have hl9 : l20_ = l'15_ := hf14_14_2.trans (all_eq ho4 hr4 hf14_14 hf14_14_1)
      refine (?_ : CL _ _ _ _ _ _ (Own w [] [Res.row b9 42 [lv'14_], Res.vec 26 6 lv'14_ l'15_.length (l'15_.flatMap RepD.cells), Res.row b3 56 [.map (some m3)], Res.mp ekR repA m3 kl'13_, Res.vec 26 6 v19_ l20_.length (l20_.flatMap RepD.cells)])) w1 (hw.frameL [0, 1] rfl hO)
      refine l_nil (fun w' hw => ?_)
      have hS := hw.sel [] rfl (by decide)
      refine ⟨hS, ?_⟩
      refine h_one 19 (by kernel_rfl) rfl hw ?_
      refine l_on rfl rfl ?_
      refine l_call (by kernel_rfl) rfl rfl (fun w' hw => ?_)
      refine (sameReplies_s v19_ l20_ lv'14_ l'15_ w' (by rw [hl9]; have := ho4.len; omega) (by have := ho4.len; omega) (hw.rdVec0 4 rfl) (hw.rdVec0 1 rfl)).mono ?_
      rintro _ w1 ⟨rfl, hO⟩
      refine (?_ : CL _ _ _ _ _ _ (Own w [] [Res.row b9 42 [lv'14_], Res.vec 26 6 lv'14_ l'15_.length (l'15_.flatMap RepD.cells), Res.row b3 56 [.map (some m3)], Res.mp ekR repA m3 kl'13_, Res.vec 26 6 v19_ l20_.length (l20_.flatMap RepD.cells)])) w1 (hw.frame0 hO)
      refine l_nil (fun w' hw => ?_)
      have hS := hw.sel [] rfl (by decide)
      refine ⟨hS, ?_⟩
      refine h_takeg 20 rfl rfl rfl (by kernel_rfl) (by kernel_rfl) (by kernel_rfl) (v_notp (q := l20_ = l'15_) rfl) rfl hS ?_
      refine h_take 21 rfl (by kernel_rfl) (by kernel_rfl) (by kernel_rfl) (v_pickF rfl) rfl hS ?_
      refine h_done (by kernel_rfl) ?_
      refine (?_ : C _ _ _ _ _ _ _ (Own w [] [Res.row b9 42 [lv'14_], Res.vec 26 6 lv'14_ l'15_.length (l'15_.flatMap RepD.cells), Res.row b3 56 [.map (some m3)], Res.mp ekR repA m3 kl'13_, Res.vec 26 6 v19_ l20_.length (l20_.flatMap RepD.cells)])) _ hw
      refine c_dec rfl (fun c7 => ?_) (fun c7 => ?_)
      ·
        refine c_reg ?_
        refine l_as rfl ?_
        refine l_end ?_
        exact c_ret (ret1 (v := .bool false) rfl rfl (fun w' hw => ⟨(by exfalso; exact c7 hl9), hw.drop⟩))
      ·
        refine c_skipC ?_
        refine c_last ?_
        refine l_mv rfl ?_
        refine l_add rfl rfl (wi64 (by omega)) rfl ?_
        refine l_as rfl ?_
        exact l_nil (fun w' hw => ⟨i + 1, b3, m3, kl'13_, lv'14_, l'15_, ⟨rfl, rfl, rfl, rfl, trivial⟩, ⟨by omega, ho4, hr4, fun x hx => (hsub x hx).elim (hwl x) (fun e => e ▸ hwf _ (nth_mem (by omega)))⟩, hw.sel [2, 3, 0, 1] rfl (by decide), (by omega)⟩)
  ·
    refine c_exitC rfl ?_
    refine c_reg ?_
    refine l_as rfl ?_
    refine l_end ?_
    exact c_ret (ret1 (v := .bool true) rfl rfl (fun w' hw => ⟨rfl, hw.drop⟩))
theorem calls_bad {l : List RepD} {i : Nat} (hi : i < l.length) (h : ¬ (nth l i).ok ∨ (nth l i).session = 0 ∨ (nth l i).seq = 0 ∨ (0 < i ∧ (nth l i).session ≤ (nth l (i - 1)).session)) : ¬ COk l := fun q => by
  refine load_bad hi ?_ ⟨q.up, q.each⟩
  rcases h with h | h | h | h
  · exact .inl (.inl (.inl fun k => h (errOf_zero.1 k)))
  · exact .inl (.inl (.inr (by omega)))
  · exact .inl (.inr (by omega))
  · exact .inr ⟨by omega, by omega⟩
theorem calls_ok {l : List RepD} {i : Nat} (h1 : (nth l i).ok) (h2 : (nth l i).session ≠ 0) (h3 : (nth l i).seq ≠ 0) (h4 : 0 < i → ¬ (nth l i).session ≤ (nth l (i - 1)).session) : ¬ Bad l i := by
  rintro (((h | h) | h) | h)
  · exact h (errOf_zero.2 h1)
  · omega
  · omega
  · exact h4 (by omega) (by omega)
theorem callsOK_s (v : Value) (l : List RepD) (w : World) (hl : l.length ≤ 2000000) (hv : Rd w [] (Res.sl v l.length (l.flatMap RepD.cells))) : Rets Try.prog 18 #[v] w fun u_ w' => u_ = .bool (decide (COk l)) ∧ Own w [] [] w' := by
  refine fn_enter (args := [v]) Try.func18 rfl Try.ntmps18 rfl (Own.start w) ?_
  refine c_reg ?_
  refine l_as rfl ?_
  refine l_end ?_
  refine c_seq ?_
  refine c_reg ?_
  refine l_as rfl ?_
  refine l_end ?_
  refine c_block ?_
  refine c_loop1 (fun (i : Nat) => [(0, v), (3, .int .i64 (i : Nat))]) (fun (i : Nat) => i ≤ l.length ∧ LOk (l.take i)) (fun (i : Nat) => []) (fun (i : Nat) => l.length - i) (fun w' hw => ⟨0, ⟨rfl, rfl, trivial⟩, ⟨Nat.zero_le _, by simp [LOk]⟩, hw⟩) (fun i g hΦ => ?_)
  have hi := hΦ.1
  have hI := hΦ.2
  refine c_seq ?_
  refine c_reg ?_
  refine l_mv rfl ?_
  refine l_mv rfl ?_
  refine l_lenS (len := l.length) (cs := (l.flatMap RepD.cells)) (by kernel_rfl) rfl (fun w' hw' => Own.rd hv hw') rfl ?_
  refine l_lss rfl rfl rfl ?_
  refine l_end ?_
  refine c_dec rfl (fun c1 => ?_) (fun c1 => ?_)
  ·
    refine c_skipC ?_
    refine c_seq ?_
    refine c_block ?_
    refine c_seq ?_
    refine c_heldo [] rfl (by decide) (by kernel_rfl) (fun w' hw hS => ?_)
    refine h_take 0 rfl (by kernel_rfl) (by kernel_rfl) (by kernel_rfl) (v_mv) rfl hS ?_
    refine h_take 1 rfl (by kernel_rfl) (by kernel_rfl) (by kernel_rfl) (v_mv) rfl hS ?_
    refine h_take 2 rfl (by kernel_rfl) (by kernel_rfl) (by kernel_rfl) (v_idxS (j := i) (sz := 6) (len := l.length) (cs := (l.flatMap RepD.cells)) rfl rfl (by kernel_rfl) (fun w' hw' => Own.rd hv hw') rfl (by omega)) rfl hS ?_
    refine h_take 3 rfl (by kernel_rfl) (by kernel_rfl) (by kernel_rfl) (v_ldSN (v := v) (off := offV v + i * 6) (i * 6 + 0) (cs := (l.flatMap RepD.cells)) (RepD.cells (nth l i)) rfl (by omega) (fun w' hw' => Own.rd hv hw') (flat_atN (sz := 6) (fun _ => rfl) (nth_some (by omega)) (o := 0) (us := (RepD.cells (nth l i))) (fun k u h => by rw [Nat.zero_add]; exact h)) (by kernel_rfl)) rfl hS ?_
    refine h_one 4 (by kernel_rfl) rfl hw ?_
    refine l_call (by kernel_rfl) rfl rfl (fun w' hw => ?_)
    refine (replyOK_s (nth l i) w').mono ?_
    rintro _ w1 ⟨rfl, hO⟩
    refine (?_ : CL _ _ _ _ _ _ (Own w [] [])) w1 (hw.frame0 hO)
    refine l_nil (fun w' hw => ?_)
    have hS := hw.sel [] rfl (by decide)
    refine ⟨hS, ?_⟩
    refine h_take 5 rfl (by kernel_rfl) (by kernel_rfl) (by kernel_rfl) (v_notp (q := (nth l i).ok) rfl) rfl hS ?_
    refine h_take 6 rfl (by kernel_rfl) (by kernel_rfl) (by kernel_rfl) (v_mv) rfl hS ?_
    by_cases g4_6 : ¬ ((nth l i).ok)
    ·
      refine h_offg 7 rfl rfl (gT g4_6) rfl (by kernel_rfl) (by kernel_rfl) (by kernel_rfl) rfl hS ?_
      refine h_offg 8 rfl rfl (gT g4_6) rfl (by kernel_rfl) (by kernel_rfl) (by kernel_rfl) rfl hS ?_
      refine h_offg 9 rfl rfl (gT g4_6) rfl (by kernel_rfl) (by kernel_rfl) (by kernel_rfl) rfl hS ?_
      refine h_offg 10 rfl rfl (gT g4_6) rfl (by kernel_rfl) (by kernel_rfl) (by kernel_rfl) rfl hS ?_
      refine h_offg 11 rfl rfl (gT g4_6) rfl (by kernel_rfl) (by kernel_rfl) (by kernel_rfl) rfl hS ?_
      refine h_offg 12 rfl rfl (gT g4_6) rfl (by kernel_rfl) (by kernel_rfl) (by kernel_rfl) rfl hS ?_
      refine h_take 13 rfl (by kernel_rfl) (by kernel_rfl) (by kernel_rfl) (v_pickT (gT g4_6)) rfl hS ?_
      refine h_take 14 rfl (by kernel_rfl) (by kernel_rfl) (by kernel_rfl) (v_mv) rfl hS ?_
      refine h_offg 15 rfl rfl rfl rfl (by kernel_rfl) (by kernel_rfl) (by kernel_rfl) rfl hS ?_
      refine h_offg 16 rfl rfl rfl rfl (by kernel_rfl) (by kernel_rfl) (by kernel_rfl) rfl hS ?_
      refine h_offg 17 rfl rfl rfl rfl (by kernel_rfl) (by kernel_rfl) (by kernel_rfl) rfl hS ?_
      refine h_offg 18 rfl rfl rfl rfl (by kernel_rfl) (by kernel_rfl) (by kernel_rfl) rfl hS ?_
      refine h_offg 19 rfl rfl rfl rfl (by kernel_rfl) (by kernel_rfl) (by kernel_rfl) rfl hS ?_
      refine h_offg 20 rfl rfl rfl rfl (by kernel_rfl) (by kernel_rfl) (by kernel_rfl) rfl hS ?_
      refine h_take 21 rfl (by kernel_rfl) (by kernel_rfl) (by kernel_rfl) (v_pickT rfl) rfl hS ?_
      refine h_take 22 rfl (by kernel_rfl) (by kernel_rfl) (by kernel_rfl) (v_mv) rfl hS ?_
      refine h_offg 23 rfl rfl rfl rfl (by kernel_rfl) (by kernel_rfl) (by kernel_rfl) rfl hS ?_
      refine h_offg 24 rfl rfl rfl rfl (by kernel_rfl) (by kernel_rfl) (by kernel_rfl) rfl hS ?_
      refine h_offg 25 rfl rfl rfl rfl (by kernel_rfl) (by kernel_rfl) (by kernel_rfl) rfl hS ?_
      refine h_offu 26 rfl rfl rfl (by kernel_rfl) (by kernel_rfl) (by kernel_rfl) rfl hS ?_
      refine h_offu 27 rfl rfl rfl (by kernel_rfl) (by kernel_rfl) (by kernel_rfl) rfl hS ?_
      refine h_offu 28 rfl rfl rfl (by kernel_rfl) (by kernel_rfl) (by kernel_rfl) rfl hS ?_
      refine h_offu 29 rfl rfl rfl (by kernel_rfl) (by kernel_rfl) (by kernel_rfl) rfl hS ?_
      refine h_offu 30 rfl rfl rfl (by kernel_rfl) (by kernel_rfl) (by kernel_rfl) rfl hS ?_
      refine h_offu 31 rfl rfl rfl (by kernel_rfl) (by kernel_rfl) (by kernel_rfl) rfl hS ?_
      refine h_offu 32 rfl rfl rfl (by kernel_rfl) (by kernel_rfl) (by kernel_rfl) rfl hS ?_
      refine h_offu 33 rfl rfl rfl (by kernel_rfl) (by kernel_rfl) (by kernel_rfl) rfl hS ?_
      refine h_offu 34 rfl rfl rfl (by kernel_rfl) (by kernel_rfl) (by kernel_rfl) rfl hS ?_
      refine h_offu 35 rfl rfl rfl (by kernel_rfl) (by kernel_rfl) (by kernel_rfl) rfl hS ?_
      refine h_offu 36 rfl rfl rfl (by kernel_rfl) (by kernel_rfl) (by kernel_rfl) rfl hS ?_
      refine h_offu 37 rfl rfl rfl (by kernel_rfl) (by kernel_rfl) (by kernel_rfl) rfl hS ?_
      refine h_offg 38 rfl rfl rfl rfl (by kernel_rfl) (by kernel_rfl) (by kernel_rfl) rfl hS ?_
      refine h_take 39 rfl (by kernel_rfl) (by kernel_rfl) (by kernel_rfl) (v_pickT rfl) rfl hS ?_
      refine h_done (by kernel_rfl) ?_
      refine (?_ : C _ _ _ _ _ _ _ (Own w [] [])) _ hw
      refine c_yes rfl ?_
      refine c_reg ?_
      refine l_as rfl ?_
      refine l_end ?_
      exact c_ret (ret1 (v := .bool false) rfl rfl (fun w' hw => ⟨(by rw [decide_eq_false (calls_bad (i := i) (by omega) (.inl g4_6))]), hw.drop⟩))
    ·
      refine h_takeg 7 rfl rfl (gF g4_6) (by kernel_rfl) (by kernel_rfl) (by kernel_rfl) (v_mv) rfl hS ?_
      refine h_takeg 8 rfl rfl (gF g4_6) (by kernel_rfl) (by kernel_rfl) (by kernel_rfl) (v_mv) rfl hS ?_
      refine h_takeg 9 rfl rfl (gF g4_6) (by kernel_rfl) (by kernel_rfl) (by kernel_rfl) (v_idxS (j := i) (sz := 6) (len := l.length) (cs := (l.flatMap RepD.cells)) rfl rfl (by kernel_rfl) (fun w' hw' => Own.rd hv hw') rfl (by omega)) rfl hS ?_
      refine h_takeg 10 rfl rfl (gF g4_6) (by kernel_rfl) (by kernel_rfl) (by kernel_rfl) (v_fld (o := 0) rfl (by kernel_rfl)) rfl hS ?_
      refine h_takeg 11 rfl rfl (gF g4_6) (by kernel_rfl) (by kernel_rfl) (by kernel_rfl) (v_ldS (v := v) (off := offV v + i * 6 + 0) (i * 6 + 0) (cs := (l.flatMap RepD.cells)) rfl (by omega) (fun w' hw' => Own.rd hv hw') (flat_at (sz := 6) (fun _ => rfl) (nth_some (by omega)) (i := 0) rfl) (by kernel_rfl)) rfl hS ?_
      refine h_takeg 12 rfl rfl (gF g4_6) (by kernel_rfl) (by kernel_rfl) (by kernel_rfl) (v_eq rfl rfl) rfl hS ?_
      refine h_take 13 rfl (by kernel_rfl) (by kernel_rfl) (by kernel_rfl) (v_pickF (gF g4_6)) rfl hS ?_
      refine h_take 14 rfl (by kernel_rfl) (by kernel_rfl) (by kernel_rfl) (v_mv) rfl hS ?_
      by_cases g4_14 : (((nth l i).session : Nat) : Int) = ((0 : Nat) : Int)
      ·
        refine h_offg 15 rfl rfl (gT g4_14) rfl (by kernel_rfl) (by kernel_rfl) (by kernel_rfl) rfl hS ?_
        refine h_offg 16 rfl rfl (gT g4_14) rfl (by kernel_rfl) (by kernel_rfl) (by kernel_rfl) rfl hS ?_
        refine h_offg 17 rfl rfl (gT g4_14) rfl (by kernel_rfl) (by kernel_rfl) (by kernel_rfl) rfl hS ?_
        refine h_offg 18 rfl rfl (gT g4_14) rfl (by kernel_rfl) (by kernel_rfl) (by kernel_rfl) rfl hS ?_
        refine h_offg 19 rfl rfl (gT g4_14) rfl (by kernel_rfl) (by kernel_rfl) (by kernel_rfl) rfl hS ?_
        refine h_offg 20 rfl rfl (gT g4_14) rfl (by kernel_rfl) (by kernel_rfl) (by kernel_rfl) rfl hS ?_
        refine h_take 21 rfl (by kernel_rfl) (by kernel_rfl) (by kernel_rfl) (v_pickT (gT g4_14)) rfl hS ?_
        refine h_take 22 rfl (by kernel_rfl) (by kernel_rfl) (by kernel_rfl) (v_mv) rfl hS ?_
        refine h_offg 23 rfl rfl rfl rfl (by kernel_rfl) (by kernel_rfl) (by kernel_rfl) rfl hS ?_
        refine h_offg 24 rfl rfl rfl rfl (by kernel_rfl) (by kernel_rfl) (by kernel_rfl) rfl hS ?_
        refine h_offg 25 rfl rfl rfl rfl (by kernel_rfl) (by kernel_rfl) (by kernel_rfl) rfl hS ?_
        refine h_offu 26 rfl rfl rfl (by kernel_rfl) (by kernel_rfl) (by kernel_rfl) rfl hS ?_
        refine h_offu 27 rfl rfl rfl (by kernel_rfl) (by kernel_rfl) (by kernel_rfl) rfl hS ?_
        refine h_offu 28 rfl rfl rfl (by kernel_rfl) (by kernel_rfl) (by kernel_rfl) rfl hS ?_
        refine h_offu 29 rfl rfl rfl (by kernel_rfl) (by kernel_rfl) (by kernel_rfl) rfl hS ?_
        refine h_offu 30 rfl rfl rfl (by kernel_rfl) (by kernel_rfl) (by kernel_rfl) rfl hS ?_
        refine h_offu 31 rfl rfl rfl (by kernel_rfl) (by kernel_rfl) (by kernel_rfl) rfl hS ?_
        refine h_offu 32 rfl rfl rfl (by kernel_rfl) (by kernel_rfl) (by kernel_rfl) rfl hS ?_
        refine h_offu 33 rfl rfl rfl (by kernel_rfl) (by kernel_rfl) (by kernel_rfl) rfl hS ?_
        refine h_offu 34 rfl rfl rfl (by kernel_rfl) (by kernel_rfl) (by kernel_rfl) rfl hS ?_
        refine h_offu 35 rfl rfl rfl (by kernel_rfl) (by kernel_rfl) (by kernel_rfl) rfl hS ?_
        refine h_offu 36 rfl rfl rfl (by kernel_rfl) (by kernel_rfl) (by kernel_rfl) rfl hS ?_
        refine h_offu 37 rfl rfl rfl (by kernel_rfl) (by kernel_rfl) (by kernel_rfl) rfl hS ?_
        refine h_offg 38 rfl rfl rfl rfl (by kernel_rfl) (by kernel_rfl) (by kernel_rfl) rfl hS ?_
        refine h_take 39 rfl (by kernel_rfl) (by kernel_rfl) (by kernel_rfl) (v_pickT rfl) rfl hS ?_
        refine h_done (by kernel_rfl) ?_
        refine (?_ : C _ _ _ _ _ _ _ (Own w [] [])) _ hw
        refine c_yes rfl ?_
        refine c_reg ?_
        refine l_as rfl ?_
        refine l_end ?_
        exact c_ret (ret1 (v := .bool false) rfl rfl (fun w' hw => ⟨(by rw [decide_eq_false (calls_bad (i := i) (by omega) (.inr (.inl (by omega))))]), hw.drop⟩))
      ·
        refine h_takeg 15 rfl rfl (gF g4_14) (by kernel_rfl) (by kernel_rfl) (by kernel_rfl) (v_mv) rfl hS ?_
        refine h_takeg 16 rfl rfl (gF g4_14) (by kernel_rfl) (by kernel_rfl) (by kernel_rfl) (v_mv) rfl hS ?_
        refine h_takeg 17 rfl rfl (gF g4_14) (by kernel_rfl) (by kernel_rfl) (by kernel_rfl) (v_idxS (j := i) (sz := 6) (len := l.length) (cs := (l.flatMap RepD.cells)) rfl rfl (by kernel_rfl) (fun w' hw' => Own.rd hv hw') rfl (by omega)) rfl hS ?_
        refine h_takeg 18 rfl rfl (gF g4_14) (by kernel_rfl) (by kernel_rfl) (by kernel_rfl) (v_fld (o := 1) rfl (by kernel_rfl)) rfl hS ?_
        refine h_takeg 19 rfl rfl (gF g4_14) (by kernel_rfl) (by kernel_rfl) (by kernel_rfl) (v_ldS (v := v) (off := offV v + i * 6 + 1) (i * 6 + 1) (cs := (l.flatMap RepD.cells)) rfl (by omega) (fun w' hw' => Own.rd hv hw') (flat_at (sz := 6) (fun _ => rfl) (nth_some (by omega)) (i := 1) rfl) (by kernel_rfl)) rfl hS ?_
        refine h_takeg 20 rfl rfl (gF g4_14) (by kernel_rfl) (by kernel_rfl) (by kernel_rfl) (v_eq rfl rfl) rfl hS ?_
        refine h_take 21 rfl (by kernel_rfl) (by kernel_rfl) (by kernel_rfl) (v_pickF (gF g4_14)) rfl hS ?_
        refine h_take 22 rfl (by kernel_rfl) (by kernel_rfl) (by kernel_rfl) (v_mv) rfl hS ?_
        by_cases g4_22 : (((nth l i).seq : Nat) : Int) = ((0 : Nat) : Int)
        ·
          refine h_offg 23 rfl rfl (gT g4_22) rfl (by kernel_rfl) (by kernel_rfl) (by kernel_rfl) rfl hS ?_
          refine h_offg 24 rfl rfl (gT g4_22) rfl (by kernel_rfl) (by kernel_rfl) (by kernel_rfl) rfl hS ?_
          refine h_offg 25 rfl rfl (gT g4_22) rfl (by kernel_rfl) (by kernel_rfl) (by kernel_rfl) rfl hS ?_
          refine h_offu 26 rfl rfl rfl (by kernel_rfl) (by kernel_rfl) (by kernel_rfl) rfl hS ?_
          refine h_offu 27 rfl rfl rfl (by kernel_rfl) (by kernel_rfl) (by kernel_rfl) rfl hS ?_
          refine h_offu 28 rfl rfl rfl (by kernel_rfl) (by kernel_rfl) (by kernel_rfl) rfl hS ?_
          refine h_offu 29 rfl rfl rfl (by kernel_rfl) (by kernel_rfl) (by kernel_rfl) rfl hS ?_
          refine h_offu 30 rfl rfl rfl (by kernel_rfl) (by kernel_rfl) (by kernel_rfl) rfl hS ?_
          refine h_offu 31 rfl rfl rfl (by kernel_rfl) (by kernel_rfl) (by kernel_rfl) rfl hS ?_
          refine h_offu 32 rfl rfl rfl (by kernel_rfl) (by kernel_rfl) (by kernel_rfl) rfl hS ?_
          refine h_offu 33 rfl rfl rfl (by kernel_rfl) (by kernel_rfl) (by kernel_rfl) rfl hS ?_
          refine h_offu 34 rfl rfl rfl (by kernel_rfl) (by kernel_rfl) (by kernel_rfl) rfl hS ?_
          refine h_offu 35 rfl rfl rfl (by kernel_rfl) (by kernel_rfl) (by kernel_rfl) rfl hS ?_
          refine h_offu 36 rfl rfl rfl (by kernel_rfl) (by kernel_rfl) (by kernel_rfl) rfl hS ?_
          refine h_offu 37 rfl rfl rfl (by kernel_rfl) (by kernel_rfl) (by kernel_rfl) rfl hS ?_
          refine h_offg 38 rfl rfl (gT g4_22) rfl (by kernel_rfl) (by kernel_rfl) (by kernel_rfl) rfl hS ?_
          refine h_take 39 rfl (by kernel_rfl) (by kernel_rfl) (by kernel_rfl) (v_pickT (gT g4_22)) rfl hS ?_
          refine h_done (by kernel_rfl) ?_
          refine (?_ : C _ _ _ _ _ _ _ (Own w [] [])) _ hw
          refine c_yes rfl ?_
          refine c_reg ?_
          refine l_as rfl ?_
          refine l_end ?_
          exact c_ret (ret1 (v := .bool false) rfl rfl (fun w' hw => ⟨(by rw [decide_eq_false (calls_bad (i := i) (by omega) (.inr (.inr (.inl (by omega)))))]), hw.drop⟩))
        ·
          refine h_takeg 23 rfl rfl (gF g4_22) (by kernel_rfl) (by kernel_rfl) (by kernel_rfl) (v_mv) rfl hS ?_
          refine h_takeg 24 rfl rfl (gF g4_22) (by kernel_rfl) (by kernel_rfl) (by kernel_rfl) (v_gtr rfl rfl) rfl hS ?_
          refine h_takeg 25 rfl rfl (gF g4_22) (by kernel_rfl) (by kernel_rfl) (by kernel_rfl) (v_mv) rfl hS ?_
          by_cases g4_25 : 0 < ((i : Nat) : Int)
          ·
            refine h_takeg 26 rfl rfl (gT g4_25) (by kernel_rfl) (by kernel_rfl) (by kernel_rfl) (v_mv) rfl hS ?_
            refine h_takeg 27 rfl rfl (gT g4_25) (by kernel_rfl) (by kernel_rfl) (by kernel_rfl) (v_mv) rfl hS ?_
            refine h_takeg 28 rfl rfl (gT g4_25) (by kernel_rfl) (by kernel_rfl) (by kernel_rfl) (v_sub rfl rfl (wi64 (by omega))) rfl hS ?_
            refine h_takeg 29 rfl rfl (gT g4_25) (by kernel_rfl) (by kernel_rfl) (by kernel_rfl) (v_idxS (j := i - 1) (sz := 6) (len := l.length) (cs := (l.flatMap RepD.cells)) rfl rfl (by kernel_rfl) (fun w' hw' => Own.rd hv hw') (by omega) (by omega)) rfl hS ?_
            refine h_takeg 30 rfl rfl (gT g4_25) (by kernel_rfl) (by kernel_rfl) (by kernel_rfl) (v_fld (o := 0) rfl (by kernel_rfl)) rfl hS ?_
            refine h_takeg 31 rfl rfl (gT g4_25) (by kernel_rfl) (by kernel_rfl) (by kernel_rfl) (v_ldS (v := v) (off := offV v + (i - 1) * 6 + 0) ((i - 1) * 6 + 0) (cs := (l.flatMap RepD.cells)) rfl (by omega) (fun w' hw' => Own.rd hv hw') (flat_at (sz := 6) (fun _ => rfl) (nth_some (by omega)) (i := 0) rfl) (by kernel_rfl)) rfl hS ?_
            refine h_takeg 32 rfl rfl (gT g4_25) (by kernel_rfl) (by kernel_rfl) (by kernel_rfl) (v_mv) rfl hS ?_
            refine h_takeg 33 rfl rfl (gT g4_25) (by kernel_rfl) (by kernel_rfl) (by kernel_rfl) (v_mv) rfl hS ?_
            refine h_takeg 34 rfl rfl (gT g4_25) (by kernel_rfl) (by kernel_rfl) (by kernel_rfl) (v_idxS (j := i) (sz := 6) (len := l.length) (cs := (l.flatMap RepD.cells)) rfl rfl (by kernel_rfl) (fun w' hw' => Own.rd hv hw') rfl (by omega)) rfl hS ?_
            refine h_takeg 35 rfl rfl (gT g4_25) (by kernel_rfl) (by kernel_rfl) (by kernel_rfl) (v_fld (o := 0) rfl (by kernel_rfl)) rfl hS ?_
            refine h_takeg 36 rfl rfl (gT g4_25) (by kernel_rfl) (by kernel_rfl) (by kernel_rfl) (v_ldS (v := v) (off := offV v + i * 6 + 0) (i * 6 + 0) (cs := (l.flatMap RepD.cells)) rfl (by omega) (fun w' hw' => Own.rd hv hw') (flat_at (sz := 6) (fun _ => rfl) (nth_some (by omega)) (i := 0) rfl) (by kernel_rfl)) rfl hS ?_
            refine h_takeg 37 rfl rfl (gT g4_25) (by kernel_rfl) (by kernel_rfl) (by kernel_rfl) (v_geq rfl rfl) rfl hS ?_
            refine h_takeg 38 rfl rfl (gF g4_22) (by kernel_rfl) (by kernel_rfl) (by kernel_rfl) (v_pickT (gT g4_25)) rfl hS ?_
            refine h_take 39 rfl (by kernel_rfl) (by kernel_rfl) (by kernel_rfl) (v_pickF (gF g4_22)) rfl hS ?_
            refine h_done (by kernel_rfl) ?_
            refine (?_ : C _ _ _ _ _ _ _ (Own w [] [])) _ hw
            refine c_dec rfl (fun c5 => ?_) (fun c5 => ?_)
            ·
              refine c_reg ?_
              refine l_as rfl ?_
              refine l_end ?_
              exact c_ret (ret1 (v := .bool false) rfl rfl (fun w' hw => ⟨(by rw [decide_eq_false (calls_bad (i := i) (by omega) (.inr (.inr (.inr ⟨by omega, by omega⟩))))]), hw.drop⟩))
            ·
              refine c_skipC ?_
              refine c_last ?_
              refine l_mv rfl ?_
              refine l_add rfl rfl (wi64 (by omega)) rfl ?_
              refine l_as rfl ?_
              exact l_nil (fun w' hw => ⟨i + 1, ⟨rfl, rfl, trivial⟩, ⟨by omega, load_step hI (by omega) (calls_ok (Decidable.not_not.1 g4_6) (by omega) (by omega) (fun _ => by omega))⟩, hw, (by omega)⟩)
          ·
            refine h_offg 26 rfl rfl (gF g4_25) rfl (by kernel_rfl) (by kernel_rfl) (by kernel_rfl) rfl hS ?_
            refine h_offg 27 rfl rfl (gF g4_25) rfl (by kernel_rfl) (by kernel_rfl) (by kernel_rfl) rfl hS ?_
            refine h_offg 28 rfl rfl (gF g4_25) rfl (by kernel_rfl) (by kernel_rfl) (by kernel_rfl) rfl hS ?_
            refine h_offg 29 rfl rfl (gF g4_25) rfl (by kernel_rfl) (by kernel_rfl) (by kernel_rfl) rfl hS ?_
            refine h_offg 30 rfl rfl (gF g4_25) rfl (by kernel_rfl) (by kernel_rfl) (by kernel_rfl) rfl hS ?_
            refine h_offg 31 rfl rfl (gF g4_25) rfl (by kernel_rfl) (by kernel_rfl) (by kernel_rfl) rfl hS ?_
            refine h_offg 32 rfl rfl (gF g4_25) rfl (by kernel_rfl) (by kernel_rfl) (by kernel_rfl) rfl hS ?_
            refine h_offg 33 rfl rfl (gF g4_25) rfl (by kernel_rfl) (by kernel_rfl) (by kernel_rfl) rfl hS ?_
            refine h_offg 34 rfl rfl (gF g4_25) rfl (by kernel_rfl) (by kernel_rfl) (by kernel_rfl) rfl hS ?_
            refine h_offg 35 rfl rfl (gF g4_25) rfl (by kernel_rfl) (by kernel_rfl) (by kernel_rfl) rfl hS ?_
            refine h_offg 36 rfl rfl (gF g4_25) rfl (by kernel_rfl) (by kernel_rfl) (by kernel_rfl) rfl hS ?_
            refine h_offg 37 rfl rfl (gF g4_25) rfl (by kernel_rfl) (by kernel_rfl) (by kernel_rfl) rfl hS ?_
            refine h_takeg 38 rfl rfl (gF g4_22) (by kernel_rfl) (by kernel_rfl) (by kernel_rfl) (v_pickF (gF g4_25)) rfl hS ?_
            refine h_take 39 rfl (by kernel_rfl) (by kernel_rfl) (by kernel_rfl) (v_pickF (gF g4_22)) rfl hS ?_
            refine h_done (by kernel_rfl) ?_
            refine (?_ : C _ _ _ _ _ _ _ (Own w [] [])) _ hw
            refine c_no rfl ?_
            refine c_skipC ?_
            refine c_last ?_
            refine l_mv rfl ?_
            refine l_add rfl rfl (wi64 (by omega)) rfl ?_
            refine l_as rfl ?_
            exact l_nil (fun w' hw => ⟨i + 1, ⟨rfl, rfl, trivial⟩, ⟨by omega, load_step hI (by omega) (calls_ok (Decidable.not_not.1 g4_6) (by omega) (by omega) (fun q => absurd q (by omega)))⟩, hw, (by omega)⟩)
  ·
    refine c_exitC rfl ?_
    refine c_reg ?_
    refine l_mv rfl ?_
    refine l_lenS (len := l.length) (cs := (l.flatMap RepD.cells)) (by kernel_rfl) rfl (fun w' hw' => Own.rd hv hw') rfl ?_
    refine l_leq rfl rfl rfl ?_
    refine l_as rfl ?_
    refine l_end ?_
    exact c_ret (ret1 (v := .bool (decide (((l.length : Nat) : Int) ≤ 32))) rfl rfl (fun w' hw => ⟨(by congr 1; exact decide_eq_decide.2 ⟨fun h => by have q := hI; rw [List.take_of_length_le (by omega)] at q; exact ⟨q.1, q.2, by omega⟩, fun h => by have := h.len; omega⟩), hw.drop⟩))
theorem dedupLoads_s (v : Value) (acts : List DActD) (u : Value) (l : List RepD) (w : World) (hl : acts.length ≤ 100000000) (hwf : ∀ a ∈ acts, a.r.wf) (hl2 : l.length ≤ 2000000) (hwl : ∀ r ∈ l, r.wf) (hv : Rd w [] (Res.sl v acts.length (acts.flatMap DActD.cells))) (hu : Rd w [] (Res.sl u l.length (l.flatMap RepD.cells))) : Rets Try.prog 6 #[v, u] w fun u_ w' => u_ = .bool true ∧ Own w [] [] w' := by
  refine fn_enter (args := [v, u]) Try.func6 rfl Try.ntmps6 rfl (Own.start w) ?_
  refine c_reg ?_
  refine l_as rfl ?_
  refine l_end ?_
  refine c_reg ?_
  refine l_mv rfl ?_
  refine l_call (by kernel_rfl) rfl rfl (fun w' hw => ?_)
  refine (dgrown_s v acts w' (by first | assumption | omega | (simp <;> omega) | (constructor <;> (first | omega | (simp only [LenOk]; omega) | (simp <;> omega)))) (by first | assumption | omega | (simp <;> omega) | (constructor <;> (first | omega | (simp only [LenOk]; omega) | (simp <;> omega)))) (hw.rd0 hv)).mono ?_
  rintro _ w1 ⟨b1_, m2_, wb3_, kl4_, lv5_, l6_, rfl, hf1_1, hf1_1_1, hO⟩
  have ho := hf1_1
  have hr := hf1_1_1
  refine (?_ : CL _ _ _ _ _ _ (Own w [] [Res.row b1_ 56 [.map (some m2_)], Res.mp ekR repA m2_ kl4_, Res.row wb3_ 42 [lv5_], Res.vec 26 6 lv5_ l6_.length (l6_.flatMap RepD.cells)])) w1 (hw.frame0 hO)
  refine l_mv rfl ?_
  refine l_ext (vs := [.pointer (some ⟨b1_, 0, none⟩), .pointer (some ⟨wb3_, 0, none⟩)]) rfl rfl rfl ?_
  refine l_ext (vs := [.pointer (some ⟨b1_, 0, none⟩), .pointer (some ⟨wb3_, 0, none⟩)]) rfl rfl rfl ?_
  refine l_as rfl ?_
  refine l_as rfl ?_
  refine l_end ?_
  refine c_seq ?_
  refine c_reg ?_
  refine l_call (by kernel_rfl) rfl rfl (fun w' hw => ?_)
  refine (danswers_s w').mono ?_
  rintro _ w1 ⟨rfl, hO⟩
  refine (?_ : CL _ _ _ _ _ _ (Own w [] [Res.row b1_ 56 [.map (some m2_)], Res.mp ekR repA m2_ kl4_, Res.row wb3_ 42 [lv5_], Res.vec 26 6 lv5_ l6_.length (l6_.flatMap RepD.cells)])) w1 (hw.frame0 hO)
  refine l_not (b := true) rfl rfl ?_
  refine l_mv rfl ?_
  refine l_on rfl rfl ?_
  refine l_mv rfl ?_
  refine l_on rfl rfl ?_
  refine l_nilp (by kernel_rfl) rfl rfl rfl ?_
  refine l_pickF rfl rfl ?_
  refine l_end ?_
  refine c_no rfl ?_
  refine c_skipC ?_
  refine c_reg ?_
  refine l_mv rfl ?_
  refine l_bsl (e := 26) (sz := 6) (vs := []) (by kernel_rfl) rfl rfl (by simp [Value.cells, RepD.cells]) (by decide) rfl (fun b24 => ?_)
  refine l_mv rfl ?_
  refine l_appF (g := RepD.cells) (sz := 6) (by' := 48) (fun _ => rfl) (l := []) (l' := l) (by simp [cell1, RepD.cells, vu]) 4 (by kernel_rfl) rfl rfl rfl (fun w' hw' => Own.rd hu hw') (by first | omega | (simp; omega)) (by decide) rfl (fun v26 => ?_)
  refine l_call (by kernel_rfl) rfl rfl (fun w' hw => ?_)
  refine (dload_s b1_ m2_ kl4_ v26 l w' (by omega) hwl (hw.rdVec 4 rfl [0, 1] rfl rfl) (hw.give [0, 1] rfl (by decide))).mono ?_
  rintro _ w1 ⟨m'7_, kl'8_, e9_, rfl, hf4_4, hO⟩
  have hld := hf4_4
  refine (?_ : CL _ _ _ _ _ _ (Own w [] [Res.row wb3_ 42 [lv5_], Res.vec 26 6 lv5_ l6_.length (l6_.flatMap RepD.cells), Res.vec 26 6 v26 l.length (l.flatMap RepD.cells), Res.row b1_ 56 [.map (some m'7_)], Res.mp ekR repA m'7_ kl'8_])) w1 (hw.frameL [0, 1] rfl hO)
  refine l_as rfl ?_
  refine l_end ?_
  refine c_seq ?_
  refine c_reg ?_
  refine l_mv rfl ?_
  refine l_call (by kernel_rfl) rfl rfl (fun w' hw => ?_)
  refine (callsOK_s u l w' (by first | assumption | omega | (simp <;> omega) | (constructor <;> (first | omega | (simp only [LenOk]; omega) | (simp <;> omega)))) (hw.rd0 hu)).mono ?_
  rintro _ w1 ⟨rfl, hO⟩
  refine (?_ : CL _ _ _ _ _ _ (Own w [] [Res.row wb3_ 42 [lv5_], Res.vec 26 6 lv5_ l6_.length (l6_.flatMap RepD.cells), Res.vec 26 6 v26 l.length (l.flatMap RepD.cells), Res.row b1_ 56 [.map (some m'7_)], Res.mp ekR repA m'7_ kl'8_])) w1 (hw.frame0 hO)
  refine l_end ?_
  refine c_dec rfl (fun c2 => ?_) (fun c2 => ?_)
  ·
    refine c_reg ?_
    refine l_mv rfl ?_
    refine l_ne rfl rfl rfl ?_
    refine l_mv rfl ?_
    refine l_bor (q := e9_ ≠ 0) 5 2 [37, 36, 35, 34, 33] (False) rfl rfl rfl rfl rfl rfl trivial rfl (fun h6_2 => ?_) (fun g6_8 => ?_)
    ·
      refine l_on rfl (gF h6_2) ?_
      refine l_mv rfl ?_
      refine l_on rfl (gF h6_2) ?_
      refine l_call (by kernel_rfl) rfl rfl (fun w' hw => ?_)
      refine (dall_s b1_ m'7_ kl'8_ w' (by rw [(load_yes hld c2).2, KR_len]; have := c2.len; omega) (hw.give [3, 4] rfl (by decide))).mono ?_
      rintro v10_ w1 ⟨_, l11_, ks12_, rfl, hf6_4, hf6_4_1, hf6_4_2, hO⟩
      have hl11 : l11_ = l := hf6_4_2.trans (all_eq c2 (by rw [(load_yes hld c2).2]; exact .refl _) hf6_4 hf6_4_1)
      refine (?_ : CL _ _ _ _ _ _ (Own w [] [Res.row wb3_ 42 [lv5_], Res.vec 26 6 lv5_ l6_.length (l6_.flatMap RepD.cells), Res.vec 26 6 v26 l.length (l.flatMap RepD.cells), Res.row b1_ 56 [.map (some m'7_)], Res.mp ekR repA m'7_ kl'8_, Res.vec 26 6 v10_ l11_.length (l11_.flatMap RepD.cells)])) w1 (hw.frameL [3, 4] rfl hO)
      refine l_on rfl (gF h6_2) ?_
      refine l_mv rfl ?_
      refine l_on rfl (gF h6_2) ?_
      refine l_call (by kernel_rfl) rfl rfl (fun w' hw => ?_)
      refine (sameReplies_s v10_ l11_ u l w' (by rw [hl11]; omega) (by omega) (hw.rdVec0 5 rfl) (hw.rd0 hu)).mono ?_
      rintro _ w1 ⟨rfl, hO⟩
      refine (?_ : CL _ _ _ _ _ _ (Own w [] [Res.row wb3_ 42 [lv5_], Res.vec 26 6 lv5_ l6_.length (l6_.flatMap RepD.cells), Res.vec 26 6 v26 l.length (l.flatMap RepD.cells), Res.row b1_ 56 [.map (some m'7_)], Res.mp ekR repA m'7_ kl'8_, Res.vec 26 6 v10_ l11_.length (l11_.flatMap RepD.cells)])) w1 (hw.frame0 hO)
      refine l_on rfl (gF h6_2) ?_
      refine l_notp (q := l11_ = l) rfl rfl ?_
      exact l_nil (fun w' hw => ⟨(by repeat (first | exact Out.refl _ _ | refine Out.upd rfl ?_ | refine Out.msk rfl ?_)), (show Value.bool (decide _) = Value.bool (decide _) by congr 1; rw [decide_eq_decide]; exact ⟨fun h => h hl11, False.elim⟩), hw.sel [0, 1, 2, 3, 4] rfl (by decide)⟩)
    refine l_end ?_
    refine c_dec rfl (fun c3 => ?_) (fun c3 => ?_)
    ·
      refine c_reg ?_
      refine l_as rfl ?_
      refine l_end ?_
      exact c_ret (ret1 (v := .bool false) rfl rfl (fun w' hw => ⟨(by exfalso; exact c3.elim (fun q => q (load_yes hld c2).1) False.elim), hw.drop⟩))
    ·
      refine c_skipC ?_
      refine c_reg ?_
      refine l_as rfl ?_
      refine l_end ?_
      refine c_reg ?_
      refine l_mv rfl ?_
      refine l_call (by kernel_rfl) rfl rfl (fun w' hw => ?_)
      refine (dfindN_s 1 1 w').mono ?_
      rintro _ w1 ⟨rfl, hO⟩
      refine (?_ : CL _ _ _ _ _ _ (Own w [] [Res.row wb3_ 42 [lv5_], Res.vec 26 6 lv5_ l6_.length (l6_.flatMap RepD.cells), Res.vec 26 6 v26 l.length (l.flatMap RepD.cells), Res.row b1_ 56 [.map (some m'7_)], Res.mp ekR repA m'7_ kl'8_])) w1 (hw.frame0 hO)
      refine l_mv rfl ?_
      refine l_ext (vs := [.agg (RepD.cells RepD.zero).toArray, .int .i64 1]) rfl rfl rfl ?_
      refine l_ext (vs := [.agg (RepD.cells RepD.zero).toArray, .int .i64 1]) rfl rfl rfl ?_
      refine l_new (v := .agg #[.int .u64 (0 : Nat), .int .u64 (0 : Nat), .int .i64 0, .int .u64 (0 : Nat), .int .i64 0, .int .i64 0]) (by kernel_rfl) rfl (fun b9 => ?_)
      refine l_stN (cs := [.int .u64 (0 : Nat), .int .u64 (0 : Nat), .int .i64 0, .int .u64 (0 : Nat), .int .i64 0, .int .i64 0]) (vs := [.int .u64 (RepD.zero.session : Nat), .int .u64 (RepD.zero.seq : Nat), .int .i64 RepD.zero.e, .int .u64 (RepD.zero.lease : Nat), .int .i64 RepD.zero.amount, .int .i64 RepD.zero.until_]) 5 rfl rfl rfl (by kernel_rfl) (allc_cons rfl (allc_cons rfl (allc_cons rfl (allc_cons rfl (allc_cons rfl (allc_cons rfl allc_nil)))))) (Nat.le_of_ble_eq_true rfl) ?_
      refine l_as rfl ?_
      refine l_end ?_
      refine c_reg ?_
      refine l_as rfl ?_
      refine l_end ?_
      refine c_reg ?_
      refine l_mv rfl ?_
      refine l_mv rfl ?_
      refine l_eq rfl rfl rfl ?_
      refine l_mv rfl ?_
      refine l_band (q := 1 = 1) 5 3 [64, 63, 62, 61, 60] (1 = 1) rfl rfl rfl rfl rfl rfl trivial rfl (fun h13_3 => ?_) (fun g13_9 => ?_)
      ·
        refine l_on rfl (gT h13_3) ?_
        refine l_mv rfl ?_
        refine l_on rfl (gT h13_3) ?_
        refine l_bld (cs := [.int .u64 (0 : Nat), .int .u64 (0 : Nat), .int .i64 0, .int .u64 (0 : Nat), .int .i64 0, .int .i64 0]) (z := [.int .u64 (0 : Nat), .int .u64 (0 : Nat), .int .i64 0, .int .u64 (0 : Nat), .int .i64 0, .int .i64 0]) (pl := [(0, 1), (1, 1), (2, 1), (3, 1), (4, 1), (5, 1)]) (by kernel_rfl) (by kernel_rfl) rfl ?_
        refine l_on rfl (gT h13_3) ?_
        refine l_call (by kernel_rfl) rfl rfl (fun w' hw => ?_)
        refine (ddoneN_s ({ session := 0, seq := 0, e := 0, lease := 0, amount := 0, until_ := 0 } : RepD) w').mono ?_
        rintro _ w1 ⟨rfl, hO⟩
        refine (?_ : CL _ _ _ _ _ _ (Own w [] [Res.row wb3_ 42 [lv5_], Res.vec 26 6 lv5_ l6_.length (l6_.flatMap RepD.cells), Res.vec 26 6 v26 l.length (l.flatMap RepD.cells), Res.row b1_ 56 [.map (some m'7_)], Res.mp ekR repA m'7_ kl'8_, Res.row b9 26 (RepD.cells RepD.zero)])) w1 (hw.frame0 hO)
        refine l_on rfl (gT h13_3) ?_
        refine l_mv rfl ?_
        refine l_on rfl (gT h13_3) ?_
        refine l_eq rfl rfl rfl ?_
        exact l_nil (fun w' hw => ⟨(by repeat (first | exact Out.refl _ _ | refine Out.upd rfl ?_ | refine Out.msk rfl ?_)), rfl, hw⟩)
      refine l_mv rfl ?_
      refine l_band (q := (1 = 1) ∧ (1 = 1)) 4 10 [70, 69, 68, 67] (1 = 1) rfl rfl rfl rfl rfl rfl trivial rfl (fun h13_10 => ?_) (fun g13_15 => ?_)
      ·
        refine l_on rfl (gT h13_10) ?_
        refine l_mv rfl ?_
        refine l_on rfl (gT h13_10) ?_
        refine l_call (by kernel_rfl) rfl rfl (fun w' hw => ?_)
        refine (dloadN_s (.slice none 0 0) w').mono ?_
        rintro _ w1 ⟨rfl, hO⟩
        refine (?_ : CL _ _ _ _ _ _ (Own w [] [Res.row wb3_ 42 [lv5_], Res.vec 26 6 lv5_ l6_.length (l6_.flatMap RepD.cells), Res.vec 26 6 v26 l.length (l.flatMap RepD.cells), Res.row b1_ 56 [.map (some m'7_)], Res.mp ekR repA m'7_ kl'8_, Res.row b9 26 (RepD.cells RepD.zero)])) w1 (hw.frame0 hO)
        refine l_on rfl (gT h13_10) ?_
        refine l_mv rfl ?_
        refine l_on rfl (gT h13_10) ?_
        refine l_eq rfl rfl rfl ?_
        exact l_nil (fun w' hw => ⟨(by repeat (first | exact Out.refl _ _ | refine Out.upd rfl ?_ | refine Out.msk rfl ?_)), rfl, hw⟩)
      refine l_mv rfl ?_
      refine l_band (q := ((1 = 1) ∧ (1 = 1)) ∧ (1 = 1)) 4 16 [76, 75, 74, 73] (((0 : Nat) : Int) = 0) rfl rfl rfl rfl rfl rfl trivial rfl (fun h13_16 => ?_) (fun g13_21 => ?_)
      ·
        refine l_on rfl (gT h13_16) ?_
        refine l_mv rfl ?_
        refine l_on rfl (gT h13_16) ?_
        refine l_call (by kernel_rfl) rfl rfl (fun w' hw => ?_)
        refine (dallN_s w').mono ?_
        rintro _ w1 ⟨rfl, hO⟩
        refine (?_ : CL _ _ _ _ _ _ (Own w [] [Res.row wb3_ 42 [lv5_], Res.vec 26 6 lv5_ l6_.length (l6_.flatMap RepD.cells), Res.vec 26 6 v26 l.length (l.flatMap RepD.cells), Res.row b1_ 56 [.map (some m'7_)], Res.mp ekR repA m'7_ kl'8_, Res.row b9 26 (RepD.cells RepD.zero)])) w1 (hw.frame0 hO)
        refine l_on rfl (gT h13_16) ?_
        refine l_len (by kernel_rfl) rfl rfl ?_
        refine l_on rfl (gT h13_16) ?_
        refine l_eq rfl rfl rfl ?_
        exact l_nil (fun w' hw => ⟨(by repeat (first | exact Out.refl _ _ | refine Out.upd rfl ?_ | refine Out.msk rfl ?_)), rfl, hw⟩)
      refine l_mv rfl ?_
      refine l_band (q := (((1 = 1) ∧ (1 = 1)) ∧ (1 = 1)) ∧ (((0 : Nat) : Int) = 0)) 3 22 [81, 80, 79] (true = true) rfl rfl rfl rfl rfl rfl trivial rfl (fun h13_22 => ?_) (fun g13_26 => ?_)
      ·
        refine l_on rfl (gT h13_22) ?_
        refine l_mv rfl ?_
        refine l_on rfl (gT h13_22) ?_
        refine l_call (by kernel_rfl) rfl rfl (fun w' hw => ?_)
        refine (dcopyN_s w').mono ?_
        rintro _ w1 ⟨rfl, hO⟩
        refine (?_ : CL _ _ _ _ _ _ (Own w [] [Res.row wb3_ 42 [lv5_], Res.vec 26 6 lv5_ l6_.length (l6_.flatMap RepD.cells), Res.vec 26 6 v26 l.length (l.flatMap RepD.cells), Res.row b1_ 56 [.map (some m'7_)], Res.mp ekR repA m'7_ kl'8_, Res.row b9 26 (RepD.cells RepD.zero)])) w1 (hw.frame0 hO)
        refine l_on rfl (gT h13_22) ?_
        refine l_nilp (by kernel_rfl) rfl rfl rfl ?_
        exact l_nil (fun w' hw => ⟨(by repeat (first | exact Out.refl _ _ | refine Out.upd rfl ?_ | refine Out.msk rfl ?_)), (bool_dec _), hw⟩)
      refine l_as rfl ?_
      refine l_end ?_
      exact c_ret (ret1 (v := .bool (decide (((((1 = 1) ∧ (1 = 1)) ∧ (1 = 1)) ∧ (((0 : Nat) : Int) = 0)) ∧ (true = true)))) rfl rfl (fun w' hw => ⟨(by simp), hw.drop⟩))
  ·
    refine c_seq ?_
    refine c_heldo [0, 1, 2] rfl (by decide) (by kernel_rfl) (fun w' hw hS => ?_)
    refine h_take 0 rfl (by kernel_rfl) (by kernel_rfl) (by kernel_rfl) (v_mv) rfl hS ?_
    refine h_take 1 rfl (by kernel_rfl) (by kernel_rfl) (by kernel_rfl) (v_ne rfl rfl) rfl hS ?_
    refine h_take 2 rfl (by kernel_rfl) (by kernel_rfl) (by kernel_rfl) (v_mv) rfl hS ?_
    by_cases g8_2 : e9_ ≠ 2
    ·
      refine h_offg 3 rfl rfl (gT g8_2) rfl (by kernel_rfl) (by kernel_rfl) (by kernel_rfl) rfl hS ?_
      refine h_offg 4 rfl rfl (gT g8_2) rfl (by kernel_rfl) (by kernel_rfl) (by kernel_rfl) rfl hS ?_
      refine h_offg 5 rfl rfl (gT g8_2) rfl (by kernel_rfl) (by kernel_rfl) (by kernel_rfl) rfl hS ?_
      refine h_offg 6 rfl rfl (gT g8_2) rfl (by kernel_rfl) (by kernel_rfl) (by kernel_rfl) rfl hS ?_
      refine h_offg 7 rfl rfl (gT g8_2) rfl (by kernel_rfl) (by kernel_rfl) (by kernel_rfl) rfl hS ?_
      refine h_offg 8 rfl rfl (gT g8_2) rfl (by kernel_rfl) (by kernel_rfl) (by kernel_rfl) rfl hS ?_
      refine h_offg 9 rfl rfl (gT g8_2) rfl (by kernel_rfl) (by kernel_rfl) (by kernel_rfl) rfl hS ?_
      refine h_offg 10 rfl rfl (gT g8_2) rfl (by kernel_rfl) (by kernel_rfl) (by kernel_rfl) rfl hS ?_
      refine h_take 11 rfl (by kernel_rfl) (by kernel_rfl) (by kernel_rfl) (v_pickT (gT g8_2)) rfl hS ?_
      refine h_done (by kernel_rfl) ?_
      refine (?_ : C _ _ _ _ _ _ _ (Own w [] [Res.row wb3_ 42 [lv5_], Res.vec 26 6 lv5_ l6_.length (l6_.flatMap RepD.cells), Res.vec 26 6 v26 l.length (l.flatMap RepD.cells), Res.row b1_ 56 [.map (some m'7_)], Res.mp ekR repA m'7_ kl'8_])) _ hw
      refine c_yes rfl ?_
      refine c_reg ?_
      refine l_as rfl ?_
      refine l_end ?_
      exact c_ret (ret1 (v := .bool false) rfl rfl (fun w' hw => ⟨(by exfalso; exact g8_2 (load_no hld c2).1), hw.drop⟩))
    ·
      refine h_takeg 3 rfl rfl (gF g8_2) (by kernel_rfl) (by kernel_rfl) (by kernel_rfl) (v_mv) rfl hS ?_
      refine h_takeg 5 rfl rfl (gF g8_2) (by kernel_rfl) (by kernel_rfl) (by kernel_rfl) (v_mv) rfl hS ?_
      refine h_takeg 6 rfl rfl (gF g8_2) (by kernel_rfl) (by kernel_rfl) (by kernel_rfl) (v_nck rfl) rfl hS ?_
      refine h_takeg 7 rfl rfl (gF g8_2) (by kernel_rfl) (by kernel_rfl) (by kernel_rfl) (v_fld (o := 0) rfl (by kernel_rfl)) rfl hS ?_
      refine h_takeg 8 rfl rfl (gF g8_2) (by kernel_rfl) (by kernel_rfl) (by kernel_rfl) (v_ldo 0 (v := lv5_) rfl rfl rfl (by kernel_rfl)) rfl hS ?_
      refine h_one 4 (by kernel_rfl) rfl hw ?_
      refine l_on rfl (gF g8_2) ?_
      refine l_call (by kernel_rfl) rfl rfl (fun w' hw => ?_)
      refine (dall_s b1_ m'7_ kl'8_ w' (by rw [(load_no hld c2).2, hr.length_eq, KR_len]; have := ho.len; omega) (hw.give [3, 4] rfl (by decide))).mono ?_
      rintro v13_ w1 ⟨_, l14_, ks15_, rfl, hf8_4, hf8_4_1, hf8_4_2, hO⟩
      have hl14 := hf8_4_2.trans (all_eq ho (by rw [(load_no hld c2).2]; exact hr) hf8_4 hf8_4_1)
      refine (?_ : CL _ _ _ _ _ _ (Own w [] [Res.row wb3_ 42 [lv5_], Res.vec 26 6 lv5_ l6_.length (l6_.flatMap RepD.cells), Res.vec 26 6 v26 l.length (l.flatMap RepD.cells), Res.row b1_ 56 [.map (some m'7_)], Res.mp ekR repA m'7_ kl'8_, Res.vec 26 6 v13_ l14_.length (l14_.flatMap RepD.cells)])) w1 (hw.frameL [3, 4] rfl hO)
      refine l_nil (fun w' hw => ?_)
      have hS := hw.sel [0, 1, 2] rfl (by decide)
      refine ⟨hS, ?_⟩
      refine h_one 9 (by kernel_rfl) rfl hw ?_
      refine l_on rfl (gF g8_2) ?_
      refine l_call (by kernel_rfl) rfl rfl (fun w' hw => ?_)
      refine (sameReplies_s v13_ l14_ lv5_ l6_ w' (by rw [hl14]; have := ho.len; omega) (by have := ho.len; omega) (hw.rdVec0 5 rfl) (hw.rdVec0 1 rfl)).mono ?_
      rintro _ w1 ⟨rfl, hO⟩
      refine (?_ : CL _ _ _ _ _ _ (Own w [] [Res.row wb3_ 42 [lv5_], Res.vec 26 6 lv5_ l6_.length (l6_.flatMap RepD.cells), Res.vec 26 6 v26 l.length (l.flatMap RepD.cells), Res.row b1_ 56 [.map (some m'7_)], Res.mp ekR repA m'7_ kl'8_, Res.vec 26 6 v13_ l14_.length (l14_.flatMap RepD.cells)])) w1 (hw.frame0 hO)
      refine l_nil (fun w' hw => ?_)
      have hS := hw.sel [0, 1, 2] rfl (by decide)
      refine ⟨hS, ?_⟩
      refine h_takeg 10 rfl rfl (gF g8_2) (by kernel_rfl) (by kernel_rfl) (by kernel_rfl) (v_notp (q := l14_ = l6_) rfl) rfl hS ?_
      refine h_take 11 rfl (by kernel_rfl) (by kernel_rfl) (by kernel_rfl) (v_pickF (gF g8_2)) rfl hS ?_
      refine h_done (by kernel_rfl) ?_
      refine (?_ : C _ _ _ _ _ _ _ (Own w [] [Res.row wb3_ 42 [lv5_], Res.vec 26 6 lv5_ l6_.length (l6_.flatMap RepD.cells), Res.vec 26 6 v26 l.length (l.flatMap RepD.cells), Res.row b1_ 56 [.map (some m'7_)], Res.mp ekR repA m'7_ kl'8_, Res.vec 26 6 v13_ l14_.length (l14_.flatMap RepD.cells)])) _ hw
      refine c_dec rfl (fun c5 => ?_) (fun c5 => ?_)
      ·
        refine c_reg ?_
        refine l_as rfl ?_
        refine l_end ?_
        exact c_ret (ret1 (v := .bool false) rfl rfl (fun w' hw => ⟨(by exfalso; exact c5 hl14), hw.drop⟩))
      ·
        refine c_skipC ?_
        refine c_reg ?_
        refine l_as rfl ?_
        refine l_end ?_
        refine c_reg ?_
        refine l_mv rfl ?_
        refine l_call (by kernel_rfl) rfl rfl (fun w' hw => ?_)
        refine (dfindN_s 1 1 w').mono ?_
        rintro _ w1 ⟨rfl, hO⟩
        refine (?_ : CL _ _ _ _ _ _ (Own w [] [Res.row wb3_ 42 [lv5_], Res.vec 26 6 lv5_ l6_.length (l6_.flatMap RepD.cells), Res.vec 26 6 v26 l.length (l.flatMap RepD.cells), Res.row b1_ 56 [.map (some m'7_)], Res.mp ekR repA m'7_ kl'8_, Res.vec 26 6 v13_ l14_.length (l14_.flatMap RepD.cells)])) w1 (hw.frame0 hO)
        refine l_mv rfl ?_
        refine l_ext (vs := [.agg (RepD.cells RepD.zero).toArray, .int .i64 1]) rfl rfl rfl ?_
        refine l_ext (vs := [.agg (RepD.cells RepD.zero).toArray, .int .i64 1]) rfl rfl rfl ?_
        refine l_new (v := .agg #[.int .u64 (0 : Nat), .int .u64 (0 : Nat), .int .i64 0, .int .u64 (0 : Nat), .int .i64 0, .int .i64 0]) (by kernel_rfl) rfl (fun b9 => ?_)
        refine l_stN (cs := [.int .u64 (0 : Nat), .int .u64 (0 : Nat), .int .i64 0, .int .u64 (0 : Nat), .int .i64 0, .int .i64 0]) (vs := [.int .u64 (RepD.zero.session : Nat), .int .u64 (RepD.zero.seq : Nat), .int .i64 RepD.zero.e, .int .u64 (RepD.zero.lease : Nat), .int .i64 RepD.zero.amount, .int .i64 RepD.zero.until_]) 6 rfl rfl rfl (by kernel_rfl) (allc_cons rfl (allc_cons rfl (allc_cons rfl (allc_cons rfl (allc_cons rfl (allc_cons rfl allc_nil)))))) (Nat.le_of_ble_eq_true rfl) ?_
        refine l_as rfl ?_
        refine l_end ?_
        refine c_reg ?_
        refine l_as rfl ?_
        refine l_end ?_
        refine c_reg ?_
        refine l_mv rfl ?_
        refine l_mv rfl ?_
        refine l_eq rfl rfl rfl ?_
        refine l_mv rfl ?_
        refine l_band (q := 1 = 1) 5 3 [64, 63, 62, 61, 60] (1 = 1) rfl rfl rfl rfl rfl rfl trivial rfl (fun h13_3 => ?_) (fun g13_9 => ?_)
        ·
          refine l_on rfl (gT h13_3) ?_
          refine l_mv rfl ?_
          refine l_on rfl (gT h13_3) ?_
          refine l_bld (cs := [.int .u64 (0 : Nat), .int .u64 (0 : Nat), .int .i64 0, .int .u64 (0 : Nat), .int .i64 0, .int .i64 0]) (z := [.int .u64 (0 : Nat), .int .u64 (0 : Nat), .int .i64 0, .int .u64 (0 : Nat), .int .i64 0, .int .i64 0]) (pl := [(0, 1), (1, 1), (2, 1), (3, 1), (4, 1), (5, 1)]) (by kernel_rfl) (by kernel_rfl) rfl ?_
          refine l_on rfl (gT h13_3) ?_
          refine l_call (by kernel_rfl) rfl rfl (fun w' hw => ?_)
          refine (ddoneN_s ({ session := 0, seq := 0, e := 0, lease := 0, amount := 0, until_ := 0 } : RepD) w').mono ?_
          rintro _ w1 ⟨rfl, hO⟩
          refine (?_ : CL _ _ _ _ _ _ (Own w [] [Res.row wb3_ 42 [lv5_], Res.vec 26 6 lv5_ l6_.length (l6_.flatMap RepD.cells), Res.vec 26 6 v26 l.length (l.flatMap RepD.cells), Res.row b1_ 56 [.map (some m'7_)], Res.mp ekR repA m'7_ kl'8_, Res.vec 26 6 v13_ l14_.length (l14_.flatMap RepD.cells), Res.row b9 26 (RepD.cells RepD.zero)])) w1 (hw.frame0 hO)
          refine l_on rfl (gT h13_3) ?_
          refine l_mv rfl ?_
          refine l_on rfl (gT h13_3) ?_
          refine l_eq rfl rfl rfl ?_
          exact l_nil (fun w' hw => ⟨(by repeat (first | exact Out.refl _ _ | refine Out.upd rfl ?_ | refine Out.msk rfl ?_)), rfl, hw⟩)
        refine l_mv rfl ?_
        refine l_band (q := (1 = 1) ∧ (1 = 1)) 4 10 [70, 69, 68, 67] (1 = 1) rfl rfl rfl rfl rfl rfl trivial rfl (fun h13_10 => ?_) (fun g13_15 => ?_)
        ·
          refine l_on rfl (gT h13_10) ?_
          refine l_mv rfl ?_
          refine l_on rfl (gT h13_10) ?_
          refine l_call (by kernel_rfl) rfl rfl (fun w' hw => ?_)
          refine (dloadN_s (.slice none 0 0) w').mono ?_
          rintro _ w1 ⟨rfl, hO⟩
          refine (?_ : CL _ _ _ _ _ _ (Own w [] [Res.row wb3_ 42 [lv5_], Res.vec 26 6 lv5_ l6_.length (l6_.flatMap RepD.cells), Res.vec 26 6 v26 l.length (l.flatMap RepD.cells), Res.row b1_ 56 [.map (some m'7_)], Res.mp ekR repA m'7_ kl'8_, Res.vec 26 6 v13_ l14_.length (l14_.flatMap RepD.cells), Res.row b9 26 (RepD.cells RepD.zero)])) w1 (hw.frame0 hO)
          refine l_on rfl (gT h13_10) ?_
          refine l_mv rfl ?_
          refine l_on rfl (gT h13_10) ?_
          refine l_eq rfl rfl rfl ?_
          exact l_nil (fun w' hw => ⟨(by repeat (first | exact Out.refl _ _ | refine Out.upd rfl ?_ | refine Out.msk rfl ?_)), rfl, hw⟩)
        refine l_mv rfl ?_
        refine l_band (q := ((1 = 1) ∧ (1 = 1)) ∧ (1 = 1)) 4 16 [76, 75, 74, 73] (((0 : Nat) : Int) = 0) rfl rfl rfl rfl rfl rfl trivial rfl (fun h13_16 => ?_) (fun g13_21 => ?_)
        ·
          refine l_on rfl (gT h13_16) ?_
          refine l_mv rfl ?_
          refine l_on rfl (gT h13_16) ?_
          refine l_call (by kernel_rfl) rfl rfl (fun w' hw => ?_)
          refine (dallN_s w').mono ?_
          rintro _ w1 ⟨rfl, hO⟩
          refine (?_ : CL _ _ _ _ _ _ (Own w [] [Res.row wb3_ 42 [lv5_], Res.vec 26 6 lv5_ l6_.length (l6_.flatMap RepD.cells), Res.vec 26 6 v26 l.length (l.flatMap RepD.cells), Res.row b1_ 56 [.map (some m'7_)], Res.mp ekR repA m'7_ kl'8_, Res.vec 26 6 v13_ l14_.length (l14_.flatMap RepD.cells), Res.row b9 26 (RepD.cells RepD.zero)])) w1 (hw.frame0 hO)
          refine l_on rfl (gT h13_16) ?_
          refine l_len (by kernel_rfl) rfl rfl ?_
          refine l_on rfl (gT h13_16) ?_
          refine l_eq rfl rfl rfl ?_
          exact l_nil (fun w' hw => ⟨(by repeat (first | exact Out.refl _ _ | refine Out.upd rfl ?_ | refine Out.msk rfl ?_)), rfl, hw⟩)
        refine l_mv rfl ?_
        refine l_band (q := (((1 = 1) ∧ (1 = 1)) ∧ (1 = 1)) ∧ (((0 : Nat) : Int) = 0)) 3 22 [81, 80, 79] (true = true) rfl rfl rfl rfl rfl rfl trivial rfl (fun h13_22 => ?_) (fun g13_26 => ?_)
        ·
          refine l_on rfl (gT h13_22) ?_
          refine l_mv rfl ?_
          refine l_on rfl (gT h13_22) ?_
          refine l_call (by kernel_rfl) rfl rfl (fun w' hw => ?_)
          refine (dcopyN_s w').mono ?_
          rintro _ w1 ⟨rfl, hO⟩
          refine (?_ : CL _ _ _ _ _ _ (Own w [] [Res.row wb3_ 42 [lv5_], Res.vec 26 6 lv5_ l6_.length (l6_.flatMap RepD.cells), Res.vec 26 6 v26 l.length (l.flatMap RepD.cells), Res.row b1_ 56 [.map (some m'7_)], Res.mp ekR repA m'7_ kl'8_, Res.vec 26 6 v13_ l14_.length (l14_.flatMap RepD.cells), Res.row b9 26 (RepD.cells RepD.zero)])) w1 (hw.frame0 hO)
          refine l_on rfl (gT h13_22) ?_
          refine l_nilp (by kernel_rfl) rfl rfl rfl ?_
          exact l_nil (fun w' hw => ⟨(by repeat (first | exact Out.refl _ _ | refine Out.upd rfl ?_ | refine Out.msk rfl ?_)), (bool_dec _), hw⟩)
        refine l_as rfl ?_
        refine l_end ?_
        exact c_ret (ret1 (v := .bool (decide (((((1 = 1) ∧ (1 = 1)) ∧ (1 = 1)) ∧ (((0 : Nat) : Int) = 0)) ∧ (true = true)))) rfl rfl (fun w' hw => ⟨(by simp), hw.drop⟩))
end Go.Proofs.Ytjnnobekbgpaaaa
