/-
  THE WALK OF DedupOnce.
-/
import Derived.Test.YtokbpgipdcfakaaDedup4
set_option linter.unusedVariables false
set_option maxRecDepth 10000
namespace Go.Proofs.Ytokbpgipdcfakaa
open Go Go.Sc Go.Proofs

theorem find_putR (r : RepD) : ∀ rs : List RepD, (putR r rs).find? (fun x => r.session = x.session) = some r
  | [] => by simp [putR]
  | x :: rs => by
    unfold putR
    split
    · simp
    · rename_i h
      rw [List.find?_cons]
      simp only [h, decide_false]
      exact find_putR r rs
theorem findR_none {rs : List RepD} {s q : Nat} (h : (findR rs s q).2 = 8) : s ≠ 0 ∧ q ≠ 0 := by
  unfold findR at h
  split at h
  · simp at h
  · omega
theorem done0 {rs : List RepD} {r : RepD} (h : (doneR rs r).1 = 0) : r.ok ∧ (findR rs r.session r.seq).2 = 8 ∧ (doneR rs r).2 = putR r rs := by
  unfold doneR at h ⊢
  by_cases h1 : r.ok
  · rw [if_neg (by simpa using h1)] at h ⊢
    by_cases h2 : (findR rs r.session r.seq).2 = 8
    · rw [if_pos h2]; exact ⟨h1, h2, rfl⟩
    · rw [if_neg h2] at h
      by_cases h3 : (findR rs r.session r.seq).2 = 0
      · rw [if_pos h3] at h; simp at h
      · rw [if_neg h3] at h; exact absurd h h3
  · rw [if_pos h1] at h; simp at h
theorem findR_put {rs : List RepD} {r : RepD} (hs : r.session ≠ 0) (q : Nat) (hq : q ≠ 0) : findR (putR r rs) r.session q = if r.seq < q then (repZ, 8) else if q < r.seq then (repZ, 13) else (r, 0) := by
  unfold findR
  rw [if_neg (by omega), find_putR]
theorem again_done {rs : List RepD} {r a : RepD} (hs : r.session ≠ 0) (hq : r.seq ≠ 0) (h1 : a.session = r.session) (h2 : a.seq = r.seq) : (doneR (putR r rs) a).2 = putR r rs ∧ (a.ok → (doneR (putR r rs) a).1 = 9) := by
  have hf : findR (putR r rs) a.session a.seq = (r, 0) := by rw [h1, h2, findR_put hs _ hq]; simp
  unfold doneR
  rw [hf]
  by_cases h : a.ok
  · simp [h]
  · simp [h]

set_option maxHeartbeats 2000000 in
theorem dedupOnce_spec (va : Value) (acts : List ActD) (hwf : ∀ a ∈ acts, a.r.wf) (r again : RepD) (hr : r.wf) (hr' : again.wf) (less : Nat) (w : World) (hsl : Sl w va acts.length (acts.flatMap ActD.cells)) :
    Rets Try.prog 3 #[va, repV r, repV again, vu less] w fun u w' => u = .bool true ∧ Own w [] [] w' := by
  refine fn_enter (args := [va, repV r, repV again, vu less]) Try.func3 rfl Try.ntmps3 rfl (Own.start w) ?_
  refine c_reg ?_
  refine l_box rfl rfl (fun b5 => ?_)
  refine l_box rfl rfl (fun b6 => ?_)
  refine l_as rfl ?_
  refine l_end ?_
  refine c_reg ?_
  refine l_mv rfl ?_
  refine l_call (by kernel_rfl) rfl rfl (fun w' hw => ?_)
  refine (grown_spec va acts hwf w' (hw.old (Res.sl va acts.length (acts.flatMap ActD.cells)) hsl (by simp))).mono ?_
  rintro _ w1 ⟨c, m, d, v, rfl, hO, hl⟩
  generalize growR (acts.take 200) ([], []) = gg at hO hl
  obtain ⟨rs, ws⟩ := gg
  replace hO := hO.splitBoth (i := 0) rfl
  refine (?_ : CL _ _ _ _ _ _ (Own w [] _)) w1 (hw.frame0 hO)
  refine l_mv rfl ?_
  refine l_ext (vs := [.pointer (some ⟨c, 0, none⟩), .pointer (some ⟨d, 0, none⟩)]) rfl rfl rfl ?_
  refine l_ext (vs := [.pointer (some ⟨c, 0, none⟩), .pointer (some ⟨d, 0, none⟩)]) rfl rfl rfl ?_
  refine l_as rfl ?_
  refine l_as rfl ?_
  refine l_end ?_
  refine c_seq ?_
  refine c_reg ?_
  refine l_call (by kernel_rfl) rfl rfl (fun w' hw => ?_)
  refine (answers_spec w').mono ?_
  rintro _ w1 ⟨rfl, hO⟩
  refine (?_ : CL _ _ _ _ _ _ (Own w [] _)) w1 (hw.frame0 hO)
  refine l_not (b := true) rfl rfl ?_
  refine l_mv rfl ?_
  refine l_on rfl (rfl) ?_
  refine l_mv rfl ?_
  refine l_on rfl (rfl) ?_
  refine l_nilp (by kernel_rfl) rfl rfl rfl ?_
  refine l_pick rfl rfl ?_
  refine l_mv rfl ?_
  refine l_on rfl (rfl) ?_
  refine l_mv rfl ?_
  refine l_on rfl (rfl) ?_
  refine l_ldr (cs := r.cells) 0 rfl rfl (by kernel_rfl) rfl ?_
  refine l_on rfl (rfl) ?_
  refine l_call (by kernel_rfl) rfl rfl (fun w' hw => ?_)
  refine (done_spec c m rs r hr w' (hw.holds 2 _ rfl)).mono ?_
  rintro _ w1 ⟨rfl, hO⟩
  refine (?_ : CL _ _ _ _ _ _ (Own w [] _)) w1 (hw.frame1 (i := 2) rfl hO)
  refine l_on rfl (rfl) ?_
  refine l_ne rfl rfl rfl ?_
  refine l_pick rfl rfl ?_
  refine l_end ?_
  refine c_dec rfl (fun c1 => ?_) (fun c1 => ?_)
  ·
    refine c_reg ?_
    refine l_call (by kernel_rfl) rfl rfl (fun w' hw => ?_)
    refine (answers_spec w').mono ?_
    rintro _ w1 ⟨rfl, hO⟩
    refine (?_ : CL _ _ _ _ _ _ (Own w [] _)) w1 (hw.frame0 hO)
    refine l_mv rfl ?_
    refine l_on rfl (rfl) ?_
    refine l_mv rfl ?_
    refine l_on rfl (rfl) ?_
    refine l_nilnp (by kernel_rfl) rfl rfl rfl ?_
    refine l_pick rfl rfl ?_
    refine l_as rfl ?_
    refine l_end ?_
    exact c_ret (ret1 rfl rfl (fun w' hw => ⟨rfl, hw.drop⟩))
  ·
    have h0 : (doneR rs r).1 = 0 := by omega
    obtain ⟨hok, h8, hP⟩ := done0 h0
    obtain ⟨hs, hq⟩ := findR_none h8
    rw [hP]
    have hseq := hr.seq
    unfold isU at hseq
    refine c_skipC ?_
    refine c_seq ?_
    refine c_held (fun w' => (∀ i u, r.cells[i]? = some u → w'.cell? ⟨b5, 0 + i, none⟩ = some u)) (by kernel_rfl) (fun w' hw => (fun (hw : Own w [] _ _) => Own.rowCells (cs := r.cells) (i := 0) rfl _ hw) hw.drawn) (fun w' hw => ?_)
    replace hw := hw.drawn
    have hS := Own.rowCells (cs := r.cells) (i := 0) rfl _ hw
    refine h_take 0 rfl (by kernel_rfl) (by kernel_rfl) (by kernel_rfl) (v_fld (o := 0) rfl (by kernel_rfl)) rfl hS ?_
    refine h_take 1 rfl (by kernel_rfl) (by kernel_rfl) (by kernel_rfl) (v_ld rfl (by kernel_rfl) (fun w h => h 0 _ rfl)) rfl hS ?_
    refine h_take 2 rfl (by kernel_rfl) (by kernel_rfl) (by kernel_rfl) (v_fld (o := 1) rfl (by kernel_rfl)) rfl hS ?_
    refine h_take 3 rfl (by kernel_rfl) (by kernel_rfl) (by kernel_rfl) (v_ld rfl (by kernel_rfl) (fun w h => h 1 _ rfl)) rfl hS ?_
    refine h_take 4 rfl (by kernel_rfl) (by kernel_rfl) (by kernel_rfl) (v_fld (o := 0) rfl (by kernel_rfl)) rfl hS ?_
    refine h_st 5 1 (by kernel_rfl) rfl rfl rfl hw rfl (by kernel_rfl) rfl (show (0 : Nat) < 6 by decide) (fun w2 hO2 => ?_)
    replace hw := hO2
    replace hS := Own.rowCells (cs := r.cells) (i := 0) rfl _ hw
    refine ⟨hS, ?_⟩
    refine h_take 6 rfl (by kernel_rfl) (by kernel_rfl) (by kernel_rfl) (v_fld (o := 1) rfl (by kernel_rfl)) rfl hS ?_
    refine h_st 7 1 (by kernel_rfl) rfl rfl rfl hw rfl (by kernel_rfl) rfl (show (1 : Nat) < 6 by decide) (fun w3 hO3 => ?_)
    replace hw : Own w [] [Res.row b5 26 r.cells, Res.row b6 26 (RepD.cells { again with session := r.session, seq := r.seq }), Res.calls c m (putR r rs), Res.refc d v ws] w3 := hO3
    replace hS := Own.rowCells (cs := r.cells) (i := 0) rfl _ hw
    refine ⟨hS, ?_⟩
    refine h_done (by kernel_rfl) ?_
    refine (?_ : C _ _ _ _ _ _ _ (Own w [] _)) _ hw
    refine c_reg ?_
    refine l_mv rfl ?_
    refine l_ldr (cs := (RepD.cells { again with session := r.session, seq := r.seq })) 1 rfl rfl (by kernel_rfl) rfl ?_
    refine l_call (by kernel_rfl) rfl rfl (fun w' hw => ?_)
    refine (done_spec c m (putR r rs) { again with session := r.session, seq := r.seq } ⟨hr.session, hr.seq, hr'.e, hr'.lease, hr'.amount, hr'.until_⟩ w' (hw.holds 2 _ rfl)).mono ?_
    rintro _ w1 ⟨rfl, hO⟩
    obtain ⟨hd1, hd2⟩ := again_done (rs := rs) (r := r) (a := { again with session := r.session, seq := r.seq }) hs hq rfl rfl
    rw [hd1] at hO
    refine (?_ : CL _ _ _ _ _ _ (Own w [] _)) w1 (hw.frame1 (i := 2) rfl hO)
    refine l_as rfl ?_
    refine l_end ?_
    refine c_reg ?_
    refine l_mv rfl ?_
    refine l_fld (o := 0) rfl (by kernel_rfl) rfl ?_
    refine l_ldo 0 rfl rfl rfl (by kernel_rfl) rfl ?_
    refine l_fld (o := 1) rfl (by kernel_rfl) rfl ?_
    refine l_ldo 0 rfl rfl rfl (by kernel_rfl) rfl ?_
    refine l_call (by kernel_rfl) rfl rfl (fun w' hw => ?_)
    refine (find_spec c m (putR r rs) r.session r.seq w' (hw.holds 2 _ rfl)).mono ?_
    rintro _ w1 ⟨rfl, hO⟩
    rw [show findR (putR r rs) r.session r.seq = (r, 0) by rw [findR_put hs _ hq]; simp]
    refine (?_ : CL _ _ _ _ _ _ (Own w [] _)) w1 (hw.frame0 hO)
    refine l_mv rfl ?_
    refine l_ext (vs := [repV r, .int .i64 0]) rfl rfl rfl ?_
    refine l_ext (vs := [repV r, .int .i64 0]) rfl rfl rfl ?_
    refine l_new (v := .agg #[.int .u64 0, .int .u64 0, .int .i64 0, .int .u64 0, .int .i64 0, .int .i64 0]) (by kernel_rfl) rfl (fun b12 => ?_)
    refine l_stN (vs := r.cells) 4 rfl rfl rfl (by kernel_rfl) (by simp [RepD.cells, vu, cell1]) (by simp [repV, Value.cells, RepD.cells]) ?_
    refine l_as rfl ?_
    refine l_end ?_
    refine c_cut0 ([(3, vu less), (5, .pointer (some ⟨b5, 0, none⟩)), (9, .pointer (some ⟨c, 0, none⟩)), (11, .int .i64 9), (12, .pointer (some ⟨b12, 0, none⟩)), (13, .int .i64 0)]) (True) ([Res.row b5 26 r.cells, Res.row b6 26 (RepD.cells { again with session := r.session, seq := r.seq }), Res.calls c m (putR r rs), Res.refc d v ws, Res.row b12 26 r.cells]) ?_ (fun g hΦ => ?_)
    ·
      refine c_reg ?_
      refine l_ldr (cs := (RepD.cells { again with session := r.session, seq := r.seq })) 1 rfl rfl (by kernel_rfl) rfl ?_
      refine l_call (by kernel_rfl) rfl rfl (fun w' hw => ?_)
      refine (replyOK_spec { again with session := r.session, seq := r.seq } w').mono ?_
      rintro _ w1 ⟨rfl, hO⟩
      refine (?_ : CL _ _ _ _ _ _ (Own w [] _)) w1 (hw.frame0 hO)
      refine l_notp rfl rfl ?_
      refine l_end ?_
      refine c_dec rfl (fun c2 => ?_) (fun c2 => ?_)
      ·
        refine c_last ?_
        refine l_as rfl ?_
        exact l_nil (fun w' hw => ⟨⟨rfl, rfl, rfl, rfl, rfl, rfl, trivial⟩, trivial, hw⟩)
      ·
        rw [hd2 (Decidable.not_not.1 c2)]
        exact c_skip (fun w' hw => ⟨⟨rfl, rfl, rfl, rfl, rfl, rfl, trivial⟩, trivial, hw⟩)
    refine c_seq ?_
    refine c_reg ?_
    refine l_mv rfl ?_
    refine l_ne rfl rfl rfl ?_
    refine l_mv rfl ?_
    refine l_on rfl (rfl) ?_
    refine l_mv rfl ?_
    refine l_on rfl (rfl) ?_
    refine l_ne rfl rfl rfl ?_
    refine l_pick rfl rfl ?_
    refine l_mv rfl ?_
    refine l_on rfl (rfl) ?_
    refine l_ldr (cs := r.cells) 4 rfl rfl (by kernel_rfl) rfl ?_
    refine l_on rfl (rfl) ?_
    refine l_ldr (cs := r.cells) 0 rfl rfl (by kernel_rfl) rfl ?_
    refine l_on rfl (rfl) ?_
    refine l_val rfl (v_stq (repEq r r) (by kernel_rfl) (by kernel_rfl) rfl rfl rfl rfl) ?_
    refine l_pick rfl rfl ?_
    refine l_end ?_
    refine c_decF rfl (by simp) ?_
    refine c_skipC ?_
    refine c_cut0 ([(5, .pointer (some ⟨b5, 0, none⟩)), (9, .pointer (some ⟨c, 0, none⟩))]) (True) ([Res.row b5 26 r.cells, Res.calls c m (putR r rs)]) ?_ (fun g hΦ => ?_)
    ·
      refine c_reg ?_
      refine l_mv rfl ?_
      refine l_geq rfl rfl rfl ?_
      refine l_mv rfl ?_
      refine l_band 4 2 [78, 77, 76, 75] (((less : Int) < r.seq)) rfl rfl rfl rfl rfl rfl trivial rfl (fun h11_2 => ?_) (fun g11_7 => ?_)
      ·
        refine l_on rfl (gT h11_2) ?_
        refine l_mv rfl ?_
        refine l_on rfl (gT h11_2) ?_
        refine l_fld (o := 1) rfl (by kernel_rfl) rfl ?_
        refine l_on rfl (gT h11_2) ?_
        refine l_ldo 0 rfl rfl rfl (by kernel_rfl) rfl ?_
        refine l_on rfl (gT h11_2) ?_
        refine l_lss rfl rfl rfl ?_
        exact l_nil (fun w' hw => ⟨(by repeat (first | exact Out.refl _ _ | refine Out.upd rfl ?_ | refine Out.msk rfl ?_)), rfl, hw⟩)
      refine l_end ?_
      refine c_dec rfl (fun c4 => ?_) (fun c4 => ?_)
      ·
        refine c_reg ?_
        refine l_mv rfl ?_
        refine l_fld (o := 0) rfl (by kernel_rfl) rfl ?_
        refine l_ldo 0 rfl rfl rfl (by kernel_rfl) rfl ?_
        refine l_mv rfl ?_
        refine l_call (by kernel_rfl) rfl rfl (fun w' hw => ?_)
        refine (find_spec c m (putR r rs) r.session less w' (hw.holds 2 _ rfl)).mono ?_
        rintro _ w1 ⟨rfl, hO⟩
        rw [show findR (putR r rs) r.session less = (repZ, 13) by rw [findR_put hs _ (by omega), if_neg (by omega), if_pos (by omega)]]
        refine (?_ : CL _ _ _ _ _ _ (Own w [] _)) w1 (hw.frame0 hO)
        refine l_mv rfl ?_
        refine l_ext (vs := [repV repZ, .int .i64 13]) rfl rfl rfl ?_
        refine l_ext (vs := [repV repZ, .int .i64 13]) rfl rfl rfl ?_
        refine l_new (v := .agg #[.int .u64 0, .int .u64 0, .int .i64 0, .int .u64 0, .int .i64 0, .int .i64 0]) (by kernel_rfl) rfl (fun b14 => ?_)
        refine l_stN (vs := repZ.cells) 5 rfl rfl rfl (by kernel_rfl) (by simp [repZ, RepD.cells, vu, cell1]) (by simp [repV, Value.cells, RepD.cells]) ?_
        refine l_as rfl ?_
        refine l_end ?_
        refine c_reg ?_
        refine l_mv rfl ?_
        refine l_ne rfl rfl rfl ?_
        refine l_end ?_
        refine c_no rfl ?_
        exact c_skip (fun w' hw => ⟨⟨rfl, rfl, trivial⟩, trivial, hw.sel [0, 2] rfl (by decide)⟩)
      ·
        exact c_skip (fun w' hw => ⟨⟨rfl, rfl, trivial⟩, trivial, hw.sel [0, 2] rfl (by decide)⟩)
    refine c_seq ?_
    refine c_reg ?_
    refine l_fld (o := 1) rfl (by kernel_rfl) rfl ?_
    refine l_ldo 0 rfl rfl rfl (by kernel_rfl) rfl ?_
    refine l_lss rfl rfl rfl ?_
    refine l_end ?_
    refine c_dec rfl (fun c6 => ?_) (fun c6 => ?_)
    ·
      refine c_reg ?_
      refine l_mv rfl ?_
      refine l_fld (o := 0) rfl (by kernel_rfl) rfl ?_
      refine l_ldo 0 rfl rfl rfl (by kernel_rfl) rfl ?_
      refine l_fld (o := 1) rfl (by kernel_rfl) rfl ?_
      refine l_ldo 0 rfl rfl rfl (by kernel_rfl) rfl ?_
      refine l_add rfl rfl (wu64 (by omega)) rfl ?_
      refine l_call (by kernel_rfl) rfl rfl (fun w' hw => ?_)
      refine (find_spec c m (putR r rs) r.session (r.seq + 1) w' (hw.holds 1 _ rfl)).mono ?_
      rintro _ w1 ⟨rfl, hO⟩
      rw [show findR (putR r rs) r.session (r.seq + 1) = (repZ, 8) by rw [findR_put hs _ (by omega), if_pos (by omega)]]
      refine (?_ : CL _ _ _ _ _ _ (Own w [] _)) w1 (hw.frame0 hO)
      refine l_mv rfl ?_
      refine l_ext (vs := [repV repZ, .int .i64 8]) rfl rfl rfl ?_
      refine l_ext (vs := [repV repZ, .int .i64 8]) rfl rfl rfl ?_
      refine l_new (v := .agg #[.int .u64 0, .int .u64 0, .int .i64 0, .int .u64 0, .int .i64 0, .int .i64 0]) (by kernel_rfl) rfl (fun b16 => ?_)
      refine l_stN (vs := repZ.cells) 2 rfl rfl rfl (by kernel_rfl) (by simp [repZ, RepD.cells, vu, cell1]) (by simp [repV, Value.cells, RepD.cells]) ?_
      refine l_as rfl ?_
      refine l_end ?_
      refine c_reg ?_
      refine l_mv rfl ?_
      refine l_ne rfl rfl rfl ?_
      refine l_end ?_
      refine c_no rfl ?_
      refine c_skipC ?_
      refine c_reg ?_
      refine l_as rfl ?_
      refine l_end ?_
      exact c_ret (ret1 rfl rfl (fun w' hw => ⟨rfl, hw.drop⟩))
    ·
      refine c_skipC ?_
      refine c_reg ?_
      refine l_as rfl ?_
      refine l_end ?_
      exact c_ret (ret1 rfl rfl (fun w' hw => ⟨rfl, hw.drop⟩))

end Go.Proofs.Ytokbpgipdcfakaa
