/-
  THE WALKS OF the laws' act, grown and answers.
-/
import Derived.Test.YtokbpgipdcfakaaDedup3
set_option linter.unusedVariables false
set_option maxRecDepth 10000
namespace Go.Proofs.Ytokbpgipdcfakaa
open Go Go.Sc Go.Proofs

structure ActD where
  kind : Int
  r : RepD
def ActD.cells (a : ActD) : List Value := .int .i64 a.kind :: a.r.cells
abbrev Res.two (c m : Nat) (rs : List RepD) (d : Nat) (v : Value) (ws : List RepD) : Res := (Res.calls c m rs).both (Res.refc d v ws)
def actR (a : ActD) (rs ws : List RepD) : Bool × List RepD × List RepD :=
  if a.kind = 1 then (decide ((doneR rs a.r).1 = (rdoneR ws a.r).1), (doneR rs a.r).2, (rdoneR ws a.r).2)
  else (decide ((findR rs a.r.session a.r.seq).1 = (findR ws a.r.session a.r.seq).1 ∧ (findR rs a.r.session a.r.seq).2 = (findR ws a.r.session a.r.seq).2), rs, ws)

set_option maxHeartbeats 1000000 in
theorem act_spec (c m : Nat) (rs : List RepD) (d : Nat) (v : Value) (ws : List RepD) (a : ActD) (hr : a.r.wf) (hb : ws.length ≤ 1000000) (w : World) (hc : (Res.two c m rs d v ws).φ w) :
    Rets Try.prog 16 #[.pointer (some ⟨c, 0, none⟩), .pointer (some ⟨d, 0, none⟩), .agg a.cells.toArray] w fun u w' => u = .bool (actR a rs ws).1 ∧ ∃ v', Own w (([c] ++ [m]) ++ ([d] ++ blkS v)) [Res.two c m (actR a rs ws).2.1 d v' (actR a rs ws).2.2] w' := by
  have hst : Own w (([c] ++ [m]) ++ ([d] ++ blkS v)) [Res.calls c m rs, Res.refc d v ws] w := Own.splitBoth (i := 0) rfl (Own.start1 hc)
  refine fn_enter (args := [.pointer (some ⟨c, 0, none⟩), .pointer (some ⟨d, 0, none⟩), .agg a.cells.toArray]) Try.func16 rfl Try.ntmps16 rfl hst ?_
  refine c_reg ?_
  refine l_box rfl rfl (fun b5 => ?_)
  refine l_as rfl ?_
  refine l_end ?_
  refine c_seq ?_
  refine c_reg ?_
  refine l_fld (o := 0) rfl (by kernel_rfl) rfl ?_
  refine l_ldo 2 rfl rfl rfl (by kernel_rfl) rfl ?_
  refine l_eq rfl rfl rfl ?_
  refine l_end ?_
  refine c_dec rfl (fun c1 => ?_) (fun c1 => ?_)
  ·
    have hR : actR a rs ws = (decide ((doneR rs a.r).1 = (rdoneR ws a.r).1), (doneR rs a.r).2, (rdoneR ws a.r).2) := by unfold actR; rw [if_pos c1]
    rw [hR]
    refine c_seq ?_
    refine c_held (fun w' => (∀ i u, a.cells[i]? = some u → w'.cell? ⟨b5, 0 + i, none⟩ = some u)) (by kernel_rfl) (fun w' hw => (fun (hw : Own w (([c] ++ [m]) ++ ([d] ++ blkS v)) _ _) => Own.rowCells (cs := a.cells) (i := 2) rfl _ hw) hw.drawn) (fun w' hw => ?_)
    replace hw := hw.drawn
    have hS := Own.rowCells (cs := a.cells) (i := 2) rfl _ hw
    refine h_take 0 rfl (by kernel_rfl) (by kernel_rfl) (by kernel_rfl) (v_mv) rfl hS ?_
    refine h_take 1 rfl (by kernel_rfl) (by kernel_rfl) (by kernel_rfl) (v_fld (o := 1) rfl (by kernel_rfl)) rfl hS ?_
    refine h_take 2 rfl (by kernel_rfl) (by kernel_rfl) (by kernel_rfl) (v_ldN (cs := a.r.cells) rfl (by kernel_rfl) (fun w h i u hu => (by have := h (i + 1) u hu; rwa [Nat.zero_add, Nat.add_comm i 1] at this))) rfl hS ?_
    refine h_take 4 rfl (by kernel_rfl) (by kernel_rfl) (by kernel_rfl) (v_mv) rfl hS ?_
    refine h_take 5 rfl (by kernel_rfl) (by kernel_rfl) (by kernel_rfl) (v_fld (o := 1) rfl (by kernel_rfl)) rfl hS ?_
    refine h_take 6 rfl (by kernel_rfl) (by kernel_rfl) (by kernel_rfl) (v_ldN (cs := a.r.cells) rfl (by kernel_rfl) (fun w h i u hu => (by have := h (i + 1) u hu; rwa [Nat.zero_add, Nat.add_comm i 1] at this))) rfl hS ?_
    refine h_call 3 (by kernel_rfl) rfl (by kernel_rfl) rfl rfl ?_
    refine (done_spec c m rs a.r hr _ (hw.holds 0 _ rfl)).mono ?_
    rintro _ w1 ⟨rfl, hO⟩
    replace hw := hw.frame1 (i := 0) rfl hO
    replace hS := Own.rowCells (cs := a.cells) (i := 2) rfl _ hw
    refine ⟨hS, ?_⟩
    refine h_call 7 (by kernel_rfl) rfl (by kernel_rfl) rfl rfl ?_
    refine (rdone_spec d v ws a.r hb _ (hw.holds 1 _ rfl)).mono ?_
    rintro _ w1 ⟨rfl, v', hO⟩
    replace hw := hw.frame1 (i := 1) rfl hO
    replace hS := Own.rowCells (cs := a.cells) (i := 2) rfl _ hw
    refine ⟨hS, ?_⟩
    refine h_take 8 rfl (by kernel_rfl) (by kernel_rfl) (by kernel_rfl) (v_eq rfl rfl) rfl hS ?_
    refine h_take 9 rfl (by kernel_rfl) (by kernel_rfl) (by kernel_rfl) (v_as) rfl hS ?_
    refine h_done (by kernel_rfl) ?_
    refine (?_ : C _ _ _ _ _ _ _ (Own w (([c] ++ [m]) ++ ([d] ++ blkS v)) _)) _ hw
    exact c_ret (ret1 rfl rfl (fun w' hw => ⟨rfl, v', Own.joinBoth (L := [Res.calls c m _, Res.refc d v' _]) (i := 0) (j := 1) (by decide) rfl rfl (hw.sel [0, 1] rfl (by decide))⟩))
  ·
    have hR : actR a rs ws = (decide ((findR rs a.r.session a.r.seq).1 = (findR ws a.r.session a.r.seq).1 ∧ (findR rs a.r.session a.r.seq).2 = (findR ws a.r.session a.r.seq).2), rs, ws) := by unfold actR; rw [if_neg c1]
    rw [hR]
    refine c_skipC ?_
    refine c_reg ?_
    refine l_mv rfl ?_
    refine l_fld (o := 1) rfl (by kernel_rfl) rfl ?_
    refine l_fld (o := 0) rfl (by kernel_rfl) rfl ?_
    refine l_ldo 2 rfl rfl rfl (by kernel_rfl) rfl ?_
    refine l_fld (o := 1) rfl (by kernel_rfl) rfl ?_
    refine l_fld (o := 1) rfl (by kernel_rfl) rfl ?_
    refine l_ldo 2 rfl rfl rfl (by kernel_rfl) rfl ?_
    refine l_call (by kernel_rfl) rfl rfl (fun w' hw => ?_)
    refine (find_spec c m rs a.r.session a.r.seq w' (hw.holds 0 _ rfl)).mono ?_
    rintro _ w1 ⟨rfl, hO⟩
    refine (?_ : CL _ _ _ _ _ _ (Own w (([c] ++ [m]) ++ ([d] ++ blkS v)) _)) w1 (hw.frame0 hO)
    refine l_mv rfl ?_
    refine l_ext (vs := [repV (findR rs a.r.session a.r.seq).1, .int .i64 (findR rs a.r.session a.r.seq).2]) rfl rfl rfl ?_
    refine l_ext (vs := [repV (findR rs a.r.session a.r.seq).1, .int .i64 (findR rs a.r.session a.r.seq).2]) rfl rfl rfl ?_
    refine l_new (v := .agg #[.int .u64 0, .int .u64 0, .int .i64 0, .int .u64 0, .int .i64 0, .int .i64 0]) (by kernel_rfl) rfl (fun b7 => ?_)
    refine l_stN (vs := (findR rs a.r.session a.r.seq).1.cells) 3 rfl rfl rfl (by kernel_rfl) (by simp [RepD.cells, vu, cell1]) (by simp [repV, Value.cells, RepD.cells]) ?_
    refine l_as rfl ?_
    refine l_end ?_
    refine c_reg ?_
    refine l_mv rfl ?_
    refine l_fld (o := 1) rfl (by kernel_rfl) rfl ?_
    refine l_fld (o := 0) rfl (by kernel_rfl) rfl ?_
    refine l_ldo 2 rfl rfl rfl (by kernel_rfl) rfl ?_
    refine l_fld (o := 1) rfl (by kernel_rfl) rfl ?_
    refine l_fld (o := 1) rfl (by kernel_rfl) rfl ?_
    refine l_ldo 2 rfl rfl rfl (by kernel_rfl) rfl ?_
    refine l_call (by kernel_rfl) rfl rfl (fun w' hw => ?_)
    refine (rfind_spec d v ws a.r.session a.r.seq w' (hw.holds 1 _ rfl)).mono ?_
    rintro _ w1 ⟨rfl, hO⟩
    refine (?_ : CL _ _ _ _ _ _ (Own w (([c] ++ [m]) ++ ([d] ++ blkS v)) _)) w1 (hw.frame0 hO)
    refine l_mv rfl ?_
    refine l_ext (vs := [repV (findR ws a.r.session a.r.seq).1, .int .i64 (findR ws a.r.session a.r.seq).2]) rfl rfl rfl ?_
    refine l_ext (vs := [repV (findR ws a.r.session a.r.seq).1, .int .i64 (findR ws a.r.session a.r.seq).2]) rfl rfl rfl ?_
    refine l_new (v := .agg #[.int .u64 0, .int .u64 0, .int .i64 0, .int .u64 0, .int .i64 0, .int .i64 0]) (by kernel_rfl) rfl (fun b9 => ?_)
    refine l_stN (vs := (findR ws a.r.session a.r.seq).1.cells) 4 rfl rfl rfl (by kernel_rfl) (by simp [RepD.cells, vu, cell1]) (by simp [repV, Value.cells, RepD.cells]) ?_
    refine l_as rfl ?_
    refine l_end ?_
    refine c_reg ?_
    refine l_ldr (cs := (findR rs a.r.session a.r.seq).1.cells) 3 rfl rfl (by kernel_rfl) rfl ?_
    refine l_ldr (cs := (findR ws a.r.session a.r.seq).1.cells) 4 rfl rfl (by kernel_rfl) rfl ?_
    refine l_val rfl (v_stp (repEq (findR rs a.r.session a.r.seq).1 (findR ws a.r.session a.r.seq).1) (by kernel_rfl) (by kernel_rfl) rfl rfl rfl rfl) ?_
    refine l_mv rfl ?_
    refine l_band 3 3 [51, 50, 49] (((findR rs a.r.session a.r.seq).2 = (findR ws a.r.session a.r.seq).2)) rfl rfl rfl rfl rfl rfl trivial rfl (fun h5_3 => ?_) (fun g5_7 => ?_)
    ·
      refine l_on rfl (gT h5_3) ?_
      refine l_mv rfl ?_
      refine l_on rfl (gT h5_3) ?_
      refine l_mv rfl ?_
      refine l_on rfl (gT h5_3) ?_
      refine l_eq rfl rfl rfl ?_
      exact l_nil (fun w' hw => ⟨(by repeat (first | exact Out.refl _ _ | refine Out.upd rfl ?_ | refine Out.msk rfl ?_)), rfl, hw⟩)
    refine l_as rfl ?_
    refine l_end ?_
    exact c_ret (ret1 rfl rfl (fun w' hw => ⟨rfl, v, Own.joinBoth (L := [Res.calls c m _, Res.refc d v _]) (i := 0) (j := 1) (by decide) rfl rfl (hw.sel [0, 1] rfl (by decide))⟩))

def growR (acts : List ActD) (st : List RepD × List RepD) : List RepD × List RepD := acts.foldl (fun st a => (actR a st.1 st.2).2) st
theorem act_len (a : ActD) (rs ws : List RepD) : (actR a rs ws).2.2.length ≤ ws.length + 1 := by
  unfold actR
  split
  · show (rdoneR ws a.r).2.length ≤ _
    unfold rdoneR
    have := insR_len a.r ws
    repeat' split
    all_goals dsimp only
    all_goals omega
  · show ws.length ≤ _
    omega

set_option maxHeartbeats 1000000 in
theorem grown_spec (va : Value) (acts : List ActD) (hwf : ∀ a ∈ acts, a.r.wf) (w : World) (hsl : Sl w va acts.length (acts.flatMap ActD.cells)) :
    Rets Try.prog 7 #[va] w fun u w' => ∃ c m d v, u = .tuple #[.pointer (some ⟨c, 0, none⟩), .pointer (some ⟨d, 0, none⟩)] ∧ Own w [] [Res.two c m (growR (acts.take 200) ([], [])).1 d v (growR (acts.take 200) ([], [])).2] w' ∧ (growR (acts.take 200) ([], [])).2.length ≤ 200 := by
  obtain ⟨a, cap, rfl, hnc, hcap, ha⟩ := hsl.shape
  refine fn_enter (args := [.slice a acts.length cap]) Try.func7 rfl Try.ntmps7 rfl (Own.start w) ?_
  refine c_reg ?_
  refine l_as rfl ?_
  refine l_as rfl ?_
  refine l_end ?_
  refine c_reg ?_
  refine l_call (by kernel_rfl) rfl rfl (fun w' hw => ?_)
  refine (new_spec w').mono ?_
  rintro _ w1 ⟨c, m, rfl, hO⟩
  refine (?_ : CL _ _ _ _ _ _ (Own w [] _)) w1 (hw.frame0 hO)
  refine l_bld (z := [.slice none 0 0]) (pl := [(0, 1)]) (by kernel_rfl) rfl rfl ?_
  refine l_box rfl rfl (fun b9 => ?_)
  refine l_as rfl ?_
  refine l_as rfl ?_
  refine l_end ?_
  refine c_seq ?_
  refine c_addnil 26 6 ?_
  refine c_reg ?_
  refine l_as rfl ?_
  refine l_end ?_
  refine c_block ?_
  refine c_loop4 (fun (k : Nat) (v : Value) (rs : List RepD) (ws : List RepD) => [(0, .slice a acts.length cap), (4, .pointer (some ⟨c, 0, none⟩)), (5, .pointer (some ⟨b9, 0, none⟩)), (6, .int .i64 k)]) (fun (k : Nat) (v : Value) (rs : List RepD) (ws : List RepD) => (k ≤ acts.length ∧ k ≤ 200) ∧ growR (acts.take k) ([], []) = (rs, ws) ∧ ws.length ≤ k) (fun (k : Nat) (v : Value) (rs : List RepD) (ws : List RepD) => [Res.two c m rs b9 v ws]) (fun (k : Nat) (v : Value) (rs : List RepD) (ws : List RepD) => 200 - k) (fun w' hw => ⟨0, .slice none 0 0, [], [], ⟨rfl, rfl, rfl, rfl, trivial⟩, ⟨⟨by omega, by omega⟩, rfl, Nat.le_refl _⟩, Own.joinBoth (L := [Res.calls c m [], Res.refc b9 (.slice none 0 0) []]) (i := 0) (j := 1) (by decide) rfl rfl (Own.joinBoth (L := [Res.calls c m [], Res.row b9 TRefc [.slice none 0 0], Res.sl (.slice none 0 0) 0 []]) (i := 1) (j := 2) (by decide) rfl rfl (hw.vecSl (i := 2) rfl))⟩) (fun k v rs ws g hΦ => ?_)
  obtain ⟨⟨hk1, hk2⟩, hk3, hk4⟩ := hΦ
  refine c_seq ?_
  refine c_reg ?_
  refine l_mv rfl ?_
  refine l_mv rfl ?_
  refine l_len (by kernel_rfl) rfl rfl ?_
  refine l_lss rfl rfl rfl ?_
  refine l_mv rfl ?_
  refine l_band 2 4 [16, 15] (((k : Int) < 200)) rfl rfl rfl rfl rfl rfl trivial rfl (fun h3_4 => ?_) (fun g3_7 => ?_)
  ·
    refine l_on rfl (gT h3_4) ?_
    refine l_mv rfl ?_
    refine l_on rfl (gT h3_4) ?_
    refine l_lss rfl rfl rfl ?_
    exact l_nil (fun w' hw => ⟨(by repeat (first | exact Out.refl _ _ | refine Out.upd rfl ?_ | refine Out.msk rfl ?_)), rfl, hw⟩)
  refine l_mv rfl ?_
  refine l_band 2 8 [20, 19] (True) rfl rfl rfl rfl rfl rfl trivial rfl (fun h3_8 => ?_) (fun g3_11 => ?_)
  ·
    refine l_on rfl (gT h3_8) ?_
    refine l_mv rfl ?_
    refine l_on rfl (gT h3_8) ?_
    refine l_nilnp (by kernel_rfl) rfl rfl rfl ?_
    exact l_nil (fun w' hw => ⟨(by repeat (first | exact Out.refl _ _ | refine Out.upd rfl ?_ | refine Out.msk rfl ?_)), rfl, hw⟩)
  refine l_end ?_
  refine c_dec rfl (fun c1 => ?_) (fun c1 => ?_)
  ·
    have hk : k < acts.length := by omega
    obtain ⟨x, hx⟩ : ∃ x, acts[k]? = some x := ⟨_, List.getElem?_eq_getElem hk⟩
    obtain ⟨b, off, rfl⟩ := ha (by omega)
    have hel := hsl.elt (g := ActD.cells) (sz := 7) (fun _ => rfl) hx
    refine c_skipC ?_
    refine c_seq ?_
    refine c_block ?_
    refine c_last ?_
    refine l_mv rfl ?_
    refine l_mv rfl ?_
    refine l_mv rfl ?_
    refine l_mv rfl ?_
    refine l_idx (sz := 7) rfl rfl (by kernel_rfl) rfl hk rfl ?_
    refine l_ldqN rfl (by kernel_rfl) hel (by simp) rfl ?_
    refine l_call (by kernel_rfl) rfl rfl (fun w' hw => ?_)
    refine (act_spec c m rs b9 v ws x (hwf x (List.mem_of_getElem? hx)) (by omega) w' (hw.holds 0 _ rfl)).mono ?_
    rintro _ w1 ⟨rfl, v', hO⟩
    refine (?_ : CL _ _ _ _ _ _ (Own w [] _)) w1 (hw.frame1 (i := 0) rfl hO)
    refine l_end ?_
    refine c_last ?_
    refine l_mv rfl ?_
    refine l_add rfl rfl (wi64 (by omega)) rfl ?_
    refine l_as rfl ?_
    exact l_nil (fun w' hw => ⟨k + 1, v', _, _, ⟨rfl, rfl, rfl, rfl, trivial⟩, ⟨⟨hk, by omega⟩, by rw [take_at hx]; unfold growR at hk3 ⊢; rw [List.foldl_append, hk3]; rfl, by have := act_len x rs ws; omega⟩, hw, by omega⟩)
  ·
    have hT : acts.take k = acts.take 200 := by
      rcases Nat.lt_or_ge k 200 with h | h
      · rw [List.take_of_length_le (by simp at c1; omega), List.take_of_length_le (by simp at c1; omega)]
      · rw [show k = 200 by omega]
    rw [hT] at hk3
    rw [hk3]
    refine c_exitC rfl ?_
    refine c_reg ?_
    refine l_mv rfl ?_
    refine l_mv rfl ?_
    refine l_as rfl ?_
    refine l_as rfl ?_
    refine l_end ?_
    exact c_ret (ret2 rfl rfl rfl (fun w' hw => ⟨c, m, b9, v, rfl, hw, by show ws.length ≤ 200; omega⟩))

def repA : RepD := ⟨1, 3, 0, 0, 7, 0⟩
theorem answers_spec (w : World) : Rets Try.prog 8 #[] w fun u w' => u = .bool true ∧ Own w [] [] w' := by
  have hA : doneR [] repA = (0, [repA]) := by decide
  have hF : findR [repA] 1 3 = (repA, 0) := by decide
  refine fn_enter (args := []) Try.func8 rfl Try.ntmps8 rfl (Own.start w) ?_
  refine c_reg ?_
  refine l_as rfl ?_
  refine l_end ?_
  refine c_reg ?_
  refine l_call (by kernel_rfl) rfl rfl (fun w' hw => ?_)
  refine (new_spec w').mono ?_
  rintro _ w1 ⟨c, m, rfl, hO⟩
  refine (?_ : CL _ _ _ _ _ _ (Own w [] _)) w1 (hw.frame0 hO)
  refine l_as rfl ?_
  refine l_end ?_
  refine c_seq ?_
  refine c_reg ?_
  refine l_mv rfl ?_
  refine l_nilp (by kernel_rfl) rfl rfl rfl ?_
  refine l_end ?_
  refine c_no rfl ?_
  refine c_skipC ?_
  refine c_reg ?_
  refine l_mv rfl ?_
  refine l_bld (cs := repA.cells) (z := [.int .u64 0, .int .u64 0, .int .i64 0, .int .u64 0, .int .i64 0, .int .i64 0]) (pl := [(0, 1), (1, 1), (2, 1), (3, 1), (4, 1), (5, 1)]) (by kernel_rfl) rfl rfl ?_
  refine l_call (by kernel_rfl) rfl rfl (fun w' hw => ?_)
  refine (done_spec c m [] repA (by constructor <;> simp [isU, isI, repA]) w' (hw.holds 0 _ rfl)).mono ?_
  rintro _ w1 ⟨rfl, hO⟩
  rw [hA] at hO ⊢
  refine (?_ : CL _ _ _ _ _ _ (Own w [] _)) w1 (hw.frame1 (i := 0) rfl hO)
  refine l_as rfl ?_
  refine l_end ?_
  refine c_reg ?_
  refine l_mv rfl ?_
  refine l_call (by kernel_rfl) rfl rfl (fun w' hw => ?_)
  refine (find_spec c m [repA] 1 3 w' (hw.holds 0 _ rfl)).mono ?_
  rintro _ w1 ⟨rfl, hO⟩
  rw [hF]
  refine (?_ : CL _ _ _ _ _ _ (Own w [] _)) w1 (hw.frame0 hO)
  refine l_mv rfl ?_
  refine l_ext (vs := [repV repA, .int .i64 0]) rfl rfl rfl ?_
  refine l_ext (vs := [repV repA, .int .i64 0]) rfl rfl rfl ?_
  refine l_new (v := .agg #[.int .u64 0, .int .u64 0, .int .i64 0, .int .u64 0, .int .i64 0, .int .i64 0]) (by kernel_rfl) rfl (fun b3 => ?_)
  refine l_stN (vs := repA.cells) 1 rfl rfl rfl (by kernel_rfl) (by simp [repA, RepD.cells, vu, cell1]) (by simp [repV, Value.cells, RepD.cells]) ?_
  refine l_as rfl ?_
  refine l_end ?_
  refine c_reg ?_
  refine l_mv rfl ?_
  refine l_eq rfl rfl rfl ?_
  refine l_mv rfl ?_
  refine l_band 2 2 [20, 19] (((0 : Int) = 0)) rfl rfl rfl rfl rfl rfl trivial rfl (fun h6_2 => ?_) (fun g6_5 => ?_)
  ·
    refine l_on rfl (gT h6_2) ?_
    refine l_mv rfl ?_
    refine l_on rfl (gT h6_2) ?_
    refine l_eq rfl rfl rfl ?_
    exact l_nil (fun w' hw => ⟨(by repeat (first | exact Out.refl _ _ | refine Out.upd rfl ?_ | refine Out.msk rfl ?_)), rfl, hw⟩)
  refine l_mv rfl ?_
  refine l_band 3 6 [25, 24, 23] (((7 : Int) = 7)) rfl rfl rfl rfl rfl rfl trivial rfl (fun h6_6 => ?_) (fun g6_10 => ?_)
  ·
    refine l_on rfl (gT h6_6) ?_
    refine l_fld (o := 4) rfl (by kernel_rfl) rfl ?_
    refine l_on rfl (gT h6_6) ?_
    refine l_ldo 1 rfl rfl rfl (by kernel_rfl) rfl ?_
    refine l_on rfl (gT h6_6) ?_
    refine l_eq rfl rfl rfl ?_
    exact l_nil (fun w' hw => ⟨(by repeat (first | exact Out.refl _ _ | refine Out.upd rfl ?_ | refine Out.msk rfl ?_)), rfl, hw⟩)
  refine l_as rfl ?_
  refine l_end ?_
  exact c_ret (ret1 rfl rfl (fun w' hw => ⟨rfl, hw.drop⟩))

end Go.Proofs.Ytokbpgipdcfakaa
