/-
  THE WALKS OF dedup: New, Find, Done.
-/
import Derived.Test.YtokbpgipdcfakaaReply
set_option linter.unusedVariables false
set_option maxRecDepth 10000
namespace Go.Proofs.Ytokbpgipdcfakaa
open Go Go.Sc Go.Proofs

abbrev TCalls : Nat := 56
def repV (r : RepD) : Value := .agg r.cells.toArray
def repZ : RepD := ⟨0, 0, 0, 0, 0, 0⟩
def callsKV (rs : List RepD) : List (Nat × Value) := rs.map fun r => (r.session, repV r)
/-- The calls at c, whose map is m, are rs, in the order of their coming. -/
def Res.calls (c m : Nat) (rs : List RepD) : Res := (Res.row c TCalls [.map (some m)]).both (Res.map vu m (callsKV rs))
theorem keyU : KeyL Try.prog 23 vu := keyL_nat (q := .u64) (by kernel_rfl)
theorem mapCalls : mapT Try.prog 54 = some (23, 26) := by kernel_rfl
theorem zeroRep : zeroT Try.prog 26 = some (repV repZ) := by kernel_rfl

def findR (rs : List RepD) (s q : Nat) : RepD × Int :=
  if s = 0 ∨ q = 0 then (repZ, 1) else
  match rs.find? (fun r => s = r.session) with
  | none => if 32 ≤ rs.length then (repZ, 7) else (repZ, 8)
  | some r => if r.seq < q then (repZ, 8) else if q < r.seq then (repZ, 13) else (r, 0)
theorem getK_calls (s : Nat) : ∀ (rs : List RepD), getK s (callsKV rs) = (rs.find? (fun r => s = r.session)).map repV := by
  have : ∀ (rs : List RepD) (i : Nat), (idxK s (callsKV rs) i).map (·.2) = (rs.find? (fun r => s = r.session)).map repV := by
    intro rs
    induction rs with
    | nil => intro i; rfl
    | cons r rs ih =>
      intro i
      simp only [callsKV, List.map_cons, idxK, List.find?_cons]
      by_cases h : s = r.session
      · simp [h]
      · simp only [h, if_false, decide_false]
        exact ih (i + 1)
  exact fun rs => this rs 0

theorem new_spec (w : World) : Rets Try.prog 13 #[] w fun v w' => ∃ c m, v = .pointer (some ⟨c, 0, none⟩) ∧ Own w [] [Res.calls c m []] w' := by
  refine fn_enter (args := []) Try.func13 rfl Try.ntmps13 rfl (Own.start w) ?_
  refine c_reg ?_
  refine l_as rfl ?_
  refine l_end ?_
  refine c_reg ?_
  refine l_mkmap vu rfl rfl (fun m => ?_)
  refine l_bld (z := [.map none]) (pl := [(0, 1)]) (by kernel_rfl) rfl rfl ?_
  refine l_box rfl rfl (fun c => ?_)
  refine l_as rfl ?_
  refine l_end ?_
  exact c_ret (ret1 (v := .pointer (some ⟨c, 0, none⟩)) rfl rfl (fun w' hw => ⟨c, m, rfl, Own.joinBoth (i := 0) (j := 1) (L := [Res.row c TCalls [.map (some m)], Res.map vu m (callsKV [])]) (by decide) rfl rfl (hw.sel [1, 0] rfl (by decide))⟩))


set_option maxHeartbeats 1000000 in
theorem find_spec (c m : Nat) (rs : List RepD) (s q : Nat) (w : World) (hc : (Res.calls c m rs).φ w) :
    Rets Try.prog 10 #[.pointer (some ⟨c, 0, none⟩), vu s, vu q] w fun v w' => v = .tuple #[repV (findR rs s q).1, .int .i64 (findR rs s q).2] ∧ Own w [] [] w' := by
  obtain ⟨hrow, hmap, -⟩ := hc
  have hcell := hrow.cell (off := 0) rfl
  have hgk := getK_calls s rs
  have hbld : structT Try.prog 26 = some (repZ.cells, [(0, 1), (1, 1), (2, 1), (3, 1), (4, 1), (5, 1)]) := by kernel_rfl
  refine fn_enter (args := [.pointer (some ⟨c, 0, none⟩), vu s, vu q]) Try.func10 rfl Try.ntmps10 rfl (Own.start w) ?_
  refine c_reg ?_
  refine l_new (v := repV repZ) (by kernel_rfl) rfl (fun b6 => ?_)
  refine l_as rfl ?_
  refine l_end ?_
  refine c_seq ?_
  refine c_reg ?_
  refine l_mv rfl ?_
  refine l_nilp (by kernel_rfl) rfl rfl rfl ?_
  refine l_mv rfl ?_
  refine l_bor (q := False) 2 2 [14, 13] ((s : Int) = 0) rfl rfl rfl rfl rfl rfl trivial rfl (fun h1_2 => ?_) (fun g1_5 => ?_)
  · refine l_on rfl (gF h1_2) ?_
    refine l_mv rfl ?_
    refine l_on rfl (gF h1_2) ?_
    refine l_eq rfl rfl rfl ?_
    exact l_nil (fun w hw => ⟨by repeat (first | exact Out.refl _ _ | refine Out.upd rfl ?_ | refine Out.msk rfl ?_), rfl, hw⟩)
  refine l_mv rfl ?_
  refine l_bor 2 6 [18, 17] ((q : Int) = 0) rfl rfl rfl rfl rfl rfl trivial rfl (fun h1_6 => ?_) (fun g1_9 => ?_)
  · refine l_on rfl (gF h1_6) ?_
    refine l_mv rfl ?_
    refine l_on rfl (gF h1_6) ?_
    refine l_eq rfl rfl rfl ?_
    exact l_nil (fun w hw => ⟨by repeat (first | exact Out.refl _ _ | refine Out.upd rfl ?_ | refine Out.msk rfl ?_), rfl, hw⟩)
  refine l_end ?_
  refine c_dec rfl (fun c1 => ?_) (fun c1 => ?_)
  · have hR : findR rs s q = (repZ, 1) := by unfold findR; rw [if_pos (by simp only [false_or] at c1; omega)]
    rw [hR]
    refine c_reg ?_
    refine l_bld (cs := repZ.cells) hbld rfl rfl ?_
    refine l_stN (vs := repZ.cells) 0 rfl rfl rfl (by kernel_rfl) (by simp [repZ, RepD.cells, vu, cell1]) (by simp [repV, Value.cells]) ?_
    refine l_as rfl ?_
    refine l_end ?_
    exact c_ret (retc2 (cs := repZ.cells) rfl rfl rfl (by kernel_rfl) (Own.rowCells (i := 0) rfl) (fun w hw => ⟨rfl, hw.drop⟩))
  · have hsq : ¬ (s = 0 ∨ q = 0) := by simp only [false_or] at c1; omega
    refine c_skipC ?_
    refine c_reg ?_
    refine l_mv rfl ?_
    refine l_nck rfl rfl ?_
    refine l_fld (o := 0) rfl (by kernel_rfl) rfl ?_
    refine l_ldq rfl hcell (by simp) (by kernel_rfl) rfl ?_
    refine l_mv rfl ?_
    cases hfind : rs.find? (fun r => s = r.session) with
    | none =>
      rw [hfind] at hgk
      refine l_val rfl (v_lk2 hgk keyU mapCalls zeroRep rfl rfl (fun w' hw => hw.old (Res.map vu m (callsKV rs)) hmap (by simp))) ?_
      refine l_mv rfl ?_
      refine l_ext (vs := [repV repZ, .bool false]) rfl rfl rfl ?_
      refine l_ext (vs := [repV repZ, .bool false]) rfl rfl rfl ?_
      refine l_new (v := repV repZ) (by kernel_rfl) rfl (fun b8 => ?_)
      refine l_stN (vs := repZ.cells) 1 rfl rfl rfl (by kernel_rfl) (by simp [repZ, RepD.cells, vu, cell1]) (by simp [repV, Value.cells]) ?_
      refine l_as rfl ?_
      refine l_end ?_
      refine c_seq ?_
      refine c_block ?_
      refine c_reg ?_
      refine l_mv rfl ?_
      refine l_not rfl rfl ?_
      refine l_mv rfl ?_
      refine l_band (q := True) 6 2 [39, 38, 37, 36, 35, 34] ((32 : Int) ≤ rs.length) rfl rfl rfl rfl rfl rfl trivial rfl (fun h4_2 => ?_) (fun g4_9 => ?_)
      · refine l_on rfl (gT h4_2) ?_
        refine l_mv rfl ?_
        refine l_on rfl (gT h4_2) ?_
        refine l_nck rfl rfl ?_
        refine l_on rfl (gT h4_2) ?_
        refine l_fld (o := 0) rfl (by kernel_rfl) rfl ?_
        refine l_on rfl (gT h4_2) ?_
        refine l_ldq rfl hcell (by simp) (by kernel_rfl) rfl ?_
        refine l_on rfl (gT h4_2) ?_
        have hll : (callsKV rs).length = rs.length := by simp [callsKV]
        refine l_val rfl (v_mlen (ke := vu) mapCalls rfl (fun w' hw => hw.old (Res.map vu m (callsKV rs)) hmap (by simp))) ?_
        rw [hll]
        refine l_on rfl (gT h4_2) ?_
        refine l_geq rfl rfl rfl ?_
        exact l_nil (fun w hw => ⟨by repeat (first | exact Out.refl _ _ | refine Out.upd rfl ?_ | refine Out.msk rfl ?_), rfl, hw⟩)
      refine l_as rfl ?_
      refine l_end ?_
      refine c_dec rfl (fun c2 => ?_) (fun c2 => ?_)
      · have hR : findR rs s q = (repZ, 7) := by unfold findR; rw [if_neg hsq, hfind]; simp only; rw [if_pos (by simp only [true_and] at c2; omega)]
        rw [hR]
        refine c_reg ?_
        refine l_bld (cs := repZ.cells) hbld rfl rfl ?_
        refine l_stN (vs := repZ.cells) 0 rfl rfl rfl (by kernel_rfl) (by simp [repZ, RepD.cells, vu, cell1]) (by simp [repV, Value.cells]) ?_
        refine l_as rfl ?_
        refine l_end ?_
        exact c_ret (retc2 (cs := repZ.cells) rfl rfl rfl (by kernel_rfl) (Own.rowCells (i := 0) rfl) (fun w hw => ⟨rfl, hw.drop⟩))
      · have hR : findR rs s q = (repZ, 8) := by unfold findR; rw [if_neg hsq, hfind]; simp only; rw [if_neg (by simp only [true_and] at c2; omega)]
        rw [hR]
        refine c_reg ?_
        refine l_mv rfl ?_
        refine l_not rfl rfl ?_
        refine l_mv rfl ?_
        refine l_bor (q := True) 4 2 [49, 48, 47, 46] False rfl rfl rfl rfl rfl rfl trivial rfl (fun h6_2 => (h6_2 trivial).elim) (fun g6_7 => ?_)
        refine l_as rfl ?_
        refine l_end ?_
        refine c_yes rfl ?_
        refine c_reg ?_
        refine l_bld (cs := repZ.cells) hbld rfl rfl ?_
        refine l_stN (vs := repZ.cells) 0 rfl rfl rfl (by kernel_rfl) (by simp [repZ, RepD.cells, vu, cell1]) (by simp [repV, Value.cells]) ?_
        refine l_as rfl ?_
        refine l_end ?_
        exact c_ret (retc2 (cs := repZ.cells) rfl rfl rfl (by kernel_rfl) (Own.rowCells (i := 0) rfl) (fun w hw => ⟨rfl, hw.drop⟩))
    | some r =>
      rw [hfind] at hgk
      refine l_val rfl (v_lk2 hgk keyU mapCalls zeroRep rfl rfl (fun w' hw => hw.old (Res.map vu m (callsKV rs)) hmap (by simp))) ?_
      refine l_mv rfl ?_
      refine l_ext (vs := [repV r, .bool true]) rfl rfl rfl ?_
      refine l_ext (vs := [repV r, .bool true]) rfl rfl rfl ?_
      refine l_new (v := repV repZ) (by kernel_rfl) rfl (fun b8 => ?_)
      refine l_stN (vs := r.cells) 1 rfl rfl rfl (by kernel_rfl) (by simp [RepD.cells, vu, cell1]) (by simp [repV, Value.cells, RepD.cells]) ?_
      refine l_as rfl ?_
      refine l_end ?_
      refine c_seq ?_
      refine c_block ?_
      refine c_reg ?_
      refine l_mv rfl ?_
      refine l_not rfl rfl ?_
      refine l_mv rfl ?_
      refine l_band (q := False) 6 2 [39, 38, 37, 36, 35, 34] False rfl rfl rfl rfl rfl rfl trivial rfl (fun h4_2 => h4_2.elim) (fun g4_9 => ?_)
      refine l_as rfl ?_
      refine l_end ?_
      refine c_no rfl ?_
      refine c_reg ?_
      refine l_mv rfl ?_
      refine l_not rfl rfl ?_
      refine l_mv rfl ?_
      refine l_bor (q := False) 4 2 [49, 48, 47, 46] ((r.seq : Int) < q) rfl rfl rfl rfl rfl rfl trivial rfl (fun h6_2 => ?_) (fun g6_7 => ?_)
      · refine l_on rfl (gF h6_2) ?_
        refine l_mv rfl ?_
        refine l_on rfl (gF h6_2) ?_
        refine l_fld (o := 1) rfl (by kernel_rfl) rfl ?_
        refine l_on rfl (gF h6_2) ?_
        refine l_ldo 1 rfl rfl rfl (by kernel_rfl) rfl ?_
        refine l_on rfl (gF h6_2) ?_
        refine l_gtr rfl rfl rfl ?_
        exact l_nil (fun w hw => ⟨by repeat (first | exact Out.refl _ _ | refine Out.upd rfl ?_ | refine Out.msk rfl ?_), rfl, hw⟩)
      refine l_as rfl ?_
      refine l_end ?_
      refine c_dec rfl (fun c3 => ?_) (fun c3 => ?_)
      · have hR : findR rs s q = (repZ, 8) := by unfold findR; rw [if_neg hsq, hfind]; simp only; rw [if_pos (by simp only [false_or] at c3; omega)]
        rw [hR]
        refine c_reg ?_
        refine l_bld (cs := repZ.cells) hbld rfl rfl ?_
        refine l_stN (vs := repZ.cells) 0 rfl rfl rfl (by kernel_rfl) (by simp [repZ, RepD.cells, vu, cell1]) (by simp [repV, Value.cells]) ?_
        refine l_as rfl ?_
        refine l_end ?_
        exact c_ret (retc2 (cs := repZ.cells) rfl rfl rfl (by kernel_rfl) (Own.rowCells (i := 0) rfl) (fun w hw => ⟨rfl, hw.drop⟩))
      · refine c_reg ?_
        refine l_mv rfl ?_
        refine l_fld (o := 1) rfl (by kernel_rfl) rfl ?_
        refine l_ldo 1 rfl rfl rfl (by kernel_rfl) rfl ?_
        refine l_lss rfl rfl rfl ?_
        refine l_as rfl ?_
        refine l_end ?_
        refine c_dec rfl (fun c4 => ?_) (fun c4 => ?_)
        · have hR : findR rs s q = (repZ, 13) := by unfold findR; rw [if_neg hsq, hfind]; simp only; rw [if_neg (by simp only [false_or] at c3; omega), if_pos (by omega)]
          rw [hR]
          refine c_reg ?_
          refine l_bld (cs := repZ.cells) hbld rfl rfl ?_
          refine l_stN (vs := repZ.cells) 0 rfl rfl rfl (by kernel_rfl) (by simp [repZ, RepD.cells, vu, cell1]) (by simp [repV, Value.cells]) ?_
          refine l_as rfl ?_
          refine l_end ?_
          exact c_ret (retc2 (cs := repZ.cells) rfl rfl rfl (by kernel_rfl) (Own.rowCells (i := 0) rfl) (fun w hw => ⟨rfl, hw.drop⟩))
        · have hR : findR rs s q = (r, 0) := by unfold findR; rw [if_neg hsq, hfind]; simp only; rw [if_neg (by simp only [false_or] at c3; omega), if_neg (by omega)]
          rw [hR]
          refine c_skipC ?_
          refine c_reg ?_
          refine l_ldr (cs := r.cells) 1 rfl rfl (by kernel_rfl) rfl ?_
          refine l_stN (vs := r.cells) 0 rfl rfl rfl (by kernel_rfl) (by simp [RepD.cells, vu, cell1]) (by simp [repV, Value.cells, RepD.cells]) ?_
          refine l_as rfl ?_
          refine l_end ?_
          exact c_ret (retc2 (cs := r.cells) rfl rfl rfl (by kernel_rfl) (Own.rowCells (i := 0) rfl) (fun w hw => ⟨rfl, hw.drop⟩))

end Go.Proofs.Ytokbpgipdcfakaa
