/-
  THE WALKS OF a configuration's bytes and error; who votes, who is a member, who is a majority: the program's and the reference's.
-/
import Derived.Test.YtniiobmkcbeknaaOutS
import Derived.Test.YtniiobmkcbeknaaConfA
set_option linter.unusedVariables false
set_option maxRecDepth 10000
namespace Go.Proofs.Ytniiobmkcbeknaa
open Go Go.Sc Go.Proofs

def ConfD.enc (c : ConfD) : List UInt8 := idsB c.vs ++ idsB c.ls
/-- Few enough to be written. -/
structure ConfD.few (c : ConfD) : Prop where
  vs : c.vs.length ≤ 1000000000
  ls : c.ls.length ≤ 1000000000
theorem ConfD.few.wf {c : ConfD} (h : c.few) : c.wf := ⟨by have := h.vs; show _ ≤ _; omega, by have := h.ls; show _ ≤ _; omega⟩
theorem u64_sub {ns : List Int} : ∀ n ∈ ns.map u64, n < 18446744073709551616 := fun n hn => by obtain ⟨a, _, rfl⟩ := List.mem_map.1 hn; exact u64_lt a
theorem idsB_length (ns : List Int) : (idsB ns).length ≤ 9 * (ns.length + 1) := by
  have := numsB_length (ns := u64 ns.length :: ns.map u64) (by intro n hn; rcases List.mem_cons.1 hn with rfl | h; exact u64_lt _; exact u64_sub n h)
  simpa [idsB] using this

theorem clone_s (v : Value) (l : List Int) (w : World) (hl : LenOk l.length) (hv : Rd w [] (Res.sl v l.length (l.flatMap I1))) : Rets Try.prog 37 #[v] w fun u_ w' => ∃ (r : Value), u_ = r ∧ Own w [] [Res.vec 3 1 r l.length (l.flatMap I1)] w' := by
  refine fn_enter (args := [v]) Try.func37 rfl Try.ntmps37 rfl (Own.start w) ?_
  refine c_reg ?_
  refine l_as rfl ?_
  refine l_end ?_
  refine c_seq ?_
  refine c_reg ?_
  refine l_mv rfl ?_
  refine l_nilsS (len := l.length) (cs := (l.flatMap I1)) (by kernel_rfl) rfl rfl (fun w' hw' => Own.rd hv hw') rfl ?_
  refine l_end ?_
  refine c_if rfl (fun c1 => ?_) (fun c1 => ?_)
  ·
    refine c_reg ?_
    refine l_as rfl ?_
    refine l_end ?_
    exact c_ret (ret1 (v := .slice none 0 0) rfl rfl (fun w' hw => ⟨.slice none 0 0, rfl, by obtain ⟨_, h0⟩ := Sl.isNil hv.φ c1; rw [List.eq_nil_of_length_eq_zero h0]; exact own_nil hw 3 1⟩))
  ·
    refine c_skipC ?_
    refine c_reg ?_
    refine l_bsl (e := 3) (sz := 1) (vs := []) (by kernel_rfl) rfl rfl (by simp [Value.cells]) (by decide) rfl (fun b5 => ?_)
    refine l_mv rfl ?_
    refine l_appF (g := I1) (sz := 1) (by' := 8) (fun _ => rfl) (l := []) (l' := l) (by simp [cell1, I1]) 0 (by kernel_rfl) rfl rfl rfl (fun w' hw' => Own.rd hv hw') (by first | omega | (simp; omega)) (by decide) rfl (fun v7 => ?_)
    refine l_as rfl ?_
    refine l_end ?_
    exact c_ret (ret1 (v := v7) rfl rfl (fun w' hw => ⟨v7, rfl, hw⟩))

theorem ownConf_s (c : ConfD) (w : World) (hc : c.wf) (rd_c : ConfD.rd c w []) : Rets Try.prog 10 #[.agg (ConfD.cells c).toArray] w fun u_ w' => ∃ (a : Value) (b : Value), u_ = .agg #[a, b] ∧ Own w [] [Res.vec 3 1 a c.vs.length (c.vs.flatMap I1), Res.vec 3 1 b c.ls.length (c.ls.flatMap I1)] w' := by
  have hv := hc.vs
  have hl := hc.ls
  refine fn_enter (args := [.agg (ConfD.cells c).toArray]) Try.func10 rfl Try.ntmps10 rfl (Own.start w) ?_
  refine c_reg ?_
  refine l_box rfl rfl (fun b1 => ?_)
  refine l_new (v := .agg #[.slice none 0 0, .slice none 0 0]) (by kernel_rfl) rfl (fun b2 => ?_)
  refine l_end ?_
  refine c_seq ?_
  refine c_heldo [0] rfl (by decide) (by kernel_rfl) (fun w' hw hS => ?_)
  refine h_take 1 rfl (by kernel_rfl) (by kernel_rfl) (by kernel_rfl) (v_fld (o := 0) rfl (by kernel_rfl)) rfl hS ?_
  refine h_take 2 rfl (by kernel_rfl) (by kernel_rfl) (by kernel_rfl) (v_ldo 0 (v := c.vv) rfl rfl rfl (by kernel_rfl)) rfl hS ?_
  refine h_take 5 rfl (by kernel_rfl) (by kernel_rfl) (by kernel_rfl) (v_fld (o := 1) rfl (by kernel_rfl)) rfl hS ?_
  refine h_take 6 rfl (by kernel_rfl) (by kernel_rfl) (by kernel_rfl) (v_ldo 0 (v := c.lv) rfl rfl rfl (by kernel_rfl)) rfl hS ?_
  refine h_pick2 (i := 0) (j := 4) (by kernel_rfl) ?_ ?_
  ·
    refine pk_of 0 rfl hw ?_
    refine l_bsl (e := 3) (sz := 1) (vs := []) (by kernel_rfl) rfl rfl (by simp [Value.cells]) (by decide) rfl (fun b3 => ?_)
    refine l_nil (fun w' hw => ?_)
    have hS := hw.sel [0] rfl (by decide)
    refine ⟨hS, ?_⟩
    refine h_pick2 (i := 3) (j := 4) (by kernel_rfl) ?_ ?_
    ·
      refine pk_of 3 rfl hw ?_
      refine l_appF (g := I1) (sz := 1) (by' := 8) (fun _ => rfl) (l := []) (l' := c.vs) (by simp [cell1, I1]) 2 (by kernel_rfl) rfl rfl rfl (fun w' hw' => Own.rd rd_c.vv hw') (by first | omega | (simp; omega)) (by decide) rfl (fun v6 => ?_)
      refine l_nil (fun w' hw => ?_)
      have hS := hw.sel [0] rfl (by decide)
      refine ⟨hS, ?_⟩
      refine h_one 4 (by kernel_rfl) rfl hw ?_
      refine l_bsl (e := 3) (sz := 1) (vs := []) (by kernel_rfl) rfl rfl (by simp [Value.cells]) (by decide) rfl (fun b7 => ?_)
      refine l_nil (fun w' hw => ?_)
      have hS := hw.sel [0] rfl (by decide)
      refine ⟨hS, ?_⟩
      refine h_one 7 (by kernel_rfl) rfl hw ?_
      refine l_appF (g := I1) (sz := 1) (by' := 8) (fun _ => rfl) (l := []) (l' := c.ls) (by simp [cell1, I1]) 3 (by kernel_rfl) rfl rfl rfl (fun w' hw' => Own.rd rd_c.lv hw') (by first | omega | (simp; omega)) (by decide) rfl (fun v10 => ?_)
      refine l_nil (fun w' hw => ?_)
      have hS := hw.sel [0] rfl (by decide)
      refine ⟨hS, ?_⟩
      refine h_one 8 (by kernel_rfl) rfl hw ?_
      refine l_haveO (fun w' hw => Own.cell1Vec (i := 2) rfl hw) (fun hc3_ => ?_)
      refine l_haveO (fun w' hw => Own.cell1Vec (i := 3) rfl hw) (fun hc4_ => ?_)
      refine l_bldc (cs := [v6, v10]) (z := [.slice none 0 0, .slice none 0 0]) (pl := [(0, 1), (1, 1)]) (by kernel_rfl) ⟨hc3_, hc4_, trivial⟩ (by kernel_rfl) rfl ?_
      refine l_nil (fun w' hw => ?_)
      have hS := hw.sel [0] rfl (by decide)
      refine ⟨hS, ?_⟩
      refine h_one 9 (by kernel_rfl) rfl hw ?_
      refine l_stN (cs := [.slice none 0 0, .slice none 0 0]) (vs := [v6, v10]) 1 rfl rfl rfl (by kernel_rfl) (allc_cons hc3_ (allc_cons hc4_ allc_nil)) (Nat.le_of_ble_eq_true rfl) ?_
      refine l_nil (fun w' hw => ?_)
      have hS := hw.sel [0] rfl (by decide)
      refine ⟨hS, ?_⟩
      refine h_done (by kernel_rfl) ?_
      refine (?_ : C _ _ _ _ _ _ _ (Own w [] [Res.row b1 24 (ConfD.cells c), Res.row b2 24 [v6, v10], Res.vec 3 1 v6 c.vs.length (c.vs.flatMap I1), Res.vec 3 1 v10 c.ls.length (c.ls.flatMap I1)])) _ hw
      exact c_ret (retc (cs := [v6, v10]) rfl rfl (by kernel_rfl) (Own.rowCells (i := 1) rfl) (fun w' hw => ⟨v6, v10, rfl, hw.sel [2, 3] rfl (by decide)⟩))
    ·
      refine pk_of 4 rfl hw ?_
      refine l_bsl (e := 3) (sz := 1) (vs := []) (by kernel_rfl) rfl rfl (by simp [Value.cells]) (by decide) rfl (fun b7 => ?_)
      refine l_nil (fun w' hw => ?_)
      have hS := hw.sel [0] rfl (by decide)
      refine ⟨hS, ?_⟩
      refine h_one 3 (by kernel_rfl) rfl hw ?_
      refine l_appF (g := I1) (sz := 1) (by' := 8) (fun _ => rfl) (l := []) (l' := c.vs) (by simp [cell1, I1]) 2 (by kernel_rfl) rfl rfl rfl (fun w' hw' => Own.rd rd_c.vv hw') (by first | omega | (simp; omega)) (by decide) rfl (fun v6 => ?_)
      refine l_nil (fun w' hw => ?_)
      have hS := hw.sel [0] rfl (by decide)
      refine ⟨hS, ?_⟩
      refine h_one 7 (by kernel_rfl) rfl hw ?_
      refine l_appF (g := I1) (sz := 1) (by' := 8) (fun _ => rfl) (l := []) (l' := c.ls) (by simp [cell1, I1]) 3 (by kernel_rfl) rfl rfl rfl (fun w' hw' => Own.rd rd_c.lv hw') (by first | omega | (simp; omega)) (by decide) rfl (fun v10 => ?_)
      refine l_nil (fun w' hw => ?_)
      have hS := hw.sel [0] rfl (by decide)
      refine ⟨hS, ?_⟩
      refine h_one 8 (by kernel_rfl) rfl hw ?_
      refine l_haveO (fun w' hw => Own.cell1Vec (i := 2) rfl hw) (fun hc5_ => ?_)
      refine l_haveO (fun w' hw => Own.cell1Vec (i := 3) rfl hw) (fun hc6_ => ?_)
      refine l_bldc (cs := [v6, v10]) (z := [.slice none 0 0, .slice none 0 0]) (pl := [(0, 1), (1, 1)]) (by kernel_rfl) ⟨hc5_, hc6_, trivial⟩ (by kernel_rfl) rfl ?_
      refine l_nil (fun w' hw => ?_)
      have hS := hw.sel [0] rfl (by decide)
      refine ⟨hS, ?_⟩
      refine h_one 9 (by kernel_rfl) rfl hw ?_
      refine l_stN (cs := [.slice none 0 0, .slice none 0 0]) (vs := [v6, v10]) 1 rfl rfl rfl (by kernel_rfl) (allc_cons hc5_ (allc_cons hc6_ allc_nil)) (Nat.le_of_ble_eq_true rfl) ?_
      refine l_nil (fun w' hw => ?_)
      have hS := hw.sel [0] rfl (by decide)
      refine ⟨hS, ?_⟩
      refine h_done (by kernel_rfl) ?_
      refine (?_ : C _ _ _ _ _ _ _ (Own w [] [Res.row b1 24 (ConfD.cells c), Res.row b2 24 [v6, v10], Res.vec 3 1 v6 c.vs.length (c.vs.flatMap I1), Res.vec 3 1 v10 c.ls.length (c.ls.flatMap I1)])) _ hw
      exact c_ret (retc (cs := [v6, v10]) rfl rfl (by kernel_rfl) (Own.rowCells (i := 1) rfl) (fun w' hw => ⟨v6, v10, rfl, hw.sel [2, 3] rfl (by decide)⟩))
  ·
    refine pk_of 4 rfl hw ?_
    refine l_bsl (e := 3) (sz := 1) (vs := []) (by kernel_rfl) rfl rfl (by simp [Value.cells]) (by decide) rfl (fun b7 => ?_)
    refine l_nil (fun w' hw => ?_)
    have hS := hw.sel [0] rfl (by decide)
    refine ⟨hS, ?_⟩
    refine h_one 0 (by kernel_rfl) rfl hw ?_
    refine l_bsl (e := 3) (sz := 1) (vs := []) (by kernel_rfl) rfl rfl (by simp [Value.cells]) (by decide) rfl (fun b3 => ?_)
    refine l_nil (fun w' hw => ?_)
    have hS := hw.sel [0] rfl (by decide)
    refine ⟨hS, ?_⟩
    refine h_one 3 (by kernel_rfl) rfl hw ?_
    refine l_appF (g := I1) (sz := 1) (by' := 8) (fun _ => rfl) (l := []) (l' := c.vs) (by simp [cell1, I1]) 3 (by kernel_rfl) rfl rfl rfl (fun w' hw' => Own.rd rd_c.vv hw') (by first | omega | (simp; omega)) (by decide) rfl (fun v6 => ?_)
    refine l_nil (fun w' hw => ?_)
    have hS := hw.sel [0] rfl (by decide)
    refine ⟨hS, ?_⟩
    refine h_one 7 (by kernel_rfl) rfl hw ?_
    refine l_appF (g := I1) (sz := 1) (by' := 8) (fun _ => rfl) (l := []) (l' := c.ls) (by simp [cell1, I1]) 2 (by kernel_rfl) rfl rfl rfl (fun w' hw' => Own.rd rd_c.lv hw') (by first | omega | (simp; omega)) (by decide) rfl (fun v10 => ?_)
    refine l_nil (fun w' hw => ?_)
    have hS := hw.sel [0] rfl (by decide)
    refine ⟨hS, ?_⟩
    refine h_one 8 (by kernel_rfl) rfl hw ?_
    refine l_haveO (fun w' hw => Own.cell1Vec (i := 3) rfl hw) (fun hc7_ => ?_)
    refine l_haveO (fun w' hw => Own.cell1Vec (i := 2) rfl hw) (fun hc8_ => ?_)
    refine l_bldc (cs := [v6, v10]) (z := [.slice none 0 0, .slice none 0 0]) (pl := [(0, 1), (1, 1)]) (by kernel_rfl) ⟨hc7_, hc8_, trivial⟩ (by kernel_rfl) rfl ?_
    refine l_nil (fun w' hw => ?_)
    have hS := hw.sel [0] rfl (by decide)
    refine ⟨hS, ?_⟩
    refine h_one 9 (by kernel_rfl) rfl hw ?_
    refine l_stN (cs := [.slice none 0 0, .slice none 0 0]) (vs := [v6, v10]) 1 rfl rfl rfl (by kernel_rfl) (allc_cons hc7_ (allc_cons hc8_ allc_nil)) (Nat.le_of_ble_eq_true rfl) ?_
    refine l_nil (fun w' hw => ?_)
    have hS := hw.sel [0] rfl (by decide)
    refine ⟨hS, ?_⟩
    refine h_done (by kernel_rfl) ?_
    refine (?_ : C _ _ _ _ _ _ _ (Own w [] [Res.row b1 24 (ConfD.cells c), Res.row b2 24 [v6, v10], Res.vec 3 1 v10 c.ls.length (c.ls.flatMap I1), Res.vec 3 1 v6 c.vs.length (c.vs.flatMap I1)])) _ hw
    exact c_ret (retc (cs := [v6, v10]) rfl rfl (by kernel_rfl) (Own.rowCells (i := 1) rfl) (fun w' hw => ⟨v6, v10, rfl, hw.sel [3, 2] rfl (by decide)⟩))

theorem confWrite_s (o : Nat) (sl : Value) (bs : List UInt8) (c : ConfD) (w : World) (hb : bs.length + 9 * (c.vs.length + c.ls.length + 2) ≤ 100000000000) (rd_c : ConfD.rd c w (fps [Res.bv o TOut sl bs])) (hin : Own w (fps [Res.bv o TOut sl bs]) [Res.bv o TOut sl bs] w) : Rets Try.prog 53 #[.pointer (some ⟨o, 0, none⟩), .agg (ConfD.cells c).toArray] w fun u_ w' => ∃ (sl' : Value), u_ = .tuple #[] ∧ Own w (fps [Res.bv o TOut sl bs]) [Res.bv o TOut sl' (bs ++ c.enc)] w' := by
  have h0 := idsB_length c.vs
  refine fn_enter (args := [.pointer (some ⟨o, 0, none⟩), .agg (ConfD.cells c).toArray]) Try.func53 rfl Try.ntmps53 rfl (show Own w (fps [Res.bv o TOut sl bs]) [Res.bv o TOut sl bs] w from hin) ?_
  refine c_reg ?_
  refine l_box rfl rfl (fun b3 => ?_)
  refine l_end ?_
  refine c_reg ?_
  refine l_mv rfl ?_
  refine l_fld (o := 0) rfl (by kernel_rfl) rfl ?_
  refine l_ldo 1 (v := c.vv) rfl rfl rfl (by kernel_rfl) rfl ?_
  refine l_call (by kernel_rfl) rfl rfl (fun w' hw => ?_)
  refine (ids_s o _ _ c.vv c.vs w' (by first | assumption | omega | (simp <;> omega) | (constructor <;> (first | omega | (simp only [LenOk]; omega) | (simp <;> omega)))) (hw.rdTo rd_c.vv [0] rfl) (hw.give [0] rfl (by decide))).mono ?_
  rintro _ w1 ⟨sl'1_, rfl, hO⟩
  refine (?_ : CL _ _ _ _ _ _ (Own w (fps [Res.bv o TOut sl bs]) [Res.row b3 24 (ConfD.cells c), Res.bv o TOut sl'1_ (bs ++ idsB c.vs)])) w1 (hw.frameL [0] rfl hO)
  refine l_end ?_
  refine c_last ?_
  refine l_mv rfl ?_
  refine l_fld (o := 1) rfl (by kernel_rfl) rfl ?_
  refine l_ldo 0 (v := c.lv) rfl rfl rfl (by kernel_rfl) rfl ?_
  refine l_call (by kernel_rfl) rfl rfl (fun w' hw => ?_)
  refine (ids_s o sl'1_ (bs ++ idsB c.vs) c.lv c.ls w' (by first | assumption | omega | (simp <;> omega) | (constructor <;> (first | omega | (simp only [LenOk]; omega) | (simp <;> omega)))) (hw.rdTo rd_c.lv [1] rfl) (hw.give [1] rfl (by decide))).mono ?_
  rintro _ w1 ⟨sl'2_, rfl, hO⟩
  refine (?_ : CL _ _ _ _ _ _ (Own w (fps [Res.bv o TOut sl bs]) [Res.row b3 24 (ConfD.cells c), Res.bv o TOut sl'2_ ((bs ++ idsB c.vs) ++ idsB c.ls)])) w1 (hw.frameL [1] rfl hO)
  exact l_nil (ret0 rfl (fun w' hw => ⟨sl'2_, rfl, by have h := hw.one 1 rfl; simpa [ConfD.enc] using h⟩))

theorem confs_s (w : World) : Rets Try.prog 40 #[] w fun u_ w' => u_ = .agg #[.func (.func 49) #[] #[], .func (.func 53) #[] #[], .func (.func 55) #[] #[]] ∧ Own w [] [] w' := by
  refine fn_enter (args := []) Try.func40 rfl Try.ntmps40 rfl (Own.start w) ?_
  refine c_reg ?_
  refine l_new (v := .agg #[.nilFunc, .nilFunc, .nilFunc]) (by kernel_rfl) rfl (fun b0 => ?_)
  refine l_end ?_
  refine c_reg ?_
  refine l_bld (cs := [.func (.func 49) #[] #[], .func (.func 53) #[] #[], .func (.func 55) #[] #[]]) (z := [.nilFunc, .nilFunc, .nilFunc]) (pl := [(0, 1), (1, 1), (2, 1)]) (by kernel_rfl) (by kernel_rfl) rfl ?_
  refine l_stN (cs := [.nilFunc, .nilFunc, .nilFunc]) (vs := [.func (.func 49) #[] #[], .func (.func 53) #[] #[], .func (.func 55) #[] #[]]) 0 rfl rfl rfl (by kernel_rfl) (allc_cons rfl (allc_cons rfl (allc_cons rfl allc_nil))) (Nat.le_of_ble_eq_true rfl) ?_
  refine l_end ?_
  exact c_ret (retc (cs := [.func (.func 49) #[] #[], .func (.func 53) #[] #[], .func (.func 55) #[] #[]]) rfl rfl (by kernel_rfl) (Own.rowCells (i := 0) rfl) (fun w' hw => ⟨rfl, hw.drop⟩))

theorem confBytes_s (c : ConfD) (w : World) (hf : c.few) (rd_c : ConfD.rd c w []) : Rets Try.prog 41 #[.agg #[.func (.func 49) #[] #[], .func (.func 53) #[] #[], .func (.func 55) #[] #[]], .agg (ConfD.cells c).toArray] w fun u_ w' => ∃ (r : Value), u_ = .tuple #[r, .int .i64 (errOf c.ok)] ∧ Own w [] [Res.vec 5 1 r (if c.ok then c.enc else []).length ((if c.ok then c.enc else []).map vb)] w' := by
  have hc := hf.wf
  have hv := hf.vs
  have hl := hf.ls
  refine fn_enter (args := [.agg #[.func (.func 49) #[] #[], .func (.func 53) #[] #[], .func (.func 55) #[] #[]], .agg (ConfD.cells c).toArray]) Try.func41 rfl Try.ntmps41 rfl (Own.start w) ?_
  refine c_reg ?_
  refine l_box rfl rfl (fun b2 => ?_)
  refine l_box rfl rfl (fun b3 => ?_)
  refine l_as rfl ?_
  refine l_as rfl ?_
  refine l_end ?_
  refine c_seq ?_
  refine c_reg ?_
  refine l_fld (o := 0) rfl (by kernel_rfl) rfl ?_
  refine l_ldo 0 (v := .func (.func 49) #[] #[]) rfl rfl rfl (by kernel_rfl) rfl ?_
  refine l_ldr (cs := (ConfD.cells c)) 1 rfl rfl (by kernel_rfl) rfl ?_
  refine l_callv (fst := []) (cap := []) rfl (by kernel_rfl) rfl rfl (fun w' hw => ?_)
  refine (confSound_spec c w' (by first | assumption | omega | (simp <;> omega) | (constructor <;> (first | omega | (simp only [LenOk]; omega) | (simp <;> omega)))) (rd_c.at0 hw)).mono ?_
  rintro _ w1 ⟨rfl, hO⟩
  refine (?_ : CL _ _ _ _ _ _ (Own w [] [Res.row b2 62 [.func (.func 49) #[] #[], .func (.func 53) #[] #[], .func (.func 55) #[] #[]], Res.row b3 24 (ConfD.cells c)])) w1 (hw.frame0 hO)
  refine l_notp (q := c.ok) rfl rfl ?_
  refine l_end ?_
  refine c_dec rfl (fun c1 => ?_) (fun c1 => ?_)
  ·
    refine c_reg ?_
    refine l_as rfl ?_
    refine l_as rfl ?_
    refine l_end ?_
    exact c_ret (ret2 (v := .slice none 0 0) (v' := .int .i64 2) rfl rfl rfl (fun w' hw => ⟨.slice none 0 0, (by rw [errOf_F c1]), by rw [if_neg c1]; exact (own_nil hw T8 1).one 2 rfl⟩))
  ·
    refine c_skipC ?_
    refine c_reg ?_
    refine l_bld (cs := [.slice none 0 0]) (z := [.slice none 0 0]) (pl := [(0, 1)]) (by kernel_rfl) (by kernel_rfl) rfl ?_
    refine l_box rfl rfl (fun b13 => ?_)
    refine l_as rfl ?_
    refine l_end ?_
    refine c_reg ?_
    refine l_fld (o := 1) rfl (by kernel_rfl) rfl ?_
    refine l_ldo 0 (v := .func (.func 53) #[] #[]) rfl rfl rfl (by kernel_rfl) rfl ?_
    refine l_mv rfl ?_
    refine l_ldr (cs := (ConfD.cells c)) 1 rfl rfl (by kernel_rfl) rfl ?_
    refine l_own [Res.row b2 62 [.func (.func 49) #[] #[], .func (.func 53) #[] #[], .func (.func 55) #[] #[]], Res.row b3 24 (ConfD.cells c), Res.bv b13 TOut (.slice none 0 0) ([] : List UInt8)] (fun w' hw => (own_nil hw T8 1).joinBv (i := 2) (j := 3) (by decide) rfl rfl) ?_
    refine l_callv (fst := []) (cap := []) rfl (by kernel_rfl) rfl rfl (fun w' hw => ?_)
    refine (confWrite_s b13 (.slice none 0 0) ([] : List UInt8) c w' (by first | assumption | omega | (simp <;> omega) | (constructor <;> (first | omega | (simp only [LenOk]; omega) | (simp <;> omega)))) (rd_c.at hw [2] rfl) (hw.give [2] rfl (by decide))).mono ?_
    rintro _ w1 ⟨sl'1_, rfl, hO⟩
    refine (?_ : CL _ _ _ _ _ _ (Own w [] [Res.row b2 62 [.func (.func 49) #[] #[], .func (.func 53) #[] #[], .func (.func 55) #[] #[]], Res.row b3 24 (ConfD.cells c), Res.bv b13 TOut sl'1_ (([] : List UInt8) ++ c.enc)])) w1 (hw.frameL [2] rfl hO)
    refine l_end ?_
    refine c_reg ?_
    refine l_mv rfl ?_
    refine l_nck rfl rfl ?_
    refine l_fld (o := 0) rfl (by kernel_rfl) rfl ?_
    refine l_own [Res.row b2 62 [.func (.func 49) #[] #[], .func (.func 53) #[] #[], .func (.func 55) #[] #[]], Res.row b3 24 (ConfD.cells c), Res.row b13 TOut [sl'1_], Res.vec 5 1 sl'1_ (([] : List UInt8) ++ c.enc).length ((([] : List UInt8) ++ c.enc).map vb)] (fun w' hw => hw.splitBv (i := 2) (o := b13) (T := TOut) (v := sl'1_) (bs := (([] : List UInt8) ++ c.enc)) rfl) ?_
    refine l_ldo 2 (v := sl'1_) rfl rfl rfl (by kernel_rfl) rfl ?_
    refine l_as rfl ?_
    refine l_as rfl ?_
    refine l_end ?_
    exact c_ret (ret2 (v := sl'1_) (v' := .int .i64 0) rfl rfl rfl (fun w' hw => ⟨sl'1_, (by rw [errOf_T (Decidable.not_not.1 c1)]), by rw [if_pos (Decidable.not_not.1 c1)]; exact hw.one 3 rfl⟩))

theorem msgConf_s (c : ConfD) (w : World) (hf : c.few) (rd_c : ConfD.rd c w []) : Rets Try.prog 28 #[.agg (ConfD.cells c).toArray] w fun u_ w' => ∃ (r : Value), u_ = .tuple #[r, .int .i64 (errOf c.ok)] ∧ Own w [] [Res.vec 5 1 r (if c.ok then c.enc else []).length ((if c.ok then c.enc else []).map vb)] w' := by
  refine fn_enter (args := [.agg (ConfD.cells c).toArray]) Try.func28 rfl Try.ntmps28 rfl (Own.start w) ?_
  refine c_reg ?_
  refine l_box rfl rfl (fun b1 => ?_)
  refine l_as rfl ?_
  refine l_as rfl ?_
  refine l_end ?_
  refine c_seq ?_
  refine c_heldo [0] rfl (by decide) (by kernel_rfl) (fun w' hw hS => ?_)
  refine h_take 1 rfl (by kernel_rfl) (by kernel_rfl) (by kernel_rfl) (v_ldr (cs := (ConfD.cells c)) 0 rfl rfl (by kernel_rfl)) rfl hS ?_
  refine h_one 0 (by kernel_rfl) rfl hw ?_
  refine l_call (by kernel_rfl) rfl rfl (fun w' hw => ?_)
  refine (confs_s w').mono ?_
  rintro _ w1 ⟨rfl, hO⟩
  refine (?_ : CL _ _ _ _ _ _ (Own w [] [Res.row b1 24 (ConfD.cells c)])) w1 (hw.frame0 hO)
  refine l_nil (fun w' hw => ?_)
  have hS := hw.sel [0] rfl (by decide)
  refine ⟨hS, ?_⟩
  refine h_one 2 (by kernel_rfl) rfl hw ?_
  refine l_call (by kernel_rfl) rfl rfl (fun w' hw => ?_)
  refine (confBytes_s c w' (by first | assumption | omega | (simp <;> omega) | (constructor <;> (first | omega | (simp only [LenOk]; omega) | (simp <;> omega)))) (rd_c.at0 hw)).mono ?_
  rintro _ w1 ⟨r1_, rfl, hO⟩
  refine (?_ : CL _ _ _ _ _ _ (Own w [] [Res.row b1 24 (ConfD.cells c), Res.vec 5 1 r1_ (if c.ok then c.enc else []).length ((if c.ok then c.enc else []).map vb)])) w1 (hw.frame0 hO)
  refine l_nil (fun w' hw => ?_)
  have hS := hw.sel [0] rfl (by decide)
  refine ⟨hS, ?_⟩
  refine h_take 3 rfl (by kernel_rfl) (by kernel_rfl) (by kernel_rfl) (v_ext (vs := [r1_, .int .i64 (errOf c.ok)]) rfl rfl) rfl hS ?_
  refine h_take 4 rfl (by kernel_rfl) (by kernel_rfl) (by kernel_rfl) (v_ext (vs := [r1_, .int .i64 (errOf c.ok)]) rfl rfl) rfl hS ?_
  refine h_take 5 rfl (by kernel_rfl) (by kernel_rfl) (by kernel_rfl) (v_as) rfl hS ?_
  refine h_take 6 rfl (by kernel_rfl) (by kernel_rfl) (by kernel_rfl) (v_as) rfl hS ?_
  refine h_done (by kernel_rfl) ?_
  refine (?_ : C _ _ _ _ _ _ _ (Own w [] [Res.row b1 24 (ConfD.cells c), Res.vec 5 1 r1_ (if c.ok then c.enc else []).length ((if c.ok then c.enc else []).map vb)])) _ hw
  exact c_ret (ret2 (v := r1_) (v' := .int .i64 (errOf c.ok)) rfl rfl rfl (fun w' hw => ⟨r1_, rfl, hw.sel [1] rfl (by decide)⟩))

theorem check_s (c : ConfD) (w : World) (hf : c.few) (rd_c : ConfD.rd c w []) : Rets Try.prog 9 #[.agg (ConfD.cells c).toArray] w fun u_ w' => u_ = .int .i64 (errOf c.ok) ∧ Own w [] [] w' := by
  refine fn_enter (args := [.agg (ConfD.cells c).toArray]) Try.func9 rfl Try.ntmps9 rfl (Own.start w) ?_
  refine c_reg ?_
  refine l_box rfl rfl (fun b1 => ?_)
  refine l_as rfl ?_
  refine l_end ?_
  refine c_reg ?_
  refine l_ldr (cs := (ConfD.cells c)) 0 rfl rfl (by kernel_rfl) rfl ?_
  refine l_call (by kernel_rfl) rfl rfl (fun w' hw => ?_)
  refine (msgConf_s c w' (by first | assumption | omega | (simp <;> omega) | (constructor <;> (first | omega | (simp only [LenOk]; omega) | (simp <;> omega)))) (rd_c.at0 hw)).mono ?_
  rintro _ w1 ⟨r1_, rfl, hO⟩
  refine (?_ : CL _ _ _ _ _ _ (Own w [] [Res.row b1 24 (ConfD.cells c), Res.vec 5 1 r1_ (if c.ok then c.enc else []).length ((if c.ok then c.enc else []).map vb)])) w1 (hw.frame0 hO)
  refine l_mv rfl ?_
  refine l_ext (vs := [r1_, .int .i64 (errOf c.ok)]) rfl rfl rfl ?_
  refine l_ext (vs := [r1_, .int .i64 (errOf c.ok)]) rfl rfl rfl ?_
  refine l_as rfl ?_
  refine l_as rfl ?_
  refine l_end ?_
  refine c_reg ?_
  refine l_mv rfl ?_
  refine l_as rfl ?_
  refine l_end ?_
  exact c_ret (ret1 (v := .int .i64 (errOf c.ok)) rfl rfl (fun w' hw => ⟨rfl, hw.drop⟩))

theorem contains_cs (v : Value) (l : List Int) (n : Int) (w : World) (hl : LenOk l.length) (hv : Rd w [] (Res.sl v l.length (l.flatMap I1))) : Rets Try.prog 30 #[v, .int .i64 n] w fun u_ w' => u_ = .bool (decide (n ∈ l)) ∧ Own w [] [] w' := by
  exact contains_spec v l n w hl hv
theorem voter_s (c : ConfD) (id : Int) (w : World) (hf : c.few) (rd_c : ConfD.rd c w []) : Rets Try.prog 15 #[.agg (ConfD.cells c).toArray, .int .i64 id] w fun u_ w' => u_ = .bool (decide (c.ok ∧ id ∈ c.vs)) ∧ Own w [] [] w' := by
  have hc := hf.wf
  have hv := hc.vs
  have hl := hc.ls
  refine fn_enter (args := [.agg (ConfD.cells c).toArray, .int .i64 id]) Try.func15 rfl Try.ntmps15 rfl (Own.start w) ?_
  refine c_reg ?_
  refine l_box rfl rfl (fun b2 => ?_)
  refine l_as rfl ?_
  refine l_end ?_
  refine c_reg ?_
  refine l_ldr (cs := (ConfD.cells c)) 0 rfl rfl (by kernel_rfl) rfl ?_
  refine l_call (by kernel_rfl) rfl rfl (fun w' hw => ?_)
  refine (check_s c w' (by first | assumption | omega | (simp <;> omega) | (constructor <;> (first | omega | (simp only [LenOk]; omega) | (simp <;> omega)))) (rd_c.at0 hw)).mono ?_
  rintro _ w1 ⟨rfl, hO⟩
  refine (?_ : CL _ _ _ _ _ _ (Own w [] [Res.row b2 24 (ConfD.cells c)])) w1 (hw.frame0 hO)
  refine l_eq rfl rfl rfl ?_
  refine l_mv rfl ?_
  refine l_band (q := (errOf c.ok) = 0) 4 3 [12, 11, 10, 9] (id ∈ c.vs) rfl rfl rfl rfl rfl rfl trivial rfl (fun h1_3 => ?_) (fun g1_8 => ?_)
  ·
    refine l_on rfl (gT h1_3) ?_
    refine l_fld (o := 0) rfl (by kernel_rfl) rfl ?_
    refine l_on rfl (gT h1_3) ?_
    refine l_ldo 0 (v := c.vv) rfl rfl rfl (by kernel_rfl) rfl ?_
    refine l_on rfl (gT h1_3) ?_
    refine l_mv rfl ?_
    refine l_on rfl (gT h1_3) ?_
    refine l_call (by kernel_rfl) rfl rfl (fun w' hw => ?_)
    refine (contains_cs c.vv c.vs id w' (by first | assumption | omega | (simp <;> omega) | (constructor <;> (first | omega | (simp only [LenOk]; omega) | (simp <;> omega)))) (hw.rd0 rd_c.vv)).mono ?_
    rintro _ w1 ⟨rfl, hO⟩
    refine (?_ : CL _ _ _ _ _ _ (Own w [] [Res.row b2 24 (ConfD.cells c)])) w1 (hw.frame0 hO)
    exact l_nil (fun w' hw => ⟨(by repeat (first | exact Out.refl _ _ | refine Out.upd rfl ?_ | refine Out.msk rfl ?_)), rfl, hw⟩)
  refine l_as rfl ?_
  refine l_end ?_
  exact c_ret (ret1 (v := .bool (decide (((errOf c.ok) = 0) ∧ (id ∈ c.vs)))) rfl rfl (fun w' hw => ⟨(by congr 1; exact decide_eq_decide.2 (by rw [errOf_zero])), hw.drop⟩))
theorem rvoter_s (c : ConfD) (id : Int) (w : World) (hf : c.few) (rd_c : ConfD.rd c w []) : Rets Try.prog 16 #[.agg (ConfD.cells c).toArray, .int .i64 id] w fun u_ w' => u_ = .bool (decide (c.ok ∧ id ∈ c.vs)) ∧ Own w [] [] w' := by
  have hc := hf.wf
  have hv := hc.vs
  have hl := hc.ls
  refine fn_enter (args := [.agg (ConfD.cells c).toArray, .int .i64 id]) Try.func16 rfl Try.ntmps16 rfl (Own.start w) ?_
  refine c_reg ?_
  refine l_box rfl rfl (fun b2 => ?_)
  refine l_as rfl ?_
  refine l_end ?_
  refine c_reg ?_
  refine l_ldr (cs := (ConfD.cells c)) 0 rfl rfl (by kernel_rfl) rfl ?_
  refine l_call (by kernel_rfl) rfl rfl (fun w' hw => ?_)
  refine (confOK_spec c w' (by first | assumption | omega | (simp <;> omega) | (constructor <;> (first | omega | (simp only [LenOk]; omega) | (simp <;> omega)))) (rd_c.at0 hw)).mono ?_
  rintro _ w1 ⟨rfl, hO⟩
  refine (?_ : CL _ _ _ _ _ _ (Own w [] [Res.row b2 24 (ConfD.cells c)])) w1 (hw.frame0 hO)
  refine l_mv rfl ?_
  refine l_band (q := c.ok) 4 2 [11, 10, 9, 8] (id ∈ c.vs) rfl rfl rfl rfl rfl rfl trivial rfl (fun h1_2 => ?_) (fun g1_7 => ?_)
  ·
    refine l_on rfl (gT h1_2) ?_
    refine l_fld (o := 0) rfl (by kernel_rfl) rfl ?_
    refine l_on rfl (gT h1_2) ?_
    refine l_ldo 0 (v := c.vv) rfl rfl rfl (by kernel_rfl) rfl ?_
    refine l_on rfl (gT h1_2) ?_
    refine l_mv rfl ?_
    refine l_on rfl (gT h1_2) ?_
    refine l_call (by kernel_rfl) rfl rfl (fun w' hw => ?_)
    refine (has_spec c.vv c.vs id w' (by first | assumption | omega | (simp <;> omega) | (constructor <;> (first | omega | (simp only [LenOk]; omega) | (simp <;> omega)))) (hw.rd0 rd_c.vv)).mono ?_
    rintro _ w1 ⟨rfl, hO⟩
    refine (?_ : CL _ _ _ _ _ _ (Own w [] [Res.row b2 24 (ConfD.cells c)])) w1 (hw.frame0 hO)
    exact l_nil (fun w' hw => ⟨(by repeat (first | exact Out.refl _ _ | refine Out.upd rfl ?_ | refine Out.msk rfl ?_)), rfl, hw⟩)
  refine l_as rfl ?_
  refine l_end ?_
  exact c_ret (ret1 (v := .bool (decide (c.ok ∧ (id ∈ c.vs)))) rfl rfl (fun w' hw => ⟨rfl, hw.drop⟩))
theorem member_s (c : ConfD) (id : Int) (w : World) (hf : c.few) (rd_c : ConfD.rd c w []) : Rets Try.prog 13 #[.agg (ConfD.cells c).toArray, .int .i64 id] w fun u_ w' => u_ = .bool (decide (c.ok ∧ (id ∈ c.vs ∨ id ∈ c.ls))) ∧ Own w [] [] w' := by
  have hc := hf.wf
  have hv := hc.vs
  have hl := hc.ls
  refine fn_enter (args := [.agg (ConfD.cells c).toArray, .int .i64 id]) Try.func13 rfl Try.ntmps13 rfl (Own.start w) ?_
  refine c_reg ?_
  refine l_box rfl rfl (fun b2 => ?_)
  refine l_as rfl ?_
  refine l_end ?_
  refine c_reg ?_
  refine l_ldr (cs := (ConfD.cells c)) 0 rfl rfl (by kernel_rfl) rfl ?_
  refine l_mv rfl ?_
  refine l_call (by kernel_rfl) rfl rfl (fun w' hw => ?_)
  refine (voter_s c id w' (by first | assumption | omega | (simp <;> omega) | (constructor <;> (first | omega | (simp only [LenOk]; omega) | (simp <;> omega)))) (rd_c.at0 hw)).mono ?_
  rintro _ w1 ⟨rfl, hO⟩
  refine (?_ : CL _ _ _ _ _ _ (Own w [] [Res.row b2 24 (ConfD.cells c)])) w1 (hw.frame0 hO)
  refine l_mv rfl ?_
  refine l_bor (q := c.ok ∧ id ∈ c.vs) 9 3 [17, 16, 15, 14, 13, 12, 11, 10, 9] (((errOf c.ok) = 0) ∧ (id ∈ c.ls)) rfl rfl rfl rfl rfl rfl trivial rfl (fun h1_3 => ?_) (fun g1_13 => ?_)
  ·
    refine l_on rfl (gF h1_3) ?_
    refine l_ldr (cs := (ConfD.cells c)) 0 rfl rfl (by kernel_rfl) rfl ?_
    refine l_on rfl (gF h1_3) ?_
    refine l_call (by kernel_rfl) rfl rfl (fun w' hw => ?_)
    refine (check_s c w' (by first | assumption | omega | (simp <;> omega) | (constructor <;> (first | omega | (simp only [LenOk]; omega) | (simp <;> omega)))) (rd_c.at0 hw)).mono ?_
    rintro _ w1 ⟨rfl, hO⟩
    refine (?_ : CL _ _ _ _ _ _ (Own w [] [Res.row b2 24 (ConfD.cells c)])) w1 (hw.frame0 hO)
    refine l_on rfl (gF h1_3) ?_
    refine l_eq rfl rfl rfl ?_
    refine l_on rfl (gF h1_3) ?_
    refine l_mv rfl ?_
    refine l_band (q := (errOf c.ok) = 0) 4 7 [16, 15, 14, 13] (id ∈ c.ls) rfl rfl rfl rfl rfl rfl ⟨_, rfl, rfl, gF h1_3⟩ rfl (fun h1_7 => ?_) (fun g1_12 => ?_)
    ·
      refine l_on rfl (gT h1_7) ?_
      refine l_fld (o := 1) rfl (by kernel_rfl) rfl ?_
      refine l_on rfl (gT h1_7) ?_
      refine l_ldo 0 (v := c.lv) rfl rfl rfl (by kernel_rfl) rfl ?_
      refine l_on rfl (gT h1_7) ?_
      refine l_mv rfl ?_
      refine l_on rfl (gT h1_7) ?_
      refine l_call (by kernel_rfl) rfl rfl (fun w' hw => ?_)
      refine (contains_cs c.lv c.ls id w' (by first | assumption | omega | (simp <;> omega) | (constructor <;> (first | omega | (simp only [LenOk]; omega) | (simp <;> omega)))) (hw.rd0 rd_c.lv)).mono ?_
      rintro _ w1 ⟨rfl, hO⟩
      refine (?_ : CL _ _ _ _ _ _ (Own w [] [Res.row b2 24 (ConfD.cells c)])) w1 (hw.frame0 hO)
      exact l_nil (fun w' hw => ⟨(by repeat (first | exact Out.refl _ _ | refine Out.upd rfl ?_ | refine Out.msk rfl ?_)), rfl, hw⟩)
    exact l_nil (fun w' hw => ⟨(by repeat (first | exact Out.refl _ _ | refine Out.upd rfl ?_ | refine Out.msk rfl ?_)), rfl, hw⟩)
  refine l_as rfl ?_
  refine l_end ?_
  exact c_ret (ret1 (v := .bool (decide ((c.ok ∧ id ∈ c.vs) ∨ (((errOf c.ok) = 0) ∧ (id ∈ c.ls))))) rfl rfl (fun w' hw => ⟨(by congr 1; exact decide_eq_decide.2 (by rw [errOf_zero]; exact ⟨fun h => h.elim (fun h => ⟨h.1, .inl h.2⟩) fun h => ⟨h.1, .inr h.2⟩, fun h => h.2.elim (fun q => .inl ⟨h.1, q⟩) fun q => .inr ⟨h.1, q⟩⟩)), hw.drop⟩))
theorem rmember_s (c : ConfD) (id : Int) (w : World) (hf : c.few) (rd_c : ConfD.rd c w []) : Rets Try.prog 14 #[.agg (ConfD.cells c).toArray, .int .i64 id] w fun u_ w' => u_ = .bool (decide (c.ok ∧ (id ∈ c.vs ∨ id ∈ c.ls))) ∧ Own w [] [] w' := by
  have hc := hf.wf
  have hv := hc.vs
  have hl := hc.ls
  refine fn_enter (args := [.agg (ConfD.cells c).toArray, .int .i64 id]) Try.func14 rfl Try.ntmps14 rfl (Own.start w) ?_
  refine c_reg ?_
  refine l_box rfl rfl (fun b2 => ?_)
  refine l_as rfl ?_
  refine l_end ?_
  refine c_reg ?_
  refine l_ldr (cs := (ConfD.cells c)) 0 rfl rfl (by kernel_rfl) rfl ?_
  refine l_call (by kernel_rfl) rfl rfl (fun w' hw => ?_)
  refine (confOK_spec c w' (by first | assumption | omega | (simp <;> omega) | (constructor <;> (first | omega | (simp only [LenOk]; omega) | (simp <;> omega)))) (rd_c.at0 hw)).mono ?_
  rintro _ w1 ⟨rfl, hO⟩
  refine (?_ : CL _ _ _ _ _ _ (Own w [] [Res.row b2 24 (ConfD.cells c)])) w1 (hw.frame0 hO)
  refine l_mv rfl ?_
  refine l_band (q := c.ok) 10 2 [17, 16, 15, 14, 13, 12, 11, 10, 9, 8] ((id ∈ c.vs) ∨ (id ∈ c.ls)) rfl rfl rfl rfl rfl rfl trivial rfl (fun h1_2 => ?_) (fun g1_13 => ?_)
  ·
    refine l_on rfl (gT h1_2) ?_
    refine l_fld (o := 0) rfl (by kernel_rfl) rfl ?_
    refine l_on rfl (gT h1_2) ?_
    refine l_ldo 0 (v := c.vv) rfl rfl rfl (by kernel_rfl) rfl ?_
    refine l_on rfl (gT h1_2) ?_
    refine l_mv rfl ?_
    refine l_on rfl (gT h1_2) ?_
    refine l_call (by kernel_rfl) rfl rfl (fun w' hw => ?_)
    refine (has_spec c.vv c.vs id w' (by first | assumption | omega | (simp <;> omega) | (constructor <;> (first | omega | (simp only [LenOk]; omega) | (simp <;> omega)))) (hw.rd0 rd_c.vv)).mono ?_
    rintro _ w1 ⟨rfl, hO⟩
    refine (?_ : CL _ _ _ _ _ _ (Own w [] [Res.row b2 24 (ConfD.cells c)])) w1 (hw.frame0 hO)
    refine l_on rfl (gT h1_2) ?_
    refine l_mv rfl ?_
    refine l_bor (q := id ∈ c.vs) 4 7 [16, 15, 14, 13] (id ∈ c.ls) rfl rfl rfl rfl rfl rfl ⟨_, rfl, rfl, gT h1_2⟩ rfl (fun h1_7 => ?_) (fun g1_12 => ?_)
    ·
      refine l_on rfl (gF h1_7) ?_
      refine l_fld (o := 1) rfl (by kernel_rfl) rfl ?_
      refine l_on rfl (gF h1_7) ?_
      refine l_ldo 0 (v := c.lv) rfl rfl rfl (by kernel_rfl) rfl ?_
      refine l_on rfl (gF h1_7) ?_
      refine l_mv rfl ?_
      refine l_on rfl (gF h1_7) ?_
      refine l_call (by kernel_rfl) rfl rfl (fun w' hw => ?_)
      refine (has_spec c.lv c.ls id w' (by first | assumption | omega | (simp <;> omega) | (constructor <;> (first | omega | (simp only [LenOk]; omega) | (simp <;> omega)))) (hw.rd0 rd_c.lv)).mono ?_
      rintro _ w1 ⟨rfl, hO⟩
      refine (?_ : CL _ _ _ _ _ _ (Own w [] [Res.row b2 24 (ConfD.cells c)])) w1 (hw.frame0 hO)
      exact l_nil (fun w' hw => ⟨(by repeat (first | exact Out.refl _ _ | refine Out.upd rfl ?_ | refine Out.msk rfl ?_)), rfl, hw⟩)
    exact l_nil (fun w' hw => ⟨(by repeat (first | exact Out.refl _ _ | refine Out.upd rfl ?_ | refine Out.msk rfl ?_)), rfl, hw⟩)
  refine l_as rfl ?_
  refine l_end ?_
  exact c_ret (ret1 (v := .bool (decide (c.ok ∧ ((id ∈ c.vs) ∨ (id ∈ c.ls))))) rfl rfl (fun w' hw => ⟨rfl, hw.drop⟩))

/-- How many of a list's are in another one. -/
def cnt (vs ids : List Int) : Nat := (vs.filter (· ∈ ids)).length
theorem cnt_le (vs ids : List Int) : cnt vs ids ≤ vs.length := List.length_filter_le _ _
theorem cnt_snoc (vs ids : List Int) (x : Int) : cnt (vs ++ [x]) ids = cnt vs ids + if x ∈ ids then 1 else 0 := by
  unfold cnt
  rw [List.filter_append, List.length_append]
  by_cases h : x ∈ ids <;> simp [List.filter_cons, h]
def ConfD.quorum (c : ConfD) (ids : List Int) : Prop := c.ok ∧ c.vs.length < 2 * cnt c.vs ids
instance (c : ConfD) (ids : List Int) : Decidable (c.quorum ids) := inferInstanceAs (Decidable (_ ∧ _))

theorem quorum_s (c : ConfD) (v : Value) (ids : List Int) (w : World) (hf : c.few) (hids : LenOk ids.length) (hi : Rd w [] (Res.sl v ids.length (ids.flatMap I1))) (rd_c : ConfD.rd c w []) : Rets Try.prog 17 #[.agg (ConfD.cells c).toArray, v] w fun u_ w' => u_ = .bool (decide (c.quorum ids)) ∧ Own w [] [] w' := by
  have hc := hf.wf
  have hv := hf.vs
  have hl := hc.ls
  refine fn_enter (args := [.agg (ConfD.cells c).toArray, v]) Try.func17 rfl Try.ntmps17 rfl (Own.start w) ?_
  refine c_reg ?_
  refine l_box rfl rfl (fun b2 => ?_)
  refine l_as rfl ?_
  refine l_end ?_
  refine c_reg ?_
  refine l_as rfl ?_
  refine l_end ?_
  refine c_seq ?_
  refine c_reg ?_
  refine l_fld (o := 0) rfl (by kernel_rfl) rfl ?_
  refine l_ldo 0 (v := c.vv) rfl rfl rfl (by kernel_rfl) rfl ?_
  refine l_lenS (len := c.vs.length) (cs := (c.vs.flatMap I1)) (by kernel_rfl) rfl (fun w' hw' => Own.rd rd_c.vv hw') rfl ?_
  refine l_mv rfl ?_
  refine l_end ?_
  refine c_block ?_
  refine c_loop1 (fun (k : Nat) => [(1, v), (2, .pointer (some ⟨b2, 0, none⟩)), (5, .int .i64 ((cnt (c.vs.take k) ids) : Nat)), (9, c.vv), (10, .int .i64 (c.vs.length : Nat)), (11, .int .i64 (k : Nat))]) (fun (k : Nat) => k ≤ c.vs.length) (fun (k : Nat) => [Res.row b2 24 (ConfD.cells c)]) (fun (k : Nat) => c.vs.length - k) (fun w' hw => ⟨0, ⟨rfl, rfl, rfl, rfl, rfl, rfl, trivial⟩, Nat.zero_le _, hw⟩) (fun k g hΦ => ?_)
  have hcl := cnt_le (c.vs.take k) ids
  have hkl : (c.vs.take k).length ≤ k := by simp; omega
  have htk := hΦ
  refine c_reg ?_
  refine l_lss rfl rfl rfl ?_
  refine l_end ?_
  refine c_seq ?_
  refine c_dec rfl (fun c1 => ?_) (fun c1 => ?_)
  ·
    refine c_skipC ?_
    refine c_seq ?_
    refine c_block ?_
    refine c_reg ?_
    refine l_idxS (j := k) (sz := 1) (len := c.vs.length) (cs := (c.vs.flatMap I1)) rfl rfl (by kernel_rfl) (fun w' hw' => Own.rd rd_c.vv hw') rfl (by omega) rfl ?_
    refine l_ldS (v := c.vv) (off := offV c.vv + k * 1) (k * 1 + 0) (cs := (c.vs.flatMap I1)) rfl (by omega) (fun w' hw' => Own.rd rd_c.vv hw') (flat_at (sz := 1) (fun _ => rfl) (nth_some (by omega)) (i := 0) rfl) (by kernel_rfl) rfl ?_
    refine l_as rfl ?_
    refine l_end ?_
    refine c_reg ?_
    refine l_mv rfl ?_
    refine l_mv rfl ?_
    refine l_call (by kernel_rfl) rfl rfl (fun w' hw => ?_)
    refine (contains_cs v ids (nth c.vs k) w' (by first | assumption | omega | (simp <;> omega) | (constructor <;> (first | omega | (simp only [LenOk]; omega) | (simp <;> omega)))) (hw.rd0 hi)).mono ?_
    rintro _ w1 ⟨rfl, hO⟩
    refine (?_ : CL _ _ _ _ _ _ (Own w [] [Res.row b2 24 (ConfD.cells c)])) w1 (hw.frame0 hO)
    refine l_end ?_
    refine c_dec rfl (fun c2 => ?_) (fun c2 => ?_)
    ·
      have e2 : cnt (c.vs.take (k + 1)) ids = cnt (c.vs.take k) ids + 1 := by have := cnt_snoc (c.vs.take k) ids (nth c.vs k); rw [if_pos c2] at this; rw [take_nth (by omega)]; exact this
      refine c_last ?_
      refine l_mv rfl ?_
      refine l_add rfl rfl (wi64 (by omega)) rfl ?_
      refine l_as rfl ?_
      refine l_end ?_
      refine c_last ?_
      refine l_add rfl rfl (wi64 (by omega)) rfl ?_
      refine l_mv rfl ?_
      exact l_nil (fun w' hw => ⟨k + 1, ⟨rfl, rfl, by rw [e2]; rfl, rfl, rfl, rfl, trivial⟩, (by omega), hw, (by omega)⟩)
    ·
      have e2 : cnt (c.vs.take (k + 1)) ids = cnt (c.vs.take k) ids := by have := cnt_snoc (c.vs.take k) ids (nth c.vs k); rw [if_neg c2] at this; rw [take_nth (by omega)]; exact this
      refine c_skipC ?_
      refine c_last ?_
      refine l_add rfl rfl (wi64 (by omega)) rfl ?_
      refine l_mv rfl ?_
      exact l_nil (fun w' hw => ⟨k + 1, ⟨rfl, rfl, by rw [e2]; rfl, rfl, rfl, rfl, trivial⟩, (by omega), hw, (by omega)⟩)
  ·
    refine c_exitC rfl ?_
    refine c_reg ?_
    refine l_ldr (cs := (ConfD.cells c)) 0 rfl rfl (by kernel_rfl) rfl ?_
    refine l_call (by kernel_rfl) rfl rfl (fun w' hw => ?_)
    refine (check_s c w' (by first | assumption | omega | (simp <;> omega) | (constructor <;> (first | omega | (simp only [LenOk]; omega) | (simp <;> omega)))) (rd_c.at0 hw)).mono ?_
    rintro _ w1 ⟨rfl, hO⟩
    refine (?_ : CL _ _ _ _ _ _ (Own w [] [Res.row b2 24 (ConfD.cells c)])) w1 (hw.frame0 hO)
    refine l_eq rfl rfl rfl ?_
    refine l_mv rfl ?_
    refine l_band (q := (errOf c.ok) = 0) 6 3 [30, 29, 28, 27, 26, 25] (((c.vs.length : Nat) : Int) < ((2 * (cnt (c.vs.take k) ids) : Nat) : Int)) rfl rfl rfl rfl rfl rfl trivial rfl (fun h8_3 => ?_) (fun g8_10 => ?_)
    ·
      refine l_on rfl (gT h8_3) ?_
      refine l_mv rfl ?_
      refine l_on rfl (gT h8_3) ?_
      refine l_mul rfl rfl (wi64 (by omega)) rfl ?_
      refine l_on rfl (gT h8_3) ?_
      refine l_fld (o := 0) rfl (by kernel_rfl) rfl ?_
      refine l_on rfl (gT h8_3) ?_
      refine l_ldo 0 (v := c.vv) rfl rfl rfl (by kernel_rfl) rfl ?_
      refine l_on rfl (gT h8_3) ?_
      refine l_lenS (len := c.vs.length) (cs := (c.vs.flatMap I1)) (by kernel_rfl) rfl (fun w' hw' => Own.rd rd_c.vv hw') rfl ?_
      refine l_on rfl (gT h8_3) ?_
      refine l_gtr rfl rfl rfl ?_
      exact l_nil (fun w' hw => ⟨(by repeat (first | exact Out.refl _ _ | refine Out.upd rfl ?_ | refine Out.msk rfl ?_)), rfl, hw⟩)
    refine l_as rfl ?_
    refine l_end ?_
    exact c_ret (ret1 (v := .bool (decide (((errOf c.ok) = 0) ∧ (((c.vs.length : Nat) : Int) < ((2 * (cnt (c.vs.take k) ids) : Nat) : Int))))) rfl rfl (fun w' hw => ⟨(by congr 1; exact decide_eq_decide.2 (by unfold ConfD.quorum; rw [errOf_zero, List.take_of_length_le (by omega)]; rw [List.take_of_length_le (by omega)] at hcl; exact and_congr_right fun _ => by omega)), hw.drop⟩))
theorem rquorum_s (c : ConfD) (v : Value) (ids : List Int) (w : World) (hf : c.few) (hids : LenOk ids.length) (hi : Rd w [] (Res.sl v ids.length (ids.flatMap I1))) (rd_c : ConfD.rd c w []) : Rets Try.prog 18 #[.agg (ConfD.cells c).toArray, v] w fun u_ w' => u_ = .bool (decide (c.quorum ids)) ∧ Own w [] [] w' := by
  have hc := hf.wf
  have hv := hf.vs
  have hl := hc.ls
  refine fn_enter (args := [.agg (ConfD.cells c).toArray, v]) Try.func18 rfl Try.ntmps18 rfl (Own.start w) ?_
  refine c_reg ?_
  refine l_box rfl rfl (fun b2 => ?_)
  refine l_as rfl ?_
  refine l_end ?_
  refine c_reg ?_
  refine l_as rfl ?_
  refine l_end ?_
  refine c_seq ?_
  refine c_reg ?_
  refine l_as rfl ?_
  refine l_end ?_
  refine c_block ?_
  refine c_loop1 (fun (k : Nat) => [(1, v), (2, .pointer (some ⟨b2, 0, none⟩)), (5, .int .i64 ((cnt (c.vs.take k) ids) : Nat)), (6, .int .i64 (k : Nat))]) (fun (k : Nat) => k ≤ c.vs.length) (fun (k : Nat) => [Res.row b2 24 (ConfD.cells c)]) (fun (k : Nat) => c.vs.length - k) (fun w' hw => ⟨0, ⟨rfl, rfl, rfl, rfl, trivial⟩, Nat.zero_le _, hw⟩) (fun k g hΦ => ?_)
  have hcl := cnt_le (c.vs.take k) ids
  have hkl : (c.vs.take k).length ≤ k := by simp; omega
  have htk := hΦ
  refine c_seq ?_
  refine c_reg ?_
  refine l_mv rfl ?_
  refine l_fld (o := 0) rfl (by kernel_rfl) rfl ?_
  refine l_ldo 0 (v := c.vv) rfl rfl rfl (by kernel_rfl) rfl ?_
  refine l_lenS (len := c.vs.length) (cs := (c.vs.flatMap I1)) (by kernel_rfl) rfl (fun w' hw' => Own.rd rd_c.vv hw') rfl ?_
  refine l_lss rfl rfl rfl ?_
  refine l_end ?_
  refine c_dec rfl (fun c1 => ?_) (fun c1 => ?_)
  ·
    refine c_skipC ?_
    refine c_seq ?_
    refine c_block ?_
    refine c_reg ?_
    refine l_mv rfl ?_
    refine l_fld (o := 0) rfl (by kernel_rfl) rfl ?_
    refine l_ldo 0 (v := c.vv) rfl rfl rfl (by kernel_rfl) rfl ?_
    refine l_mv rfl ?_
    refine l_idxS (j := k) (sz := 1) (len := c.vs.length) (cs := (c.vs.flatMap I1)) rfl rfl (by kernel_rfl) (fun w' hw' => Own.rd rd_c.vv hw') rfl (by omega) rfl ?_
    refine l_ldS (v := c.vv) (off := offV c.vv + k * 1) (k * 1 + 0) (cs := (c.vs.flatMap I1)) rfl (by omega) (fun w' hw' => Own.rd rd_c.vv hw') (flat_at (sz := 1) (fun _ => rfl) (nth_some (by omega)) (i := 0) rfl) (by kernel_rfl) rfl ?_
    refine l_call (by kernel_rfl) rfl rfl (fun w' hw => ?_)
    refine (has_spec v ids (nth c.vs k) w' (by first | assumption | omega | (simp <;> omega) | (constructor <;> (first | omega | (simp only [LenOk]; omega) | (simp <;> omega)))) (hw.rd0 hi)).mono ?_
    rintro _ w1 ⟨rfl, hO⟩
    refine (?_ : CL _ _ _ _ _ _ (Own w [] [Res.row b2 24 (ConfD.cells c)])) w1 (hw.frame0 hO)
    refine l_end ?_
    refine c_dec rfl (fun c2 => ?_) (fun c2 => ?_)
    ·
      have e2 : cnt (c.vs.take (k + 1)) ids = cnt (c.vs.take k) ids + 1 := by have := cnt_snoc (c.vs.take k) ids (nth c.vs k); rw [if_pos c2] at this; rw [take_nth (by omega)]; exact this
      refine c_last ?_
      refine l_mv rfl ?_
      refine l_add rfl rfl (wi64 (by omega)) rfl ?_
      refine l_as rfl ?_
      refine l_end ?_
      refine c_last ?_
      refine l_mv rfl ?_
      refine l_add rfl rfl (wi64 (by omega)) rfl ?_
      refine l_as rfl ?_
      exact l_nil (fun w' hw => ⟨k + 1, ⟨rfl, rfl, by rw [e2]; rfl, rfl, trivial⟩, (by omega), hw, (by omega)⟩)
    ·
      have e2 : cnt (c.vs.take (k + 1)) ids = cnt (c.vs.take k) ids := by have := cnt_snoc (c.vs.take k) ids (nth c.vs k); rw [if_neg c2] at this; rw [take_nth (by omega)]; exact this
      refine c_skipC ?_
      refine c_last ?_
      refine l_mv rfl ?_
      refine l_add rfl rfl (wi64 (by omega)) rfl ?_
      refine l_as rfl ?_
      exact l_nil (fun w' hw => ⟨k + 1, ⟨rfl, rfl, by rw [e2]; rfl, rfl, trivial⟩, (by omega), hw, (by omega)⟩)
  ·
    refine c_exitC rfl ?_
    refine c_reg ?_
    refine l_ldr (cs := (ConfD.cells c)) 0 rfl rfl (by kernel_rfl) rfl ?_
    refine l_call (by kernel_rfl) rfl rfl (fun w' hw => ?_)
    refine (confOK_spec c w' (by first | assumption | omega | (simp <;> omega) | (constructor <;> (first | omega | (simp only [LenOk]; omega) | (simp <;> omega)))) (rd_c.at0 hw)).mono ?_
    rintro _ w1 ⟨rfl, hO⟩
    refine (?_ : CL _ _ _ _ _ _ (Own w [] [Res.row b2 24 (ConfD.cells c)])) w1 (hw.frame0 hO)
    refine l_mv rfl ?_
    refine l_band (q := c.ok) 7 2 [32, 31, 30, 29, 28, 27, 26] ((((c.vs.length : Nat) : Int) - (((cnt (c.vs.take k) ids) : Nat) : Int)) < (((cnt (c.vs.take k) ids) : Nat) : Int)) rfl rfl rfl rfl rfl rfl trivial rfl (fun h7_2 => ?_) (fun g7_10 => ?_)
    ·
      refine l_on rfl (gT h7_2) ?_
      refine l_mv rfl ?_
      refine l_on rfl (gT h7_2) ?_
      refine l_fld (o := 0) rfl (by kernel_rfl) rfl ?_
      refine l_on rfl (gT h7_2) ?_
      refine l_ldo 0 (v := c.vv) rfl rfl rfl (by kernel_rfl) rfl ?_
      refine l_on rfl (gT h7_2) ?_
      refine l_lenS (len := c.vs.length) (cs := (c.vs.flatMap I1)) (by kernel_rfl) rfl (fun w' hw' => Own.rd rd_c.vv hw') rfl ?_
      refine l_on rfl (gT h7_2) ?_
      refine l_mv rfl ?_
      refine l_on rfl (gT h7_2) ?_
      refine l_sub rfl rfl (wi64 (by omega)) rfl ?_
      refine l_on rfl (gT h7_2) ?_
      refine l_gtr rfl rfl rfl ?_
      exact l_nil (fun w' hw => ⟨(by repeat (first | exact Out.refl _ _ | refine Out.upd rfl ?_ | refine Out.msk rfl ?_)), rfl, hw⟩)
    refine l_as rfl ?_
    refine l_end ?_
    exact c_ret (ret1 (v := .bool (decide (c.ok ∧ ((((c.vs.length : Nat) : Int) - (((cnt (c.vs.take k) ids) : Nat) : Int)) < (((cnt (c.vs.take k) ids) : Nat) : Int))))) rfl rfl (fun w' hw => ⟨(by congr 1; exact decide_eq_decide.2 (by unfold ConfD.quorum; rw [List.take_of_length_le (by omega)]; rw [List.take_of_length_le (by omega)] at hcl; exact and_congr_right fun _ => by omega)), hw.drop⟩))

theorem answers_s (w : World) : Rets Try.prog 12 #[] w fun u_ w' => u_ = .bool true ∧ Own w [] [] w' := by
  refine fn_enter (args := []) Try.func12 rfl Try.ntmps12 rfl (Own.start w) ?_
  refine c_reg ?_
  refine l_as rfl ?_
  refine l_end ?_
  refine c_reg ?_
  refine l_bsl (e := 3) (sz := 1) (vs := [.int .i64 1, .int .i64 2, .int .i64 3]) (by kernel_rfl) rfl rfl (by simp [Value.cells]) (by decide) rfl (fun b2 => ?_)
  refine l_bld (cs := [(.slice (some ⟨b2, 0, none⟩) 3 3), .slice none 0 0]) (z := [.slice none 0 0, .slice none 0 0]) (pl := [(0, 1), (1, 1)]) (by kernel_rfl) (by kernel_rfl) rfl ?_
  refine l_new (v := .agg #[.slice none 0 0, .slice none 0 0]) (by kernel_rfl) rfl (fun b1 => ?_)
  refine l_stN (cs := [.slice none 0 0, .slice none 0 0]) (vs := [(.slice (some ⟨b2, 0, none⟩) 3 3), .slice none 0 0]) 1 rfl rfl rfl (by kernel_rfl) (allc_cons rfl (allc_cons rfl allc_nil)) (Nat.le_of_ble_eq_true rfl) ?_
  refine l_end ?_
  refine c_reg ?_
  refine l_ldr (cs := [(.slice (some ⟨b2, 0, none⟩) 3 3), .slice none 0 0]) 1 rfl rfl (by kernel_rfl) rfl ?_
  refine l_bsl (e := 3) (sz := 1) (vs := [.int .i64 1, .int .i64 3]) (by kernel_rfl) rfl rfl (by simp [Value.cells]) (by decide) rfl (fun b5 => ?_)
  refine l_call (by kernel_rfl) rfl rfl (fun w' hw => ?_)
  refine (quorum_s ({ vv := (.slice (some ⟨b2, 0, none⟩) 3 3), vs := [1, 2, 3], lv := .slice none 0 0, ls := [] } : ConfD) (.slice (some ⟨b5, 0, none⟩) 2 2) [1, 3] w' ⟨by simp, by simp⟩ (by show 2 ≤ 1000000000000; omega) (hw.rdVec0 2 rfl) ⟨(hw.rdVec0 0 rfl), Rd.nil⟩).mono ?_
  rintro _ w1 ⟨rfl, hO⟩
  refine (?_ : CL _ _ _ _ _ _ (Own w [] [Res.vec 3 1 (.slice (some ⟨b2, 0, none⟩) 3 3) [1, 2, 3].length ([1, 2, 3].flatMap I1), Res.row b1 24 [(.slice (some ⟨b2, 0, none⟩) 3 3), .slice none 0 0], Res.vec 3 1 (.slice (some ⟨b5, 0, none⟩) 2 2) [1, 3].length ([1, 3].flatMap I1)])) w1 (hw.frame0 hO)
  refine l_mv rfl ?_
  refine l_band (q := ({ vv := (.slice (some ⟨b2, 0, none⟩) 3 3), vs := [1, 2, 3], lv := .slice none 0 0, ls := [] } : ConfD).quorum [1, 3]) 3 3 [10, 9, 8] ((errOf ({ vv := .slice none 0 0, vs := [], lv := .slice none 0 0, ls := [] } : ConfD).ok) = 2) rfl rfl rfl rfl rfl rfl trivial rfl (fun h2_3 => ?_) (fun g2_7 => ?_)
  ·
    refine l_on rfl (gT h2_3) ?_
    refine l_bld (cs := [.slice none 0 0, .slice none 0 0]) (z := [.slice none 0 0, .slice none 0 0]) (pl := [(0, 1), (1, 1)]) (by kernel_rfl) (by kernel_rfl) rfl ?_
    refine l_on rfl (gT h2_3) ?_
    refine l_call (by kernel_rfl) rfl rfl (fun w' hw => ?_)
    refine (check_s ({ vv := .slice none 0 0, vs := [], lv := .slice none 0 0, ls := [] } : ConfD) w' ⟨by simp, by simp⟩ ⟨Rd.nil, Rd.nil⟩).mono ?_
    rintro _ w1 ⟨rfl, hO⟩
    refine (?_ : CL _ _ _ _ _ _ (Own w [] [Res.vec 3 1 (.slice (some ⟨b2, 0, none⟩) 3 3) [1, 2, 3].length ([1, 2, 3].flatMap I1), Res.row b1 24 [(.slice (some ⟨b2, 0, none⟩) 3 3), .slice none 0 0], Res.vec 3 1 (.slice (some ⟨b5, 0, none⟩) 2 2) [1, 3].length ([1, 3].flatMap I1)])) w1 (hw.frame0 hO)
    refine l_on rfl (gT h2_3) ?_
    refine l_eq rfl rfl rfl ?_
    exact l_nil (fun w' hw => ⟨(by repeat (first | exact Out.refl _ _ | refine Out.upd rfl ?_ | refine Out.msk rfl ?_)), rfl, hw⟩)
  refine l_as rfl ?_
  refine l_end ?_
  exact c_ret (ret1 (v := .bool (decide ((({ vv := (.slice (some ⟨b2, 0, none⟩) 3 3), vs := [1, 2, 3], lv := .slice none 0 0, ls := [] } : ConfD).quorum [1, 3]) ∧ ((errOf ({ vv := .slice none 0 0, vs := [], lv := .slice none 0 0, ls := [] } : ConfD).ok) = 2)))) rfl rfl (fun w' hw => ⟨(by rfl), hw.drop⟩))
end Go.Proofs.Ytniiobmkcbeknaa