/-
  THE WALKS OF a configuration's bytes and error; who votes, who is a member, who is a majority: the program's and the reference's.
-/
import Derived.Test.YtlkoekhjegaimaaOutS
import Derived.Test.YtlkoekhjegaimaaConfA
set_option linter.unusedVariables false
set_option maxRecDepth 10000
namespace Go.Proofs.Ytlkoekhjegaimaa
open Go Go.Sc Go.Proofs

def ConfD.enc (c : ConfD) : List UInt8 := idsB c.vs ++ idsB c.ls
/-- Few enough to be written. -/
structure ConfD.few (c : ConfD) : Prop where
  vs : c.vs.length ≤ 1000000000
  ls : c.ls.length ≤ 1000000000
theorem ConfD.few.wf {c : ConfD} (h : c.few) : c.wf := ⟨by have := h.vs; show _ ≤ _; omega, by have := h.ls; show _ ≤ _; omega⟩
theorem u64_sub {ns : List Int} : ∀ n ∈ ns.map u64, n < 18446744073709551616 := fun n hn => by obtain ⟨a, _, rfl⟩ := List.mem_map.1 hn; exact u64_lt a
theorem idsB_length (ns : List Int) : (idsB ns).length ≤ 9 * (ns.length + 1) := by
  have := numsB_length (ns := u64 ns.length :: ns.map u64) (by intro n hn; rcases List.mem_cons.1 hn with rfl | h; exact u64_lt _; exact u64_sub n h)
  simpa [idsB] using this

-- no function slices.Clone[[]int,int]

theorem ownConf_s (c : ConfD) (w : World) (hc : c.wf) (rd_c : ConfD.rd c w []) : Rets Try.prog 27 #[.agg (ConfD.cells c).toArray] w fun u_ w' => ∃ (a : Value) (b : Value), u_ = .agg #[a, b] ∧ Own w [] [Res.vec 3 1 a c.vs.length (c.vs.flatMap I1), Res.vec 3 1 b c.ls.length (c.ls.flatMap I1)] w' := by
  have hv := hc.vs
  have hl := hc.ls
  refine fn_enter (args := [.agg (ConfD.cells c).toArray]) Try.func27 rfl Try.ntmps27 rfl (Own.start w) ?_
  refine c_reg ?_
  refine l_box rfl rfl (fun b1 => ?_)
  refine l_new (v := .agg #[.slice none 0 0, .slice none 0 0]) (by kernel_rfl) rfl (fun b2 => ?_)
  refine l_end ?_
  refine c_seq ?_
  refine c_heldo [0] rfl (by decide) (by kernel_rfl) (fun w' hw hS => ?_)
  refine h_take 1 rfl (by kernel_rfl) (by kernel_rfl) (by kernel_rfl) (v_fld (o := 0) rfl (by kernel_rfl)) rfl hS ?_
  refine h_take 2 rfl (by kernel_rfl) (by kernel_rfl) (by kernel_rfl) (v_ldo 0 (v := c.vv) rfl rfl rfl (by kernel_rfl)) rfl hS ?_
  refine h_take 5 rfl (by kernel_rfl) (by kernel_rfl) (by kernel_rfl) (v_fld (o := 1) rfl (by kernel_rfl)) rfl hS ?_
  refine h_take 6 rfl (by kernel_rfl) (by kernel_rfl) (by kernel_rfl) (v_ldo 0 (v := c.lv) rfl rfl rfl (by kernel_rfl)) rfl hS ?_
  refine h_pick2 (i := 0) (j := 4) (by kernel_rfl) ?_ ?_
  ·
    refine pk_of 0 rfl hw ?_
    refine l_bsl (e := 3) (sz := 1) (vs := []) (by kernel_rfl) rfl rfl (by simp [Value.cells]) (by decide) rfl (fun b3 => ?_)
    refine l_nil (fun w' hw => ?_)
    have hS := hw.sel [0] rfl (by decide)
    refine ⟨hS, ?_⟩
    refine h_pick2 (i := 3) (j := 4) (by kernel_rfl) ?_ ?_
    ·
      refine pk_of 3 rfl hw ?_
      refine l_appF (g := I1) (sz := 1) (by' := 8) (fun _ => rfl) (l := []) (l' := c.vs) (by simp [cell1, I1]) 2 (by kernel_rfl) rfl rfl rfl (fun w' hw' => Own.rd rd_c.vv hw') (by first | omega | (simp; omega)) (by decide) rfl (fun v6 => ?_)
      refine l_nil (fun w' hw => ?_)
      have hS := hw.sel [0] rfl (by decide)
      refine ⟨hS, ?_⟩
      refine h_one 4 (by kernel_rfl) rfl hw ?_
      refine l_bsl (e := 3) (sz := 1) (vs := []) (by kernel_rfl) rfl rfl (by simp [Value.cells]) (by decide) rfl (fun b7 => ?_)
      refine l_nil (fun w' hw => ?_)
      have hS := hw.sel [0] rfl (by decide)
      refine ⟨hS, ?_⟩
      refine h_one 7 (by kernel_rfl) rfl hw ?_
      refine l_appF (g := I1) (sz := 1) (by' := 8) (fun _ => rfl) (l := []) (l' := c.ls) (by simp [cell1, I1]) 3 (by kernel_rfl) rfl rfl rfl (fun w' hw' => Own.rd rd_c.lv hw') (by first | omega | (simp; omega)) (by decide) rfl (fun v10 => ?_)
      refine l_nil (fun w' hw => ?_)
      have hS := hw.sel [0] rfl (by decide)
      refine ⟨hS, ?_⟩
      refine h_one 8 (by kernel_rfl) rfl hw ?_
      refine l_haveO (fun w' hw => Own.cell1Vec (i := 2) rfl hw) (fun hc3_ => ?_)
      refine l_haveO (fun w' hw => Own.cell1Vec (i := 3) rfl hw) (fun hc4_ => ?_)
      refine l_bldc (cs := [v6, v10]) (z := [.slice none 0 0, .slice none 0 0]) (pl := [(0, 1), (1, 1)]) (by kernel_rfl) ⟨hc3_, hc4_, trivial⟩ (by kernel_rfl) rfl ?_
      refine l_nil (fun w' hw => ?_)
      have hS := hw.sel [0] rfl (by decide)
      refine ⟨hS, ?_⟩
      refine h_one 9 (by kernel_rfl) rfl hw ?_
      refine l_stN (cs := [.slice none 0 0, .slice none 0 0]) (vs := [v6, v10]) 1 rfl rfl rfl (by kernel_rfl) (allc_cons hc3_ (allc_cons hc4_ allc_nil)) (Nat.le_of_ble_eq_true rfl) ?_
      refine l_nil (fun w' hw => ?_)
      have hS := hw.sel [0] rfl (by decide)
      refine ⟨hS, ?_⟩
      refine h_done (by kernel_rfl) ?_
      refine (?_ : C _ _ _ _ _ _ _ (Own w [] [Res.row b1 53 (ConfD.cells c), Res.row b2 53 [v6, v10], Res.vec 3 1 v6 c.vs.length (c.vs.flatMap I1), Res.vec 3 1 v10 c.ls.length (c.ls.flatMap I1)])) _ hw
      exact c_ret (retc (cs := [v6, v10]) rfl rfl (by kernel_rfl) (Own.rowCells (i := 1) rfl) (fun w' hw => ⟨v6, v10, rfl, hw.sel [2, 3] rfl (by decide)⟩))
    ·
      refine pk_of 4 rfl hw ?_
      refine l_bsl (e := 3) (sz := 1) (vs := []) (by kernel_rfl) rfl rfl (by simp [Value.cells]) (by decide) rfl (fun b7 => ?_)
      refine l_nil (fun w' hw => ?_)
      have hS := hw.sel [0] rfl (by decide)
      refine ⟨hS, ?_⟩
      refine h_one 3 (by kernel_rfl) rfl hw ?_
      refine l_appF (g := I1) (sz := 1) (by' := 8) (fun _ => rfl) (l := []) (l' := c.vs) (by simp [cell1, I1]) 2 (by kernel_rfl) rfl rfl rfl (fun w' hw' => Own.rd rd_c.vv hw') (by first | omega | (simp; omega)) (by decide) rfl (fun v6 => ?_)
      refine l_nil (fun w' hw => ?_)
      have hS := hw.sel [0] rfl (by decide)
      refine ⟨hS, ?_⟩
      refine h_one 7 (by kernel_rfl) rfl hw ?_
      refine l_appF (g := I1) (sz := 1) (by' := 8) (fun _ => rfl) (l := []) (l' := c.ls) (by simp [cell1, I1]) 3 (by kernel_rfl) rfl rfl rfl (fun w' hw' => Own.rd rd_c.lv hw') (by first | omega | (simp; omega)) (by decide) rfl (fun v10 => ?_)
      refine l_nil (fun w' hw => ?_)
      have hS := hw.sel [0] rfl (by decide)
      refine ⟨hS, ?_⟩
      refine h_one 8 (by kernel_rfl) rfl hw ?_
      refine l_haveO (fun w' hw => Own.cell1Vec (i := 2) rfl hw) (fun hc5_ => ?_)
      refine l_haveO (fun w' hw => Own.cell1Vec (i := 3) rfl hw) (fun hc6_ => ?_)
      refine l_bldc (cs := [v6, v10]) (z := [.slice none 0 0, .slice none 0 0]) (pl := [(0, 1), (1, 1)]) (by kernel_rfl) ⟨hc5_, hc6_, trivial⟩ (by kernel_rfl) rfl ?_
      refine l_nil (fun w' hw => ?_)
      have hS := hw.sel [0] rfl (by decide)
      refine ⟨hS, ?_⟩
      refine h_one 9 (by kernel_rfl) rfl hw ?_
      refine l_stN (cs := [.slice none 0 0, .slice none 0 0]) (vs := [v6, v10]) 1 rfl rfl rfl (by kernel_rfl) (allc_cons hc5_ (allc_cons hc6_ allc_nil)) (Nat.le_of_ble_eq_true rfl) ?_
      refine l_nil (fun w' hw => ?_)
      have hS := hw.sel [0] rfl (by decide)
      refine ⟨hS, ?_⟩
      refine h_done (by kernel_rfl) ?_
      refine (?_ : C _ _ _ _ _ _ _ (Own w [] [Res.row b1 53 (ConfD.cells c), Res.row b2 53 [v6, v10], Res.vec 3 1 v6 c.vs.length (c.vs.flatMap I1), Res.vec 3 1 v10 c.ls.length (c.ls.flatMap I1)])) _ hw
      exact c_ret (retc (cs := [v6, v10]) rfl rfl (by kernel_rfl) (Own.rowCells (i := 1) rfl) (fun w' hw => ⟨v6, v10, rfl, hw.sel [2, 3] rfl (by decide)⟩))
  ·
    refine pk_of 4 rfl hw ?_
    refine l_bsl (e := 3) (sz := 1) (vs := []) (by kernel_rfl) rfl rfl (by simp [Value.cells]) (by decide) rfl (fun b7 => ?_)
    refine l_nil (fun w' hw => ?_)
    have hS := hw.sel [0] rfl (by decide)
    refine ⟨hS, ?_⟩
    refine h_one 0 (by kernel_rfl) rfl hw ?_
    refine l_bsl (e := 3) (sz := 1) (vs := []) (by kernel_rfl) rfl rfl (by simp [Value.cells]) (by decide) rfl (fun b3 => ?_)
    refine l_nil (fun w' hw => ?_)
    have hS := hw.sel [0] rfl (by decide)
    refine ⟨hS, ?_⟩
    refine h_one 3 (by kernel_rfl) rfl hw ?_
    refine l_appF (g := I1) (sz := 1) (by' := 8) (fun _ => rfl) (l := []) (l' := c.vs) (by simp [cell1, I1]) 3 (by kernel_rfl) rfl rfl rfl (fun w' hw' => Own.rd rd_c.vv hw') (by first | omega | (simp; omega)) (by decide) rfl (fun v6 => ?_)
    refine l_nil (fun w' hw => ?_)
    have hS := hw.sel [0] rfl (by decide)
    refine ⟨hS, ?_⟩
    refine h_one 7 (by kernel_rfl) rfl hw ?_
    refine l_appF (g := I1) (sz := 1) (by' := 8) (fun _ => rfl) (l := []) (l' := c.ls) (by simp [cell1, I1]) 2 (by kernel_rfl) rfl rfl rfl (fun w' hw' => Own.rd rd_c.lv hw') (by first | omega | (simp; omega)) (by decide) rfl (fun v10 => ?_)
    refine l_nil (fun w' hw => ?_)
    have hS := hw.sel [0] rfl (by decide)
    refine ⟨hS, ?_⟩
    refine h_one 8 (by kernel_rfl) rfl hw ?_
    refine l_haveO (fun w' hw => Own.cell1Vec (i := 3) rfl hw) (fun hc7_ => ?_)
    refine l_haveO (fun w' hw => Own.cell1Vec (i := 2) rfl hw) (fun hc8_ => ?_)
    refine l_bldc (cs := [v6, v10]) (z := [.slice none 0 0, .slice none 0 0]) (pl := [(0, 1), (1, 1)]) (by kernel_rfl) ⟨hc7_, hc8_, trivial⟩ (by kernel_rfl) rfl ?_
    refine l_nil (fun w' hw => ?_)
    have hS := hw.sel [0] rfl (by decide)
    refine ⟨hS, ?_⟩
    refine h_one 9 (by kernel_rfl) rfl hw ?_
    refine l_stN (cs := [.slice none 0 0, .slice none 0 0]) (vs := [v6, v10]) 1 rfl rfl rfl (by kernel_rfl) (allc_cons hc7_ (allc_cons hc8_ allc_nil)) (Nat.le_of_ble_eq_true rfl) ?_
    refine l_nil (fun w' hw => ?_)
    have hS := hw.sel [0] rfl (by decide)
    refine ⟨hS, ?_⟩
    refine h_done (by kernel_rfl) ?_
    refine (?_ : C _ _ _ _ _ _ _ (Own w [] [Res.row b1 53 (ConfD.cells c), Res.row b2 53 [v6, v10], Res.vec 3 1 v10 c.ls.length (c.ls.flatMap I1), Res.vec 3 1 v6 c.vs.length (c.vs.flatMap I1)])) _ hw
    exact c_ret (retc (cs := [v6, v10]) rfl rfl (by kernel_rfl) (Own.rowCells (i := 1) rfl) (fun w' hw => ⟨v6, v10, rfl, hw.sel [3, 2] rfl (by decide)⟩))

theorem confWrite_s (o : Nat) (sl : Value) (bs : List UInt8) (c : ConfD) (w : World) (hb : bs.length + 9 * (c.vs.length + c.ls.length + 2) ≤ 100000000000) (rd_c : ConfD.rd c w (fps [Res.bv o TOut sl bs])) (hin : Own w (fps [Res.bv o TOut sl bs]) [Res.bv o TOut sl bs] w) : Rets Try.prog 127 #[.pointer (some ⟨o, 0, none⟩), .agg (ConfD.cells c).toArray] w fun u_ w' => ∃ (sl' : Value), u_ = .tuple #[] ∧ Own w (fps [Res.bv o TOut sl bs]) [Res.bv o TOut sl' (bs ++ c.enc)] w' := by
  have h0 := idsB_length c.vs
  refine fn_enter (args := [.pointer (some ⟨o, 0, none⟩), .agg (ConfD.cells c).toArray]) Try.func127 rfl Try.ntmps127 rfl (show Own w (fps [Res.bv o TOut sl bs]) [Res.bv o TOut sl bs] w from hin) ?_
  refine c_reg ?_
  refine l_box rfl rfl (fun b3 => ?_)
  refine l_end ?_
  refine c_reg ?_
  refine l_mv rfl ?_
  refine l_fld (o := 0) rfl (by kernel_rfl) rfl ?_
  refine l_ldo 1 (v := c.vv) rfl rfl rfl (by kernel_rfl) rfl ?_
  refine l_call (by kernel_rfl) rfl rfl (fun w' hw => ?_)
  refine (ids_s o _ _ c.vv c.vs w' (by first | assumption | omega | (simp <;> omega) | (constructor <;> (first | omega | (simp only [LenOk]; omega) | (simp <;> omega)))) (hw.rdTo rd_c.vv [0] rfl) (hw.give [0] rfl (by decide))).mono ?_
  rintro _ w1 ⟨sl'1_, rfl, hO⟩
  refine (?_ : CL _ _ _ _ _ _ (Own w (fps [Res.bv o TOut sl bs]) [Res.row b3 53 (ConfD.cells c), Res.bv o TOut sl'1_ (bs ++ idsB c.vs)])) w1 (hw.frameL [0] rfl hO)
  refine l_end ?_
  refine c_last ?_
  refine l_mv rfl ?_
  refine l_fld (o := 1) rfl (by kernel_rfl) rfl ?_
  refine l_ldo 0 (v := c.lv) rfl rfl rfl (by kernel_rfl) rfl ?_
  refine l_call (by kernel_rfl) rfl rfl (fun w' hw => ?_)
  refine (ids_s o sl'1_ (bs ++ idsB c.vs) c.lv c.ls w' (by first | assumption | omega | (simp <;> omega) | (constructor <;> (first | omega | (simp only [LenOk]; omega) | (simp <;> omega)))) (hw.rdTo rd_c.lv [1] rfl) (hw.give [1] rfl (by decide))).mono ?_
  rintro _ w1 ⟨sl'2_, rfl, hO⟩
  refine (?_ : CL _ _ _ _ _ _ (Own w (fps [Res.bv o TOut sl bs]) [Res.row b3 53 (ConfD.cells c), Res.bv o TOut sl'2_ ((bs ++ idsB c.vs) ++ idsB c.ls)])) w1 (hw.frameL [1] rfl hO)
  exact l_nil (ret0 rfl (fun w' hw => ⟨sl'2_, rfl, by have h := hw.one 1 rfl; simpa [ConfD.enc] using h⟩))

theorem confs_s (w : World) : Rets Try.prog 72 #[] w fun u_ w' => u_ = .agg #[.func (.func 122) #[] #[], .func (.func 127) #[] #[], .func (.func 129) #[] #[]] ∧ Own w [] [] w' := by
  refine fn_enter (args := []) Try.func72 rfl Try.ntmps72 rfl (Own.start w) ?_
  refine c_reg ?_
  refine l_new (v := .agg #[.nilFunc, .nilFunc, .nilFunc]) (by kernel_rfl) rfl (fun b0 => ?_)
  refine l_end ?_
  refine c_reg ?_
  refine l_bld (cs := [.func (.func 122) #[] #[], .func (.func 127) #[] #[], .func (.func 129) #[] #[]]) (z := [.nilFunc, .nilFunc, .nilFunc]) (pl := [(0, 1), (1, 1), (2, 1)]) (by kernel_rfl) (by kernel_rfl) rfl ?_
  refine l_stN (cs := [.nilFunc, .nilFunc, .nilFunc]) (vs := [.func (.func 122) #[] #[], .func (.func 127) #[] #[], .func (.func 129) #[] #[]]) 0 rfl rfl rfl (by kernel_rfl) (allc_cons rfl (allc_cons rfl (allc_cons rfl allc_nil))) (Nat.le_of_ble_eq_true rfl) ?_
  refine l_end ?_
  exact c_ret (retc (cs := [.func (.func 122) #[] #[], .func (.func 127) #[] #[], .func (.func 129) #[] #[]]) rfl rfl (by kernel_rfl) (Own.rowCells (i := 0) rfl) (fun w' hw => ⟨rfl, hw.drop⟩))

theorem confBytes_s (c : ConfD) (w : World) (hf : c.few) (rd_c : ConfD.rd c w []) : Rets Try.prog 73 #[.agg #[.func (.func 122) #[] #[], .func (.func 127) #[] #[], .func (.func 129) #[] #[]], .agg (ConfD.cells c).toArray] w fun u_ w' => ∃ (r : Value), u_ = .tuple #[r, .int .i64 (errOf c.ok)] ∧ Own w [] [Res.vec 5 1 r (if c.ok then c.enc else []).length ((if c.ok then c.enc else []).map vb)] w' := by
  have hc := hf.wf
  have hv := hf.vs
  have hl := hf.ls
  refine fn_enter (args := [.agg #[.func (.func 122) #[] #[], .func (.func 127) #[] #[], .func (.func 129) #[] #[]], .agg (ConfD.cells c).toArray]) Try.func73 rfl Try.ntmps73 rfl (Own.start w) ?_
  refine c_reg ?_
  refine l_box rfl rfl (fun b2 => ?_)
  refine l_box rfl rfl (fun b3 => ?_)
  refine l_as rfl ?_
  refine l_as rfl ?_
  refine l_end ?_
  refine c_seq ?_
  refine c_reg ?_
  refine l_fld (o := 0) rfl (by kernel_rfl) rfl ?_
  refine l_ldo 0 (v := .func (.func 122) #[] #[]) rfl rfl rfl (by kernel_rfl) rfl ?_
  refine l_ldr (cs := (ConfD.cells c)) 1 rfl rfl (by kernel_rfl) rfl ?_
  refine l_callv (fst := []) (cap := []) rfl (by kernel_rfl) rfl rfl (fun w' hw => ?_)
  refine (confSound_spec c w' (by first | assumption | omega | (simp <;> omega) | (constructor <;> (first | omega | (simp only [LenOk]; omega) | (simp <;> omega)))) (rd_c.at0 hw)).mono ?_
  rintro _ w1 ⟨rfl, hO⟩
  refine (?_ : CL _ _ _ _ _ _ (Own w [] [Res.row b2 144 [.func (.func 122) #[] #[], .func (.func 127) #[] #[], .func (.func 129) #[] #[]], Res.row b3 53 (ConfD.cells c)])) w1 (hw.frame0 hO)
  refine l_notp (q := c.ok) rfl rfl ?_
  refine l_end ?_
  refine c_dec rfl (fun c1 => ?_) (fun c1 => ?_)
  ·
    refine c_reg ?_
    refine l_as rfl ?_
    refine l_as rfl ?_
    refine l_end ?_
    exact c_ret (ret2 (v := .slice none 0 0) (v' := .int .i64 2) rfl rfl rfl (fun w' hw => ⟨.slice none 0 0, (by rw [errOf_F c1]), by rw [if_neg c1]; exact (own_nil hw T8 1).one 2 rfl⟩))
  ·
    refine c_skipC ?_
    refine c_reg ?_
    refine l_bld (cs := [.slice none 0 0]) (z := [.slice none 0 0]) (pl := [(0, 1)]) (by kernel_rfl) (by kernel_rfl) rfl ?_
    refine l_box rfl rfl (fun b13 => ?_)
    refine l_as rfl ?_
    refine l_end ?_
    refine c_reg ?_
    refine l_fld (o := 1) rfl (by kernel_rfl) rfl ?_
    refine l_ldo 0 (v := .func (.func 127) #[] #[]) rfl rfl rfl (by kernel_rfl) rfl ?_
    refine l_mv rfl ?_
    refine l_ldr (cs := (ConfD.cells c)) 1 rfl rfl (by kernel_rfl) rfl ?_
    refine l_own [Res.row b2 144 [.func (.func 122) #[] #[], .func (.func 127) #[] #[], .func (.func 129) #[] #[]], Res.row b3 53 (ConfD.cells c), Res.bv b13 TOut (.slice none 0 0) ([] : List UInt8)] (fun w' hw => (own_nil hw T8 1).joinBv (i := 2) (j := 3) (by decide) rfl rfl) ?_
    refine l_callv (fst := []) (cap := []) rfl (by kernel_rfl) rfl rfl (fun w' hw => ?_)
    refine (confWrite_s b13 (.slice none 0 0) ([] : List UInt8) c w' (by first | assumption | omega | (simp <;> omega) | (constructor <;> (first | omega | (simp only [LenOk]; omega) | (simp <;> omega)))) (rd_c.at hw [2] rfl) (hw.give [2] rfl (by decide))).mono ?_
    rintro _ w1 ⟨sl'1_, rfl, hO⟩
    refine (?_ : CL _ _ _ _ _ _ (Own w [] [Res.row b2 144 [.func (.func 122) #[] #[], .func (.func 127) #[] #[], .func (.func 129) #[] #[]], Res.row b3 53 (ConfD.cells c), Res.bv b13 TOut sl'1_ (([] : List UInt8) ++ c.enc)])) w1 (hw.frameL [2] rfl hO)
    refine l_end ?_
    refine c_reg ?_
    refine l_mv rfl ?_
    refine l_nck rfl rfl ?_
    refine l_fld (o := 0) rfl (by kernel_rfl) rfl ?_
    refine l_own [Res.row b2 144 [.func (.func 122) #[] #[], .func (.func 127) #[] #[], .func (.func 129) #[] #[]], Res.row b3 53 (ConfD.cells c), Res.row b13 TOut [sl'1_], Res.vec 5 1 sl'1_ (([] : List UInt8) ++ c.enc).length ((([] : List UInt8) ++ c.enc).map vb)] (fun w' hw => hw.splitBv (i := 2) (o := b13) (T := TOut) (v := sl'1_) (bs := (([] : List UInt8) ++ c.enc)) rfl) ?_
    refine l_ldo 2 (v := sl'1_) rfl rfl rfl (by kernel_rfl) rfl ?_
    refine l_as rfl ?_
    refine l_as rfl ?_
    refine l_end ?_
    exact c_ret (ret2 (v := sl'1_) (v' := .int .i64 0) rfl rfl rfl (fun w' hw => ⟨sl'1_, (by rw [errOf_T (Decidable.not_not.1 c1)]), by rw [if_pos (Decidable.not_not.1 c1)]; exact hw.one 3 rfl⟩))

theorem msgConf_s (c : ConfD) (w : World) (hf : c.few) (rd_c : ConfD.rd c w []) : Rets Try.prog 26 #[.agg (ConfD.cells c).toArray] w fun u_ w' => ∃ (r : Value), u_ = .tuple #[r, .int .i64 (errOf c.ok)] ∧ Own w [] [Res.vec 5 1 r (if c.ok then c.enc else []).length ((if c.ok then c.enc else []).map vb)] w' := by
  refine fn_enter (args := [.agg (ConfD.cells c).toArray]) Try.func26 rfl Try.ntmps26 rfl (Own.start w) ?_
  refine c_reg ?_
  refine l_box rfl rfl (fun b1 => ?_)
  refine l_as rfl ?_
  refine l_as rfl ?_
  refine l_end ?_
  refine c_seq ?_
  refine c_heldo [0] rfl (by decide) (by kernel_rfl) (fun w' hw hS => ?_)
  refine h_take 1 rfl (by kernel_rfl) (by kernel_rfl) (by kernel_rfl) (v_ldr (cs := (ConfD.cells c)) 0 rfl rfl (by kernel_rfl)) rfl hS ?_
  refine h_one 0 (by kernel_rfl) rfl hw ?_
  refine l_call (by kernel_rfl) rfl rfl (fun w' hw => ?_)
  refine (confs_s w').mono ?_
  rintro _ w1 ⟨rfl, hO⟩
  refine (?_ : CL _ _ _ _ _ _ (Own w [] [Res.row b1 53 (ConfD.cells c)])) w1 (hw.frame0 hO)
  refine l_nil (fun w' hw => ?_)
  have hS := hw.sel [0] rfl (by decide)
  refine ⟨hS, ?_⟩
  refine h_one 2 (by kernel_rfl) rfl hw ?_
  refine l_call (by kernel_rfl) rfl rfl (fun w' hw => ?_)
  refine (confBytes_s c w' (by first | assumption | omega | (simp <;> omega) | (constructor <;> (first | omega | (simp only [LenOk]; omega) | (simp <;> omega)))) (rd_c.at0 hw)).mono ?_
  rintro _ w1 ⟨r1_, rfl, hO⟩
  refine (?_ : CL _ _ _ _ _ _ (Own w [] [Res.row b1 53 (ConfD.cells c), Res.vec 5 1 r1_ (if c.ok then c.enc else []).length ((if c.ok then c.enc else []).map vb)])) w1 (hw.frame0 hO)
  refine l_nil (fun w' hw => ?_)
  have hS := hw.sel [0] rfl (by decide)
  refine ⟨hS, ?_⟩
  refine h_take 3 rfl (by kernel_rfl) (by kernel_rfl) (by kernel_rfl) (v_ext (vs := [r1_, .int .i64 (errOf c.ok)]) rfl rfl) rfl hS ?_
  refine h_take 4 rfl (by kernel_rfl) (by kernel_rfl) (by kernel_rfl) (v_ext (vs := [r1_, .int .i64 (errOf c.ok)]) rfl rfl) rfl hS ?_
  refine h_take 5 rfl (by kernel_rfl) (by kernel_rfl) (by kernel_rfl) (v_as) rfl hS ?_
  refine h_take 6 rfl (by kernel_rfl) (by kernel_rfl) (by kernel_rfl) (v_as) rfl hS ?_
  refine h_done (by kernel_rfl) ?_
  refine (?_ : C _ _ _ _ _ _ _ (Own w [] [Res.row b1 53 (ConfD.cells c), Res.vec 5 1 r1_ (if c.ok then c.enc else []).length ((if c.ok then c.enc else []).map vb)])) _ hw
  exact c_ret (ret2 (v := r1_) (v' := .int .i64 (errOf c.ok)) rfl rfl rfl (fun w' hw => ⟨r1_, rfl, hw.sel [1] rfl (by decide)⟩))

-- no function scupper/conf.Check

theorem contains_cs (v : Value) (l : List Int) (n : Int) (w : World) (hl : LenOk l.length) (hv : Rd w [] (Res.sl v l.length (l.flatMap I1))) : Rets Try.prog 126 #[v, .int .i64 n] w fun u_ w' => u_ = .bool (decide (n ∈ l)) ∧ Own w [] [] w' := by
  exact contains_spec v l n w hl hv
-- no function scupper/conf.Voter
-- no function scupper/scupperref10.Voter
-- no function scupper/conf.Member
-- no function scupper/scupperref10.Member

/-- How many of a list's are in another one. -/
def cnt (vs ids : List Int) : Nat := (vs.filter (· ∈ ids)).length
theorem cnt_le (vs ids : List Int) : cnt vs ids ≤ vs.length := List.length_filter_le _ _
theorem cnt_snoc (vs ids : List Int) (x : Int) : cnt (vs ++ [x]) ids = cnt vs ids + if x ∈ ids then 1 else 0 := by
  unfold cnt
  rw [List.filter_append, List.length_append]
  by_cases h : x ∈ ids <;> simp [List.filter_cons, h]
def ConfD.quorum (c : ConfD) (ids : List Int) : Prop := c.ok ∧ c.vs.length < 2 * cnt c.vs ids
instance (c : ConfD) (ids : List Int) : Decidable (c.quorum ids) := inferInstanceAs (Decidable (_ ∧ _))

-- no function scupper/conf.Quorum
-- no function scupper/scupperref10.Quorum

-- no function scupper/scupperlaw10.answers
end Go.Proofs.Ytlkoekhjegaimaa