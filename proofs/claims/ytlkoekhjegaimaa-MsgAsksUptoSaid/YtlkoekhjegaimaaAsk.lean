/-
  THE WALKS OF what edges ask: sound, written, its bytes; and the reference's; the reference's bytes of what they are told.
-/
import Derived.Test.YtlkoekhjegaimaaTold
set_option linter.unusedVariables false
set_option maxRecDepth 10000
namespace Go.Proofs.Ytlkoekhjegaimaa
open Go Go.Sc Go.Proofs

def cmdKindC : List Value := [.func (.func 97) #[] #[], .func (.func 98) #[] #[], .func (.func 101) #[] #[]]
def cmdZ : CmdD := ⟨0, 0, 0, ⟨#[]⟩, 0, 0, 0⟩
deriving instance DecidableEq for CmdD
def cmdFlat : List (Nat × Option (Option IntKind)) := [(0, some (some .u64)), (1, some (some .u64)), (2, some (some .i64)), (3, some none), (4, some (some .i64)), (5, some (some .i64)), (6, some (some .u64))]
theorem cmdEq (r s : CmdD) : eqL [(0, some (some .u64)), (1, some (some .u64)), (2, some (some .i64)), (3, some none), (4, some (some .i64)), (5, some (some .i64)), (6, some (some .u64))] r.cells s.cells = decide (r = s) := by
  obtain ⟨a, b, c, d, e, f, g⟩ := r
  obtain ⟨a', b', c', d', e', f', g'⟩ := s
  simp [eqL, CmdD.cells, eqC, vu, CmdD.mk.injEq, Bool.decide_and]
  have h : ∀ m n : Nat, decide ((m : Int) = n) = decide (m = n) := fun m n => decide_eq_decide.2 (by omega)
  simp only [h]
structure AskD where
  look : Bool
  lazy : Bool
  seq : Nat
  cmd : CmdD
  key : ByteArray
structure AskD.wf (x : AskD) : Prop where
  seq : isU x.seq
  cmd : x.cmd.wf
  key : x.key.size ≤ 1048576
def AskD.cells (x : AskD) : List Value := [.bool x.look, .bool x.lazy, vu x.seq] ++ (x.cmd.cells ++ [.string x.key])
def AskD.ok (x : AskD) : Prop := if x.look = true then x.cmd = cmdZ ∧ x.key.size ≤ 64 else (x.cmd.ok ∧ x.key = ⟨#[]⟩) ∧ x.lazy = false
instance (x : AskD) : Decidable x.ok := by unfold AskD.ok; infer_instance
def AskD.enc (x : AskD) : List UInt8 := numsB [fl x.look, fl x.lazy] ++ numsB [x.seq] ++ x.cmd.enc ++ dat (strB x.key)
theorem AskD.enc_le {x : AskD} (h : x.wf) : x.enc.length ≤ 3000000 := by
  have h1 := numsB_length (ns := [fl x.look, fl x.lazy]) (by simp [fl_lt])
  have h2 := numsB_length (ns := [x.seq]) (by have := h.seq; simp only [isU] at *; simp [*])
  have h3 := CmdD.enc_le h.cmd
  have h4 := dat_length (strB x.key) (by rw [strB_length]; have := h.key; omega)
  have h5 := h.key
  have h6 := h.cmd.key
  rw [strB_length] at h4
  simp only [AskD.enc, List.length_append, List.length_cons, List.length_nil] at *
  omega

theorem askSound_spec (x : AskD) (cb : Nat) (w : World) (hc : Row w cb 111 cmdKindC) : Rets Try.prog 108 #[.agg x.cells.toArray, .pointer (some ⟨cb, 0, none⟩)] w fun v w' => v = .bool (decide x.ok) ∧ Own w [] [] w' := by
  refine fn_enter (args := [.agg x.cells.toArray, .pointer (some ⟨cb, 0, none⟩)]) Try.func108 rfl Try.ntmps108 rfl (Own.start w) ?_
  refine c_reg ?_
  refine l_box rfl rfl (fun b2 => ?_)
  refine l_as rfl ?_
  refine l_end ?_
  refine c_seq ?_
  refine c_reg ?_
  refine l_fld (o := 0) rfl (by kernel_rfl) rfl ?_
  refine l_ldo 0 rfl rfl rfl (by kernel_rfl) rfl ?_
  refine l_end ?_
  refine c_if rfl (fun c1 => ?_) (fun c1 => ?_)
  ·
    refine c_reg ?_
    refine l_fld (o := 3) rfl (by kernel_rfl) rfl ?_
    refine l_ldN (cs := x.cmd.cells) rfl (by kernel_rfl) (fun w' hw' j u hu => hw'.rowCell (i := 0) rfl (sub_at (pre := [.bool x.look, .bool x.lazy, vu x.seq]) (post := [.string x.key]) j u hu)) rfl ?_
    refine l_bld (cs := cmdZ.cells) (z := [.int .u64 0, .int .u64 0, .int .i64 0, .string ⟨#[]⟩, .int .i64 0, .int .i64 0, .int .u64 0]) (pl := [(0, 1), (1, 1), (2, 1), (3, 1), (4, 1), (5, 1), (6, 1)]) (by kernel_rfl) rfl rfl ?_
    refine l_val rfl (v_stp (cmdEq x.cmd cmdZ) (by kernel_rfl) (by kernel_rfl) rfl rfl rfl rfl) ?_
    refine l_mv rfl ?_
    refine l_band 4 4 [14, 13, 12, 11] (((x.key.size : Int) ≤ 64)) rfl rfl rfl rfl rfl rfl trivial rfl (fun h2_4 => ?_) (fun g2_9 => ?_)
    ·
      refine l_on rfl (gT h2_4) ?_
      refine l_fld (o := 10) rfl (by kernel_rfl) rfl ?_
      refine l_on rfl (gT h2_4) ?_
      refine l_ldo 0 rfl rfl rfl (by kernel_rfl) rfl ?_
      refine l_on rfl (gT h2_4) ?_
      refine l_lens (by kernel_rfl) rfl rfl ?_
      refine l_on rfl (gT h2_4) ?_
      refine l_leq rfl rfl rfl ?_
      exact l_nil (fun w' hw => ⟨(by repeat (first | exact Out.refl _ _ | refine Out.upd rfl ?_ | refine Out.msk rfl ?_)), rfl, hw⟩)
    refine l_as rfl ?_
    refine l_end ?_
    exact c_ret (ret1 (v := .bool (decide (x.cmd = cmdZ ∧ (x.key.size : Int) ≤ 64))) rfl rfl (fun w' hw => ⟨by congr 1; exact decide_eq_decide.2 (by unfold AskD.ok; rw [if_pos c1]; exact and_congr_right fun _ => by omega), hw.drop⟩))
  ·
    refine c_skipC ?_
    refine c_reg ?_
    refine l_fld (o := 0) rfl (by kernel_rfl) rfl ?_
    refine l_ldq rfl (hc.cell rfl) (by simp) (by kernel_rfl) rfl ?_
    refine l_fld (o := 3) rfl (by kernel_rfl) rfl ?_
    refine l_ldN (cs := x.cmd.cells) rfl (by kernel_rfl) (fun w' hw' j u hu => hw'.rowCell (i := 0) rfl (sub_at (pre := [.bool x.look, .bool x.lazy, vu x.seq]) (post := [.string x.key]) j u hu)) rfl ?_
    refine l_callv (fst := []) (cap := []) rfl (by kernel_rfl) rfl rfl (fun w' hw => ?_)
    refine (cmdSound_spec x.cmd w').mono ?_
    rintro _ w1 ⟨rfl, hO⟩
    refine (?_ : CL _ _ _ _ _ _ (Own w [] _)) w1 (hw.frame0 hO)
    refine l_mv rfl ?_
    refine l_band 3 5 [24, 23, 22] ((x.key = ⟨#[]⟩)) rfl rfl rfl rfl rfl rfl trivial rfl (fun h3_5 => ?_) (fun g3_9 => ?_)
    ·
      refine l_on rfl (gT h3_5) ?_
      refine l_fld (o := 10) rfl (by kernel_rfl) rfl ?_
      refine l_on rfl (gT h3_5) ?_
      refine l_ldo 0 rfl rfl rfl (by kernel_rfl) rfl ?_
      refine l_on rfl (gT h3_5) ?_
      refine l_seq rfl rfl rfl ?_
      exact l_nil (fun w' hw => ⟨(by repeat (first | exact Out.refl _ _ | refine Out.upd rfl ?_ | refine Out.msk rfl ?_)), rfl, hw⟩)
    refine l_mv rfl ?_
    refine l_band 3 10 [29, 28, 27] ((x.lazy = false)) rfl rfl rfl rfl rfl rfl trivial rfl (fun h3_10 => ?_) (fun g3_14 => ?_)
    ·
      refine l_on rfl (gT h3_10) ?_
      refine l_fld (o := 1) rfl (by kernel_rfl) rfl ?_
      refine l_on rfl (gT h3_10) ?_
      refine l_ldo 0 rfl rfl rfl (by kernel_rfl) rfl ?_
      refine l_on rfl (gT h3_10) ?_
      refine l_not (b := x.lazy) rfl rfl ?_
      exact l_nil (fun w' hw => ⟨(by repeat (first | exact Out.refl _ _ | refine Out.upd rfl ?_ | refine Out.msk rfl ?_)), (by show Value.bool (!x.lazy) = Value.bool (decide (x.lazy = false)); cases x.lazy <;> rfl), hw⟩)
    refine l_as rfl ?_
    refine l_end ?_
    exact c_ret (ret1 (v := .bool (decide ((x.cmd.ok ∧ x.key = ⟨#[]⟩) ∧ x.lazy = false))) rfl rfl (fun w' hw => ⟨by congr 1; exact decide_eq_decide.2 (by unfold AskD.ok; rw [if_neg (by simp [c1])]), hw.drop⟩))
theorem raskOK_spec (x : AskD) (w : World) : Rets Try.prog 20 #[.agg x.cells.toArray] w fun v w' => v = .bool (decide x.ok) ∧ Own w [] [] w' := by
  refine fn_enter (args := [.agg x.cells.toArray]) Try.func20 rfl Try.ntmps20 rfl (Own.start w) ?_
  refine c_reg ?_
  refine l_box rfl rfl (fun b1 => ?_)
  refine l_as rfl ?_
  refine l_end ?_
  refine c_seq ?_
  refine c_reg ?_
  refine l_fld (o := 0) rfl (by kernel_rfl) rfl ?_
  refine l_ldo 0 rfl rfl rfl (by kernel_rfl) rfl ?_
  refine l_end ?_
  refine c_if rfl (fun c1 => ?_) (fun c1 => ?_)
  ·
    refine c_reg ?_
    refine l_fld (o := 3) rfl (by kernel_rfl) rfl ?_
    refine l_ldN (cs := x.cmd.cells) rfl (by kernel_rfl) (fun w' hw' j u hu => hw'.rowCell (i := 0) rfl (sub_at (pre := [.bool x.look, .bool x.lazy, vu x.seq]) (post := [.string x.key]) j u hu)) rfl ?_
    refine l_bld (cs := cmdZ.cells) (z := [.int .u64 0, .int .u64 0, .int .i64 0, .string ⟨#[]⟩, .int .i64 0, .int .i64 0, .int .u64 0]) (pl := [(0, 1), (1, 1), (2, 1), (3, 1), (4, 1), (5, 1), (6, 1)]) (by kernel_rfl) rfl rfl ?_
    refine l_val rfl (v_stp (cmdEq x.cmd cmdZ) (by kernel_rfl) (by kernel_rfl) rfl rfl rfl rfl) ?_
    refine l_mv rfl ?_
    refine l_band 4 4 [13, 12, 11, 10] (((x.key.size : Int) ≤ 64)) rfl rfl rfl rfl rfl rfl trivial rfl (fun h2_4 => ?_) (fun g2_9 => ?_)
    ·
      refine l_on rfl (gT h2_4) ?_
      refine l_fld (o := 10) rfl (by kernel_rfl) rfl ?_
      refine l_on rfl (gT h2_4) ?_
      refine l_ldo 0 rfl rfl rfl (by kernel_rfl) rfl ?_
      refine l_on rfl (gT h2_4) ?_
      refine l_lens (by kernel_rfl) rfl rfl ?_
      refine l_on rfl (gT h2_4) ?_
      refine l_leq rfl rfl rfl ?_
      exact l_nil (fun w' hw => ⟨(by repeat (first | exact Out.refl _ _ | refine Out.upd rfl ?_ | refine Out.msk rfl ?_)), rfl, hw⟩)
    refine l_as rfl ?_
    refine l_end ?_
    exact c_ret (ret1 (v := .bool (decide (x.cmd = cmdZ ∧ (x.key.size : Int) ≤ 64))) rfl rfl (fun w' hw => ⟨by congr 1; exact decide_eq_decide.2 (by unfold AskD.ok; rw [if_pos c1]; exact and_congr_right fun _ => by omega), hw.drop⟩))
  ·
    refine c_skipC ?_
    refine c_reg ?_
    refine l_fld (o := 3) rfl (by kernel_rfl) rfl ?_
    refine l_ldN (cs := x.cmd.cells) rfl (by kernel_rfl) (fun w' hw' j u hu => hw'.rowCell (i := 0) rfl (sub_at (pre := [.bool x.look, .bool x.lazy, vu x.seq]) (post := [.string x.key]) j u hu)) rfl ?_
    refine l_call (by kernel_rfl) rfl rfl (fun w' hw => ?_)
    refine (rcmdOK_spec x.cmd w').mono ?_
    rintro _ w1 ⟨rfl, hO⟩
    refine (?_ : CL _ _ _ _ _ _ (Own w [] _)) w1 (hw.frame0 hO)
    refine l_mv rfl ?_
    refine l_band 3 3 [21, 20, 19] ((x.key = ⟨#[]⟩)) rfl rfl rfl rfl rfl rfl trivial rfl (fun h3_3 => ?_) (fun g3_7 => ?_)
    ·
      refine l_on rfl (gT h3_3) ?_
      refine l_fld (o := 10) rfl (by kernel_rfl) rfl ?_
      refine l_on rfl (gT h3_3) ?_
      refine l_ldo 0 rfl rfl rfl (by kernel_rfl) rfl ?_
      refine l_on rfl (gT h3_3) ?_
      refine l_seq rfl rfl rfl ?_
      exact l_nil (fun w' hw => ⟨(by repeat (first | exact Out.refl _ _ | refine Out.upd rfl ?_ | refine Out.msk rfl ?_)), rfl, hw⟩)
    refine l_mv rfl ?_
    refine l_band 3 8 [26, 25, 24] ((x.lazy = false)) rfl rfl rfl rfl rfl rfl trivial rfl (fun h3_8 => ?_) (fun g3_12 => ?_)
    ·
      refine l_on rfl (gT h3_8) ?_
      refine l_fld (o := 1) rfl (by kernel_rfl) rfl ?_
      refine l_on rfl (gT h3_8) ?_
      refine l_ldo 0 rfl rfl rfl (by kernel_rfl) rfl ?_
      refine l_on rfl (gT h3_8) ?_
      refine l_not (b := x.lazy) rfl rfl ?_
      exact l_nil (fun w' hw => ⟨(by repeat (first | exact Out.refl _ _ | refine Out.upd rfl ?_ | refine Out.msk rfl ?_)), (by show Value.bool (!x.lazy) = Value.bool (decide (x.lazy = false)); cases x.lazy <;> rfl), hw⟩)
    refine l_as rfl ?_
    refine l_end ?_
    exact c_ret (ret1 (v := .bool (decide ((x.cmd.ok ∧ x.key = ⟨#[]⟩) ∧ x.lazy = false))) rfl rfl (fun w' hw => ⟨by congr 1; exact decide_eq_decide.2 (by unfold AskD.ok; rw [if_neg (by simp [c1])]), hw.drop⟩))

set_option maxHeartbeats 1000000 in
theorem askWrite_spec (x : AskD) (hx : x.wf) (cb : Nat) (o : Nat) (sl : Value) (bs : List UInt8) (w : World) (hc : Row w cb 111 cmdKindC) (hcb : cb ∉ o :: blkS sl) (hbuf : (Res.buf o TOut sl bs).φ w) (hb : bs.length + x.enc.length ≤ 10000000000) :
    Rets Try.prog 109 #[.pointer (some ⟨o, 0, none⟩), .agg x.cells.toArray, .pointer (some ⟨cb, 0, none⟩)] w fun u w' => u = .tuple #[] ∧ ∃ sl', Own w (o :: blkS sl) [Res.buf o TOut sl' (bs ++ x.enc)] w' := by
  have h0 : bs.length + ((numsB [fl x.look, fl x.lazy]).length + (numsB [x.seq]).length + x.cmd.enc.length + (dat (strB x.key)).length) ≤ 10000000000 := by simpa [AskD.enc, List.length_append, Nat.add_assoc] using hb
  have h4 := hx.key
  refine fn_enter (args := [.pointer (some ⟨o, 0, none⟩), .agg x.cells.toArray, .pointer (some ⟨cb, 0, none⟩)]) Try.func109 rfl Try.ntmps109 rfl (show Own w (o :: blkS sl) [Res.buf o TOut sl bs] w from Own.start1 hbuf) ?_
  refine c_reg ?_
  refine l_box rfl rfl (fun b4 => ?_)
  refine l_end ?_
  refine c_reg ?_
  refine l_mv rfl ?_
  refine l_fld (o := 0) rfl (by kernel_rfl) rfl ?_
  refine l_ldo 1 rfl rfl rfl (by kernel_rfl) rfl ?_
  refine l_fld (o := 1) rfl (by kernel_rfl) rfl ?_
  refine l_ldo 1 rfl rfl rfl (by kernel_rfl) rfl ?_
  refine l_bsl (e := 4) (sz := 1) (vs := [.bool x.look, .bool x.lazy]) (by kernel_rfl) rfl rfl (by simp [Value.cells]) (by decide) rfl (fun b10 => ?_)
  refine l_call (by kernel_rfl) rfl rfl (fun w' hw => ?_)
  refine (flags_spec o sl bs _ [x.look, x.lazy] w' (hw.holds 0 _ rfl) (Vec.sl (hw.holds 2 _ rfl)) (fun b hb => hw.apart 2 0 _ _ (by decide) rfl rfl b hb) (by simp; omega)).mono ?_
  rintro _ w1 ⟨rfl, s1, hO⟩
  refine (?_ : CL _ _ _ _ _ _ (Own w (o :: blkS sl) _)) w1 (hw.frame1 (i := 0) rfl hO)
  refine l_end ?_
  refine c_reg ?_
  refine l_mv rfl ?_
  refine l_fld (o := 2) rfl (by kernel_rfl) rfl ?_
  refine l_ldo 1 rfl rfl rfl (by kernel_rfl) rfl ?_
  refine l_bsl (e := 22) (sz := 1) (vs := [.int .u64 x.seq]) (by kernel_rfl) rfl rfl (by simp [Value.cells]) (by decide) rfl (fun b15 => ?_)
  refine l_call (by kernel_rfl) rfl rfl (fun w' hw => ?_)
  refine (nums_spec o s1 _ _ [x.seq] w' (hw.holds 0 _ rfl) (Vec.sl (hw.holds 3 _ rfl)) (fun b hb => hw.apart 3 0 _ _ (by decide) rfl rfl b hb) (by have := hx.seq; simp only [isU] at *; simp [*]) (by simp; omega)).mono ?_
  rintro _ w1 ⟨rfl, s2, hO⟩
  refine (?_ : CL _ _ _ _ _ _ (Own w (o :: blkS sl) _)) w1 (hw.frame1 (i := 0) rfl hO)
  refine l_end ?_
  refine c_reg ?_
  refine l_fld (o := 1) rfl (by kernel_rfl) rfl ?_
  refine l_ldq rfl (hc.cell rfl) hcb (by kernel_rfl) rfl ?_
  refine l_mv rfl ?_
  refine l_fld (o := 3) rfl (by kernel_rfl) rfl ?_
  refine l_ldN (cs := x.cmd.cells) rfl (by kernel_rfl) (fun w' hw' j u hu => hw'.rowCell (i := 1) rfl (sub_at (pre := [.bool x.look, .bool x.lazy, vu x.seq]) (post := [.string x.key]) j u hu)) rfl ?_
  refine l_callv (fst := []) (cap := []) rfl (by kernel_rfl) rfl rfl (fun w' hw => ?_)
  refine (cmdWrite_spec x.cmd hx.cmd o s2 _ w' (hw.holds 0 _ rfl) (by simp; omega)).mono ?_
  rintro _ w1 ⟨rfl, s3, hO⟩
  refine (?_ : CL _ _ _ _ _ _ (Own w (o :: blkS sl) _)) w1 (hw.frame1 (i := 0) rfl hO)
  refine l_end ?_
  refine c_last ?_
  refine l_mv rfl ?_
  refine l_fld (o := 10) rfl (by kernel_rfl) rfl ?_
  refine l_ldo 1 rfl rfl rfl (by kernel_rfl) rfl ?_
  refine l_s2b (by kernel_rfl) (by kernel_rfl) rfl (by rw [maxLen_eq]; omega) rfl (fun v26 => ?_)
  intro w1 hw1
  obtain ⟨a17, c17, e17, -⟩ := Sl.shape (hw1.holds 4 _ rfl)
  subst e17
  refine (?_ : CL _ _ _ _ _ _ (Own w (o :: blkS sl) _)) w1 hw1
  refine l_bsl (e := 32) (sz := 1) (vs := [.slice a17 x.key.size c17]) (by kernel_rfl) rfl rfl (by simp [Value.cells]) (by decide) rfl (fun b27 => ?_)
  refine l_call (by kernel_rfl) rfl rfl (fun w' hw => ?_)
  refine (data_spec o s3 _ _ [(.slice a17 x.key.size c17, strB x.key)] w' (hw.holds 0 _ rfl) (Vec.sl (hw.holds 5 _ rfl)) (fun p hp => by simp at hp; subst hp; exact bsl_str (hw.holds 4 _ rfl)) (by simp [datsB]; omega)).mono ?_
  rintro _ w1 ⟨rfl, s4, hO⟩
  refine (?_ : CL _ _ _ _ _ _ (Own w (o :: blkS sl) _)) w1 (hw.frame1 (i := 0) rfl hO)
  exact l_nil (ret0 rfl (fun w' hw => ⟨rfl, s4, by have h : Own w (o :: blkS sl) [Res.buf o TOut s4 ((((bs ++ numsB ([x.look, x.lazy].map fl)) ++ numsB [x.seq]) ++ x.cmd.enc) ++ datsB [((.slice a17 x.key.size c17 : Value), strB x.key)])] w' := hw.one 0 rfl; simpa [AskD.enc, datsB, List.append_assoc] using h⟩))

def askKindV (cb : Nat) : Value := .agg #[.func (.func 108) #[] #[.pointer (some ⟨cb, 0, none⟩)], .func (.func 109) #[] #[.pointer (some ⟨cb, 0, none⟩)], .func (.func 111) #[] #[.pointer (some ⟨cb, 0, none⟩)]]
theorem askKind_spec (w : World) : Rets Try.prog 61 #[] w fun v w' => ∃ cb, v = askKindV cb ∧ Own w [] [Res.row cb 111 cmdKindC] w' := by
  refine fn_enter (args := []) Try.func61 rfl Try.ntmps61 rfl (Own.start w) ?_
  refine c_reg ?_
  refine l_new (v := .agg #[.nilFunc, .nilFunc, .nilFunc]) (by kernel_rfl) rfl (fun b0 => ?_)
  refine l_end ?_
  refine c_reg ?_
  refine l_call (by kernel_rfl) rfl rfl (fun w' hw => ?_)
  refine (cmdKind_spec w').mono ?_
  rintro _ w1 ⟨rfl, hO⟩
  refine (?_ : CL _ _ _ _ _ _ (Own w [] _)) w1 (hw.frame0 hO)
  refine l_new (v := .agg #[.nilFunc, .nilFunc, .nilFunc]) (by kernel_rfl) rfl (fun b1 => ?_)
  refine l_stN (vs := cmdKindC) 1 rfl rfl rfl (by kernel_rfl) (by simp [cmdKindC, cell1]) (by simp [cmdKindC, Value.cells]) ?_
  refine l_end ?_
  refine c_reg ?_
  refine l_fn rfl rfl rfl ?_
  refine l_fn rfl rfl rfl ?_
  refine l_fn rfl rfl rfl ?_
  refine l_bld (cs := [.func (.func 108) #[] #[.pointer (some ⟨b1, 0, none⟩)], .func (.func 109) #[] #[.pointer (some ⟨b1, 0, none⟩)], .func (.func 111) #[] #[.pointer (some ⟨b1, 0, none⟩)]]) (z := [.nilFunc, .nilFunc, .nilFunc]) (pl := [(0, 1), (1, 1), (2, 1)]) (by kernel_rfl) rfl rfl ?_
  refine l_stN (vs := [.func (.func 108) #[] #[.pointer (some ⟨b1, 0, none⟩)], .func (.func 109) #[] #[.pointer (some ⟨b1, 0, none⟩)], .func (.func 111) #[] #[.pointer (some ⟨b1, 0, none⟩)]]) 0 rfl rfl rfl (by kernel_rfl) (by simp [cell1]) (by simp [Value.cells]) ?_
  refine l_end ?_
  exact c_ret (retc (cs := [.func (.func 108) #[] #[.pointer (some ⟨b1, 0, none⟩)], .func (.func 109) #[] #[.pointer (some ⟨b1, 0, none⟩)], .func (.func 111) #[] #[.pointer (some ⟨b1, 0, none⟩)]]) rfl rfl (by kernel_rfl) (Own.rowCells (i := 0) rfl) (fun w hw => ⟨b1, rfl, hw.one 1 rfl⟩))
theorem askBytes_spec (x : AskD) (hx : x.wf) (cb : Nat) (w : World) (hc : Row w cb 111 cmdKindC) : Rets Try.prog 62 #[askKindV cb, .agg (x.cells).toArray] w (EncPost (x.ok) (x.enc) w) := by
  have hcl : cb < w.heap.size := (Res.row cb 111 cmdKindC).lt w hc cb (by simp [Res.row])
  refine fn_enter (args := [askKindV cb, .agg (x.cells).toArray]) Try.func62 rfl Try.ntmps62 rfl (Own.start w) ?_
  have hlen := AskD.enc_le hx
  refine c_reg ?_
  refine l_box rfl rfl (fun b2 => ?_)
  refine l_box rfl rfl (fun b3 => ?_)
  refine l_as rfl ?_
  refine l_as rfl ?_
  refine l_end ?_
  refine c_seq ?_
  refine c_reg ?_
  refine l_fld (o := 0) rfl (by kernel_rfl) rfl ?_
  refine l_ldo 0 rfl rfl rfl (by kernel_rfl) rfl ?_
  refine l_ldr (cs := x.cells) 1 rfl rfl (by kernel_rfl) rfl ?_
  refine l_callv (fst := []) (cap := [.pointer (some ⟨cb, 0, none⟩)]) rfl (by kernel_rfl) rfl rfl (fun w' hw => ?_)
  refine (askSound_spec x cb w' (hw.old (Res.row cb 111 cmdKindC) hc (by simp))).mono ?_
  rintro _ w1 ⟨rfl, hO⟩
  refine (?_ : CL _ _ _ _ _ _ (Own w [] _)) w1 (hw.frame0 hO)
  refine l_notp rfl rfl ?_
  refine l_end ?_
  refine c_dec rfl (fun c1 => ?_) (fun c1 => ?_)
  ·
    refine c_reg ?_
    refine l_as rfl ?_
    refine l_as rfl ?_
    refine l_end ?_
    exact c_ret (ret2 (v := .slice none 0 0) rfl rfl rfl (fun w' hw => ⟨.slice none 0 0, 2, [], rfl, (own_nil hw.drop T8 1).vecSl (i := 0) rfl, fun h => (c1 h).elim, fun _ => ⟨rfl, rfl, rfl⟩⟩))
  ·
    refine c_skipC ?_
    refine c_reg ?_
    refine l_bld (z := [.slice none 0 0]) (pl := [(0, 1)]) (by kernel_rfl) rfl rfl ?_
    refine l_box rfl rfl (fun b13 => ?_)
    refine l_as rfl ?_
    refine l_end ?_
    refine c_reg ?_
    refine l_fld (o := 1) rfl (by kernel_rfl) rfl ?_
    refine l_ldo 0 rfl rfl rfl (by kernel_rfl) rfl ?_
    refine l_mv rfl ?_
    refine l_ldr (cs := x.cells) 1 rfl rfl (by kernel_rfl) rfl ?_
    refine l_callv (fst := []) (cap := [.pointer (some ⟨cb, 0, none⟩)]) rfl (by kernel_rfl) rfl rfl (fun w' hw => ?_)
    have hbuf : Own w [] [Res.buf b13 TOut (.slice none 0 0) []] w' := ((own_nil (hw.one 2 rfl) T8 1).vecSl (i := 1) rfl).joinBuf (i := 0) (j := 1) (by decide) rfl rfl
    have hfr : w.heap.size ≤ b13 := (hbuf.fresh 0 _ rfl b13 (by simp [Res.buf])).resolve_left (by simp)
    refine (askWrite_spec x hx cb b13 (.slice none 0 0) [] w' (hw.old (Res.row cb 111 cmdKindC) hc (by simp)) (by simp [blkS]; omega) (hbuf.holds 0 _ rfl) ?_).mono ?_
    · have := hlen; simp; omega
    rintro _ w1 ⟨rfl, sl', hO⟩
    have h2 := (hbuf.frame1 (i := 0) rfl hO).splitBuf (i := 0) rfl
    refine (?_ : CL _ _ _ _ _ _ (Own w [] [Res.row b13 TOut [sl'], Res.sl sl' (x.enc).length ((x.enc).map vb)])) w1 h2
    refine l_end ?_
    refine c_reg ?_
    refine l_mv rfl ?_
    refine l_nck rfl rfl ?_
    refine l_fld (o := 0) rfl (by kernel_rfl) rfl ?_
    refine l_ldo 0 rfl rfl rfl (by kernel_rfl) rfl ?_
    refine l_as rfl ?_
    refine l_as rfl ?_
    refine l_end ?_
    exact c_ret (ret2 (v := sl') rfl rfl rfl (fun w' hw => ⟨sl', 0, x.enc, rfl, hw.one 1 rfl, fun _ => ⟨rfl, rfl⟩, fun h => (h (Decidable.not_not.1 c1)).elim⟩))
theorem askMsg_spec (x : AskD) (hx : x.wf) (w : World) : Rets Try.prog 12 #[.agg (x.cells).toArray] w (EncPost (x.ok) (x.enc) w) := by
  refine fn_enter (args := [.agg (x.cells).toArray]) Try.func12 rfl Try.ntmps12 rfl (Own.start w) ?_
  refine c_reg ?_
  refine l_box rfl rfl (fun b1 => ?_)
  refine l_as rfl ?_
  refine l_as rfl ?_
  refine l_end ?_
  refine c_seq ?_
  refine c_held (fun w' => (∀ i u, (x.cells)[i]? = some u → w'.cell? ⟨b1, 0 + i, none⟩ = some u)) (by kernel_rfl) (fun w' hw => (fun (hw : Own w [] _ _) => Own.rowCells (cs := x.cells) (i := 0) rfl _ hw) hw.drawn) (fun w' hw => ?_)
  replace hw := hw.drawn
  have hS := Own.rowCells (cs := x.cells) (i := 0) rfl _ hw
  refine h_take 1 rfl (by kernel_rfl) (by kernel_rfl) (by kernel_rfl) (v_ldN (cs := x.cells) rfl (by kernel_rfl) (fun w h => h)) rfl hS ?_
  refine h_call 0 (by kernel_rfl) rfl (by kernel_rfl) rfl rfl ?_
  refine (askKind_spec _).mono ?_
  rintro _ w1 ⟨cb, rfl, hO⟩
  replace hw := hw.frame0 hO
  replace hS := Own.rowCells (cs := x.cells) (i := 0) rfl _ hw
  refine ⟨hS, ?_⟩
  refine h_call 2 (by kernel_rfl) rfl (by kernel_rfl) rfl rfl ?_
  refine (askBytes_spec x hx cb _ (hw.holds 1 _ rfl)).mono ?_
  rintro _ w1 ⟨sl, e, bs, rfl, hO, h1, h2⟩
  replace hw := hw.frame0 hO
  replace hS := Own.rowCells (cs := x.cells) (i := 0) rfl _ hw
  refine ⟨hS, ?_⟩
  refine h_take 3 rfl (by kernel_rfl) (by kernel_rfl) (by kernel_rfl) (v_ext (vs := [sl, .int .i64 e]) rfl rfl) rfl hS ?_
  refine h_take 4 rfl (by kernel_rfl) (by kernel_rfl) (by kernel_rfl) (v_ext (vs := [sl, .int .i64 e]) rfl rfl) rfl hS ?_
  refine h_take 5 rfl (by kernel_rfl) (by kernel_rfl) (by kernel_rfl) (v_as) rfl hS ?_
  refine h_take 6 rfl (by kernel_rfl) (by kernel_rfl) (by kernel_rfl) (v_as) rfl hS ?_
  refine h_done (by kernel_rfl) ?_
  refine (?_ : C _ _ _ _ _ _ _ (Own w [] _)) _ hw
  exact c_ret (ret2 rfl rfl rfl (fun w' hw => ⟨sl, e, bs, rfl, hw.one 2 rfl, h1, h2⟩))

set_option maxHeartbeats 1000000 in
theorem raskEnc_spec (x : AskD) (hx : x.wf) : REnc 21 (.agg x.cells.toArray) x.enc := by
  intro w
  have hlen := AskD.enc_le hx
  have h0 : x.enc.length = (num (fl x.look)).length + ((num (fl x.lazy)).length + ((num x.seq).length + (x.cmd.enc.length + (dat (strB x.key)).length))) := by simp [AskD.enc, numsB]
  have h4 := hx.key
  refine fn_enter (args := [.agg x.cells.toArray]) Try.func21 rfl Try.ntmps21 rfl (Own.start w) ?_
  refine c_reg ?_
  refine l_box rfl rfl (fun b1 => ?_)
  refine l_as rfl ?_
  refine l_end ?_
  refine c_reg ?_
  refine l_bld (z := [.slice none 0 0]) (pl := [(0, 1)]) (by kernel_rfl) rfl rfl ?_
  refine l_box rfl rfl (fun b5 => ?_)
  refine l_as rfl ?_
  refine l_end ?_
  intro w1 hw1
  have hbuf : Own w [] [Res.row b1 29 x.cells, Res.rbuf b5 (.slice none 0 0) []] w1 := (own_nil hw1 T8 1).joinBoth (i := 1) (j := 2) (by decide) rfl rfl
  refine (?_ : C _ _ _ _ _ _ _ (Own w [] _)) w1 hbuf
  refine c_reg ?_
  refine l_mv rfl ?_
  refine l_fld (o := 0) rfl (by kernel_rfl) rfl ?_
  refine l_ldo 0 rfl rfl rfl (by kernel_rfl) rfl ?_
  refine l_call (by kernel_rfl) rfl rfl (fun w' hw => ?_)
  refine (rflag_spec x.look b5 _ [] w' (hw.holds 1 _ rfl) (by simp; omega)).mono ?_
  rintro _ w1 ⟨rfl, y1, hO⟩
  refine (?_ : CL _ _ _ _ _ _ (Own w [] _)) w1 (hw.frame1 (i := 1) rfl hO)
  refine l_end ?_
  refine c_reg ?_
  refine l_mv rfl ?_
  refine l_fld (o := 1) rfl (by kernel_rfl) rfl ?_
  refine l_ldo 0 rfl rfl rfl (by kernel_rfl) rfl ?_
  refine l_call (by kernel_rfl) rfl rfl (fun w' hw => ?_)
  refine (rflag_spec x.lazy b5 y1 _ w' (hw.holds 1 _ rfl) (by simp; omega)).mono ?_
  rintro _ w1 ⟨rfl, y2, hO⟩
  refine (?_ : CL _ _ _ _ _ _ (Own w [] _)) w1 (hw.frame1 (i := 1) rfl hO)
  refine l_end ?_
  refine c_reg ?_
  refine l_mv rfl ?_
  refine l_fld (o := 2) rfl (by kernel_rfl) rfl ?_
  refine l_ldo 0 rfl rfl rfl (by kernel_rfl) rfl ?_
  refine l_call (by kernel_rfl) rfl rfl (fun w' hw => ?_)
  refine (rnum_spec x.seq hx.seq b5 y2 _ w' (hw.holds 1 _ rfl) (by simp; omega)).mono ?_
  rintro _ w1 ⟨rfl, y3, hO⟩
  refine (?_ : CL _ _ _ _ _ _ (Own w [] _)) w1 (hw.frame1 (i := 1) rfl hO)
  refine l_end ?_
  refine c_reg ?_
  refine l_mv rfl ?_
  refine l_fld (o := 3) rfl (by kernel_rfl) rfl ?_
  refine l_ldN (cs := x.cmd.cells) rfl (by kernel_rfl) (fun w' hw' j u hu => hw'.rowCell (i := 0) rfl (sub_at (pre := [.bool x.look, .bool x.lazy, vu x.seq]) (post := [.string x.key]) j u hu)) rfl ?_
  refine l_call (by kernel_rfl) rfl rfl (fun w' hw => ?_)
  refine (rcmd_spec x.cmd hx.cmd b5 y3 _ w' (hw.holds 1 _ rfl) (by simp; omega)).mono ?_
  rintro _ w1 ⟨rfl, y4, hO⟩
  refine (?_ : CL _ _ _ _ _ _ (Own w [] _)) w1 (hw.frame1 (i := 1) rfl hO)
  refine l_end ?_
  refine c_reg ?_
  refine l_mv rfl ?_
  refine l_fld (o := 10) rfl (by kernel_rfl) rfl ?_
  refine l_ldo 0 rfl rfl rfl (by kernel_rfl) rfl ?_
  refine l_s2b (by kernel_rfl) (by kernel_rfl) rfl (by rw [maxLen_eq]; omega) rfl (fun v25 => ?_)
  refine l_call (by kernel_rfl) rfl rfl (fun w' hw => ?_)
  refine (rdata_spec v25 (strB x.key) (by rw [strB_length]; omega) b5 y4 _ w' (hw.holds 1 _ rfl) (by simp; omega) (bsl_str (hw.holds 2 _ rfl))).mono ?_
  rintro _ w1 ⟨rfl, y5, hO⟩
  refine (?_ : CL _ _ _ _ _ _ (Own w [] _)) w1 (hw.frame1 (i := 1) rfl hO)
  refine l_end ?_
  intro w1 hw1
  have hs : Own w [] [Res.rbuf b5 y5 (((((([] : List UInt8) ++ num (fl x.look)) ++ num (fl x.lazy)) ++ num x.seq) ++ x.cmd.enc) ++ dat (strB x.key))] w1 := hw1.one 1 rfl
  have hs2 : Own w [] [Res.rbuf b5 y5 x.enc] w1 := by simpa [AskD.enc, numsB, List.append_assoc] using hs
  refine (?_ : C _ _ _ _ _ _ _ (Own w [] _)) w1 (hs2.splitBoth (i := 0) rfl)
  refine c_reg ?_
  refine l_mv rfl ?_
  refine l_nck rfl rfl ?_
  refine l_fld (o := 0) rfl (by kernel_rfl) rfl ?_
  refine l_ldo 0 rfl rfl rfl (by kernel_rfl) rfl ?_
  refine l_as rfl ?_
  refine l_end ?_
  exact c_ret (ret1 (v := y5) rfl rfl (fun w' hw => (hw.vecSl (i := 1) rfl).one 1 rfl))
set_option maxHeartbeats 1000000 in
theorem rtldEnc_spec (x : TldD) (hx : x.wf) : REnc 23 (.agg x.cells.toArray) x.enc := by
  intro w
  have hlen := TldD.enc_le hx
  have h0 : x.enc.length = (num x.seq).length + ((num (fl x.retry)).length + ((num (u64 x.lead)).length + (x.reply.enc.length + ((num (u64 x.cap)).length + (num (u64 x.lent)).length)))) := by simp [TldD.enc, numsB]
  refine fn_enter (args := [.agg x.cells.toArray]) Try.func23 rfl Try.ntmps23 rfl (Own.start w) ?_
  refine c_reg ?_
  refine l_box rfl rfl (fun b1 => ?_)
  refine l_as rfl ?_
  refine l_end ?_
  refine c_reg ?_
  refine l_bld (z := [.slice none 0 0]) (pl := [(0, 1)]) (by kernel_rfl) rfl rfl ?_
  refine l_box rfl rfl (fun b5 => ?_)
  refine l_as rfl ?_
  refine l_end ?_
  intro w1 hw1
  have hbuf : Own w [] [Res.row b1 31 x.cells, Res.rbuf b5 (.slice none 0 0) []] w1 := (own_nil hw1 T8 1).joinBoth (i := 1) (j := 2) (by decide) rfl rfl
  refine (?_ : C _ _ _ _ _ _ _ (Own w [] _)) w1 hbuf
  refine c_reg ?_
  refine l_mv rfl ?_
  refine l_fld (o := 0) rfl (by kernel_rfl) rfl ?_
  refine l_ldo 0 rfl rfl rfl (by kernel_rfl) rfl ?_
  refine l_call (by kernel_rfl) rfl rfl (fun w' hw => ?_)
  refine (rnum_spec x.seq hx.seq b5 _ [] w' (hw.holds 1 _ rfl) (by simp; omega)).mono ?_
  rintro _ w1 ⟨rfl, y1, hO⟩
  refine (?_ : CL _ _ _ _ _ _ (Own w [] _)) w1 (hw.frame1 (i := 1) rfl hO)
  refine l_end ?_
  refine c_reg ?_
  refine l_mv rfl ?_
  refine l_fld (o := 1) rfl (by kernel_rfl) rfl ?_
  refine l_ldo 0 rfl rfl rfl (by kernel_rfl) rfl ?_
  refine l_call (by kernel_rfl) rfl rfl (fun w' hw => ?_)
  refine (rflag_spec x.retry b5 y1 _ w' (hw.holds 1 _ rfl) (by simp; omega)).mono ?_
  rintro _ w1 ⟨rfl, y2, hO⟩
  refine (?_ : CL _ _ _ _ _ _ (Own w [] _)) w1 (hw.frame1 (i := 1) rfl hO)
  refine l_end ?_
  refine c_reg ?_
  refine l_mv rfl ?_
  refine l_fld (o := 2) rfl (by kernel_rfl) rfl ?_
  refine l_ldo 0 rfl rfl rfl (by kernel_rfl) rfl ?_
  refine l_cvt (by kernel_rfl) rfl (wrap_u64 _) rfl ?_ (by kernel_rfl)
  refine l_call (by kernel_rfl) rfl rfl (fun w' hw => ?_)
  refine (rnum_spec (u64 x.lead) (u64_lt _) b5 y2 _ w' (hw.holds 1 _ rfl) (by simp; omega)).mono ?_
  rintro _ w1 ⟨rfl, y3, hO⟩
  refine (?_ : CL _ _ _ _ _ _ (Own w [] _)) w1 (hw.frame1 (i := 1) rfl hO)
  refine l_end ?_
  refine c_reg ?_
  refine l_mv rfl ?_
  refine l_fld (o := 3) rfl (by kernel_rfl) rfl ?_
  refine l_ldN (cs := x.reply.cells) rfl (by kernel_rfl) (fun w' hw' j u hu => hw'.rowCell (i := 0) rfl (sub_at (pre := [vu x.seq, .bool x.retry, .int .i64 x.lead]) (post := [.int .i64 x.cap, .int .i64 x.lent]) j u hu)) rfl ?_
  refine l_call (by kernel_rfl) rfl rfl (fun w' hw => ?_)
  refine (rrep_spec x.reply hx.reply b5 y3 _ w' (hw.holds 1 _ rfl) (by simp; omega)).mono ?_
  rintro _ w1 ⟨rfl, y4, hO⟩
  refine (?_ : CL _ _ _ _ _ _ (Own w [] _)) w1 (hw.frame1 (i := 1) rfl hO)
  refine l_end ?_
  refine c_reg ?_
  refine l_mv rfl ?_
  refine l_fld (o := 9) rfl (by kernel_rfl) rfl ?_
  refine l_ldo 0 rfl rfl rfl (by kernel_rfl) rfl ?_
  refine l_cvt (by kernel_rfl) rfl (wrap_u64 _) rfl ?_ (by kernel_rfl)
  refine l_call (by kernel_rfl) rfl rfl (fun w' hw => ?_)
  refine (rnum_spec (u64 x.cap) (u64_lt _) b5 y4 _ w' (hw.holds 1 _ rfl) (by simp; omega)).mono ?_
  rintro _ w1 ⟨rfl, y5, hO⟩
  refine (?_ : CL _ _ _ _ _ _ (Own w [] _)) w1 (hw.frame1 (i := 1) rfl hO)
  refine l_end ?_
  refine c_reg ?_
  refine l_mv rfl ?_
  refine l_fld (o := 10) rfl (by kernel_rfl) rfl ?_
  refine l_ldo 0 rfl rfl rfl (by kernel_rfl) rfl ?_
  refine l_cvt (by kernel_rfl) rfl (wrap_u64 _) rfl ?_ (by kernel_rfl)
  refine l_call (by kernel_rfl) rfl rfl (fun w' hw => ?_)
  refine (rnum_spec (u64 x.lent) (u64_lt _) b5 y5 _ w' (hw.holds 1 _ rfl) (by simp; omega)).mono ?_
  rintro _ w1 ⟨rfl, y6, hO⟩
  refine (?_ : CL _ _ _ _ _ _ (Own w [] _)) w1 (hw.frame1 (i := 1) rfl hO)
  refine l_end ?_
  intro w1 hw1
  have hs : Own w [] [Res.rbuf b5 y6 ((((((([] : List UInt8) ++ num x.seq) ++ num (fl x.retry)) ++ num (u64 x.lead)) ++ x.reply.enc) ++ num (u64 x.cap)) ++ num (u64 x.lent))] w1 := hw1.one 1 rfl
  have hs2 : Own w [] [Res.rbuf b5 y6 x.enc] w1 := by simpa [TldD.enc, numsB, List.append_assoc] using hs
  refine (?_ : C _ _ _ _ _ _ _ (Own w [] _)) w1 (hs2.splitBoth (i := 0) rfl)
  refine c_reg ?_
  refine l_mv rfl ?_
  refine l_nck rfl rfl ?_
  refine l_fld (o := 0) rfl (by kernel_rfl) rfl ?_
  refine l_ldo 0 rfl rfl rfl (by kernel_rfl) rfl ?_
  refine l_as rfl ?_
  refine l_end ?_
  exact c_ret (ret1 (v := y6) rfl rfl (fun w' hw => (hw.vecSl (i := 1) rfl).one 1 rfl))

end Go.Proofs.Ytlkoekhjegaimaa
