/-
  COMMANDS AND REPLIES WRITTEN, by the symbolic tool.
-/
import Derived.Test.YtlkoekhjegaimaaGreatTrip
set_option linter.unusedVariables false
set_option maxRecDepth 10000
namespace Go.Proofs.YtlkoekhjegaimaaGreat
open Go Go.Sc Go.Proofs

structure CmdD where
  session : Nat
  seq : Nat
  op : Int
  key : ByteArray
  amount : Int
  span : Int
  lease : Nat
  deriving DecidableEq
structure CmdD.wf (x : CmdD) : Prop where
  session : x.session < 18446744073709551616
  seq : x.seq < 18446744073709551616
  key : x.key.size ≤ 1048576
  amount : isI x.amount
  span : isI x.span
  lease : x.lease < 18446744073709551616
def CmdD.cells (x : CmdD) : List Value := [.int .u64 x.session, .int .u64 x.seq, .int .i64 x.op, .string x.key, .int .i64 x.amount, .int .i64 x.span, .int .u64 x.lease]
def CmdD.ok (x : CmdD) : Prop := (1 ≤ x.op ∧ x.op ≤ 5) ∧ x.key.size ≤ 64
instance (x : CmdD) : Decidable x.ok := inferInstanceAs (Decidable ((_ ∧ _) ∧ _))
def strB (s : ByteArray) : List UInt8 := s.data.toList
theorem strB_length (s : ByteArray) : (strB s).length = s.size := by unfold strB; rw [Array.length_toList]; rfl
def CmdD.enc (x : CmdD) : List UInt8 := numsB [x.session, x.seq, u64 x.op] ++ dat (strB x.key) ++ numsB [u64 x.amount, u64 x.span, x.lease]
structure RepD where
  session : Nat
  seq : Nat
  e : Int
  lease : Nat
  amount : Int
  until_ : Int
  deriving DecidableEq
structure RepD.wf (r : RepD) : Prop where
  session : r.session < 18446744073709551616
  seq : r.seq < 18446744073709551616
  lease : r.lease < 18446744073709551616
  amount : isI r.amount
  until_ : isI r.until_
def RepD.cells (r : RepD) : List Value := [.int .u64 r.session, .int .u64 r.seq, .int .i64 r.e, .int .u64 r.lease, .int .i64 r.amount, .int .i64 r.until_]
def RepD.ok (r : RepD) : Prop := 0 ≤ r.e ∧ r.e ≤ 20
instance (r : RepD) : Decidable r.ok := inferInstanceAs (Decidable (_ ∧ _))
def RepD.enc (r : RepD) : List UInt8 := numsB [r.session, r.seq, u64 r.e, r.lease, u64 r.amount, u64 r.until_]
theorem cmdSound_s (x : CmdD) (w : World) (hx : x.key.size ≤ 1048576) : Rets Tryz.prog 64 #[.agg (CmdD.cells x).toArray] w fun u_ w' => u_ = .bool (decide x.ok) ∧ Own w [] [] w' := by
  refine fn_enter (args := [.agg (CmdD.cells x).toArray]) Tryz.func64 rfl Tryz.ntmps64 rfl (Own.start w) ?_
  refine c_reg ?_
  refine l_box rfl rfl (fun b1 => ?_)
  refine l_as rfl ?_
  refine l_end ?_
  refine c_reg ?_
  refine l_fld (o := 2) rfl (by kernel_rfl) rfl ?_
  refine l_ldo 0 (v := .int .i64 x.op) rfl rfl rfl (by kernel_rfl) rfl ?_
  refine l_geq rfl rfl rfl ?_
  refine l_mv rfl ?_
  refine l_band (q := 1 ≤ x.op) 3 3 [9, 8, 7] (x.op ≤ 5) rfl rfl rfl rfl rfl rfl trivial rfl (fun h1_3 => ?_) (fun g1_7 => ?_)
  ·
    refine l_on rfl (gT h1_3) ?_
    refine l_fld (o := 2) rfl (by kernel_rfl) rfl ?_
    refine l_on rfl (gT h1_3) ?_
    refine l_ldo 0 (v := .int .i64 x.op) rfl rfl rfl (by kernel_rfl) rfl ?_
    refine l_on rfl (gT h1_3) ?_
    refine l_leq rfl rfl rfl ?_
    exact l_nil (fun w' hw => ⟨(by repeat (first | exact Out.refl _ _ | refine Out.upd rfl ?_ | refine Out.msk rfl ?_)), rfl, hw⟩)
  refine l_mv rfl ?_
  refine l_band (q := (1 ≤ x.op) ∧ (x.op ≤ 5)) 4 8 [15, 14, 13, 12] (((x.key.size : Nat) : Int) ≤ 64) rfl rfl rfl rfl rfl rfl trivial rfl (fun h1_8 => ?_) (fun g1_13 => ?_)
  ·
    refine l_on rfl (gT h1_8) ?_
    refine l_fld (o := 3) rfl (by kernel_rfl) rfl ?_
    refine l_on rfl (gT h1_8) ?_
    refine l_ldo 0 (v := .string x.key) rfl rfl rfl (by kernel_rfl) rfl ?_
    refine l_on rfl (gT h1_8) ?_
    refine l_lens (by kernel_rfl) rfl rfl ?_
    refine l_on rfl (gT h1_8) ?_
    refine l_leq rfl rfl rfl ?_
    exact l_nil (fun w' hw => ⟨(by repeat (first | exact Out.refl _ _ | refine Out.upd rfl ?_ | refine Out.msk rfl ?_)), rfl, hw⟩)
  refine l_as rfl ?_
  refine l_end ?_
  exact c_ret (ret1 (v := .bool (decide (((1 ≤ x.op) ∧ (x.op ≤ 5)) ∧ (((x.key.size : Nat) : Int) ≤ 64)))) rfl rfl (fun w' hw => ⟨(by congr 1; exact decide_eq_decide.2 (by unfold CmdD.ok; omega)), hw.drop⟩))
theorem cmdWrite_s (o : Nat) (sl : Value) (bs : List UInt8) (x : CmdD) (w : World) (hx : x.wf) (hb : bs.length ≤ 1000000000) (hin : Own w (fps [Res.bv o TOut sl bs]) [Res.bv o TOut sl bs] w) : Rets Tryz.prog 65 #[.pointer (some ⟨o, 0, none⟩), .agg (CmdD.cells x).toArray] w fun u_ w' => ∃ (sl' : Value), u_ = .tuple #[] ∧ Own w (fps [Res.bv o TOut sl bs]) [Res.bv o TOut sl' (bs ++ x.enc)] w' := by
  have hk : x.key.data.toList.length = x.key.size := strB_length x.key
  have hk2 := hx.key
  have hd := dat_length x.key.data.toList (by omega)
  have hn1 := numsB_length (ns := [x.session, x.seq, u64 x.op]) (by have := hx.session; have := hx.seq; simp [u64_lt, *])
  simp only [List.length_cons, List.length_nil] at hn1
  refine fn_enter (args := [.pointer (some ⟨o, 0, none⟩), .agg (CmdD.cells x).toArray]) Tryz.func65 rfl Tryz.ntmps65 rfl (show Own w (fps [Res.bv o TOut sl bs]) [Res.bv o TOut sl bs] w from hin) ?_
  refine c_reg ?_
  refine l_box rfl rfl (fun b3 => ?_)
  refine l_end ?_
  refine c_reg ?_
  refine l_mv rfl ?_
  refine l_fld (o := 0) rfl (by kernel_rfl) rfl ?_
  refine l_ldo 1 (v := .int .u64 (x.session : Nat)) rfl rfl rfl (by kernel_rfl) rfl ?_
  refine l_fld (o := 1) rfl (by kernel_rfl) rfl ?_
  refine l_ldo 1 (v := .int .u64 (x.seq : Nat)) rfl rfl rfl (by kernel_rfl) rfl ?_
  refine l_fld (o := 2) rfl (by kernel_rfl) rfl ?_
  refine l_ldo 1 (v := .int .i64 x.op) rfl rfl rfl (by kernel_rfl) rfl ?_
  refine l_cvt (by kernel_rfl) rfl (wrap_u64 _) rfl ?_ (by kernel_rfl)
  refine l_bsl (e := 23) (sz := 1) (vs := [.int .u64 (x.session : Nat), .int .u64 (x.seq : Nat), .int .u64 (u64 x.op : Nat)]) (by kernel_rfl) rfl rfl (by simp [Value.cells]) (by decide) rfl (fun b12 => ?_)
  refine l_call (by kernel_rfl) rfl rfl (fun w' hw => ?_)
  refine (nums_s o _ _ (.slice (some ⟨b12, 0, none⟩) 3 3) [x.session, x.seq, u64 x.op] w' (by have := hx.session; have := hx.seq; simp [u64_lt, *]) (by first | assumption | omega | (simp <;> omega) | (constructor <;> (first | omega | (simp only [LenOk]; omega) | (simp <;> omega)))) (hw.rdVec 2 rfl [0] rfl rfl) (hw.give [0] rfl (by decide))).mono ?_
  rintro _ w1 ⟨sl'1_, rfl, hO⟩
  refine (?_ : CL _ _ _ _ _ _ (Own w (fps [Res.bv o TOut sl bs]) [Res.row b3 36 (CmdD.cells x), Res.vec 23 1 (.slice (some ⟨b12, 0, none⟩) 3 3) [x.session, x.seq, u64 x.op].length ([x.session, x.seq, u64 x.op].flatMap U1), Res.bv o TOut sl'1_ (bs ++ numsB [x.session, x.seq, u64 x.op])])) w1 (hw.frameL [0] rfl hO)
  refine l_end ?_
  refine c_reg ?_
  refine l_mv rfl ?_
  refine l_fld (o := 3) rfl (by kernel_rfl) rfl ?_
  refine l_ldo 0 (v := .string x.key) rfl rfl rfl (by kernel_rfl) rfl ?_
  refine l_s2b (by kernel_rfl) (by kernel_rfl) rfl (by rw [maxLen_eq]; omega) rfl (fun v17 => ?_)
  refine l_haveO (fun w' hw => Sl.cell1 (Own.holds hw 3 _ rfl)) (fun hc1_ => ?_)
  refine l_bsl1 (e := 22) (vs := [v17]) (by kernel_rfl) rfl rfl (allc_cons hc1_ allc_nil) (by decide) rfl (fun b18 => ?_)
  refine l_call (by kernel_rfl) rfl rfl (fun w' hw => ?_)
  refine (data_s o sl'1_ (bs ++ numsB [x.session, x.seq, u64 x.op]) (.slice (some ⟨b18, 0, none⟩) 1 1) [(v17, x.key.data.toList)] w' (by simp [datsB]; omega) (by show 1 ≤ _; omega) (hw.rdVec 4 rfl [2] rfl rfl) (all_cons (hw.rdRes 3 rfl [2] rfl rfl) (fun p hp => by cases hp)) (hw.give [2] rfl (by decide))).mono ?_
  rintro _ w1 ⟨sl'2_, rfl, hO⟩
  refine (?_ : CL _ _ _ _ _ _ (Own w (fps [Res.bv o TOut sl bs]) [Res.row b3 36 (CmdD.cells x), Res.vec 23 1 (.slice (some ⟨b12, 0, none⟩) 3 3) [x.session, x.seq, u64 x.op].length ([x.session, x.seq, u64 x.op].flatMap U1), Res.sl v17 x.key.data.toList.length (x.key.data.toList.map vb), Res.vec 22 1 (.slice (some ⟨b18, 0, none⟩) 1 1) [(v17, x.key.data.toList)].length ([(v17, x.key.data.toList)].flatMap pv), Res.bv o TOut sl'2_ ((bs ++ numsB [x.session, x.seq, u64 x.op]) ++ datsB [(v17, x.key.data.toList)])])) w1 (hw.frameL [2] rfl hO)
  refine l_end ?_
  refine c_last ?_
  refine l_mv rfl ?_
  refine l_fld (o := 4) rfl (by kernel_rfl) rfl ?_
  refine l_ldo 0 (v := .int .i64 x.amount) rfl rfl rfl (by kernel_rfl) rfl ?_
  refine l_cvt (by kernel_rfl) rfl (wrap_u64 _) rfl ?_ (by kernel_rfl)
  refine l_fld (o := 5) rfl (by kernel_rfl) rfl ?_
  refine l_ldo 0 (v := .int .i64 x.span) rfl rfl rfl (by kernel_rfl) rfl ?_
  refine l_cvt (by kernel_rfl) rfl (wrap_u64 _) rfl ?_ (by kernel_rfl)
  refine l_fld (o := 6) rfl (by kernel_rfl) rfl ?_
  refine l_ldo 0 (v := .int .u64 (x.lease : Nat)) rfl rfl rfl (by kernel_rfl) rfl ?_
  refine l_bsl (e := 23) (sz := 1) (vs := [.int .u64 (u64 x.amount : Nat), .int .u64 (u64 x.span : Nat), .int .u64 (x.lease : Nat)]) (by kernel_rfl) rfl rfl (by simp [Value.cells]) (by decide) rfl (fun b29 => ?_)
  refine l_call (by kernel_rfl) rfl rfl (fun w' hw => ?_)
  refine (nums_s o sl'2_ ((bs ++ numsB [x.session, x.seq, u64 x.op]) ++ datsB [(v17, x.key.data.toList)]) (.slice (some ⟨b29, 0, none⟩) 3 3) [u64 x.amount, u64 x.span, x.lease] w' (by have := hx.lease; simp [u64_lt, *]) (by simp [datsB]; omega) (hw.rdVec 5 rfl [4] rfl rfl) (hw.give [4] rfl (by decide))).mono ?_
  rintro _ w1 ⟨sl'3_, rfl, hO⟩
  refine (?_ : CL _ _ _ _ _ _ (Own w (fps [Res.bv o TOut sl bs]) [Res.row b3 36 (CmdD.cells x), Res.vec 23 1 (.slice (some ⟨b12, 0, none⟩) 3 3) [x.session, x.seq, u64 x.op].length ([x.session, x.seq, u64 x.op].flatMap U1), Res.sl v17 x.key.data.toList.length (x.key.data.toList.map vb), Res.vec 22 1 (.slice (some ⟨b18, 0, none⟩) 1 1) [(v17, x.key.data.toList)].length ([(v17, x.key.data.toList)].flatMap pv), Res.vec 23 1 (.slice (some ⟨b29, 0, none⟩) 3 3) [u64 x.amount, u64 x.span, x.lease].length ([u64 x.amount, u64 x.span, x.lease].flatMap U1), Res.bv o TOut sl'3_ (((bs ++ numsB [x.session, x.seq, u64 x.op]) ++ datsB [(v17, x.key.data.toList)]) ++ numsB [u64 x.amount, u64 x.span, x.lease])])) w1 (hw.frameL [4] rfl hO)
  exact l_nil (ret0 rfl (fun w' hw => ⟨sl'3_, rfl, by have h := hw.one 5 rfl; simpa [CmdD.enc, datsB, strB] using h⟩))
theorem commands_s (w : World) : Rets Tryz.prog 26 #[] w fun u_ w' => u_ = .agg #[.func (.func 64) #[] #[], .func (.func 65) #[] #[], .func (.func 66) #[] #[]] ∧ Own w [] [] w' := by
  refine fn_enter (args := []) Tryz.func26 rfl Tryz.ntmps26 rfl (Own.start w) ?_
  refine c_reg ?_
  refine l_new (v := .agg #[.nilFunc, .nilFunc, .nilFunc]) (by kernel_rfl) rfl (fun b0 => ?_)
  refine l_end ?_
  refine c_reg ?_
  refine l_bld (cs := [.func (.func 64) #[] #[], .func (.func 65) #[] #[], .func (.func 66) #[] #[]]) (z := [.nilFunc, .nilFunc, .nilFunc]) (pl := [(0, 1), (1, 1), (2, 1)]) (by kernel_rfl) (by kernel_rfl) rfl ?_
  refine l_stN (cs := [.nilFunc, .nilFunc, .nilFunc]) (vs := [.func (.func 64) #[] #[], .func (.func 65) #[] #[], .func (.func 66) #[] #[]]) 0 rfl rfl rfl (by kernel_rfl) (allc_cons rfl (allc_cons rfl (allc_cons rfl allc_nil))) (Nat.le_of_ble_eq_true rfl) ?_
  refine l_end ?_
  exact c_ret (retc (cs := [.func (.func 64) #[] #[], .func (.func 65) #[] #[], .func (.func 66) #[] #[]]) rfl rfl (by kernel_rfl) (Own.rowCells (i := 0) rfl) (fun w' hw => ⟨rfl, hw.drop⟩))
-- no function (scupper/msg.kind[scupper/api.Command]).bytes
-- no function scupper/msg.Command
theorem repSound_s (x : RepD) (w : World) : Rets Tryz.prog 67 #[.agg (RepD.cells x).toArray] w fun u_ w' => u_ = .bool (decide x.ok) ∧ Own w [] [] w' := by
  refine fn_enter (args := [.agg (RepD.cells x).toArray]) Tryz.func67 rfl Tryz.ntmps67 rfl (Own.start w) ?_
  refine c_reg ?_
  refine l_box rfl rfl (fun b1 => ?_)
  refine l_as rfl ?_
  refine l_end ?_
  refine c_reg ?_
  refine l_fld (o := 2) rfl (by kernel_rfl) rfl ?_
  refine l_ldo 0 (v := .int .i64 x.e) rfl rfl rfl (by kernel_rfl) rfl ?_
  refine l_geq rfl rfl rfl ?_
  refine l_mv rfl ?_
  refine l_band (q := 0 ≤ x.e) 3 3 [9, 8, 7] (x.e ≤ 20) rfl rfl rfl rfl rfl rfl trivial rfl (fun h1_3 => ?_) (fun g1_7 => ?_)
  ·
    refine l_on rfl (gT h1_3) ?_
    refine l_fld (o := 2) rfl (by kernel_rfl) rfl ?_
    refine l_on rfl (gT h1_3) ?_
    refine l_ldo 0 (v := .int .i64 x.e) rfl rfl rfl (by kernel_rfl) rfl ?_
    refine l_on rfl (gT h1_3) ?_
    refine l_leq rfl rfl rfl ?_
    exact l_nil (fun w' hw => ⟨(by repeat (first | exact Out.refl _ _ | refine Out.upd rfl ?_ | refine Out.msk rfl ?_)), rfl, hw⟩)
  refine l_as rfl ?_
  refine l_end ?_
  exact c_ret (ret1 (v := .bool (decide ((0 ≤ x.e) ∧ (x.e ≤ 20)))) rfl rfl (fun w' hw => ⟨rfl, hw.drop⟩))
theorem repWrite_s (o : Nat) (sl : Value) (bs : List UInt8) (x : RepD) (w : World) (hx : x.wf) (hb : bs.length ≤ 1000000000) (hin : Own w (fps [Res.bv o TOut sl bs]) [Res.bv o TOut sl bs] w) : Rets Tryz.prog 68 #[.pointer (some ⟨o, 0, none⟩), .agg (RepD.cells x).toArray] w fun u_ w' => ∃ (sl' : Value), u_ = .tuple #[] ∧ Own w (fps [Res.bv o TOut sl bs]) [Res.bv o TOut sl' (bs ++ x.enc)] w' := by
  refine fn_enter (args := [.pointer (some ⟨o, 0, none⟩), .agg (RepD.cells x).toArray]) Tryz.func68 rfl Tryz.ntmps68 rfl (show Own w (fps [Res.bv o TOut sl bs]) [Res.bv o TOut sl bs] w from hin) ?_
  refine c_reg ?_
  refine l_box rfl rfl (fun b3 => ?_)
  refine l_end ?_
  refine c_last ?_
  refine l_mv rfl ?_
  refine l_fld (o := 0) rfl (by kernel_rfl) rfl ?_
  refine l_ldo 1 (v := .int .u64 (x.session : Nat)) rfl rfl rfl (by kernel_rfl) rfl ?_
  refine l_fld (o := 1) rfl (by kernel_rfl) rfl ?_
  refine l_ldo 1 (v := .int .u64 (x.seq : Nat)) rfl rfl rfl (by kernel_rfl) rfl ?_
  refine l_fld (o := 2) rfl (by kernel_rfl) rfl ?_
  refine l_ldo 1 (v := .int .i64 x.e) rfl rfl rfl (by kernel_rfl) rfl ?_
  refine l_cvt (by kernel_rfl) rfl (wrap_u64 _) rfl ?_ (by kernel_rfl)
  refine l_fld (o := 3) rfl (by kernel_rfl) rfl ?_
  refine l_ldo 1 (v := .int .u64 (x.lease : Nat)) rfl rfl rfl (by kernel_rfl) rfl ?_
  refine l_fld (o := 4) rfl (by kernel_rfl) rfl ?_
  refine l_ldo 1 (v := .int .i64 x.amount) rfl rfl rfl (by kernel_rfl) rfl ?_
  refine l_cvt (by kernel_rfl) rfl (wrap_u64 _) rfl ?_ (by kernel_rfl)
  refine l_fld (o := 5) rfl (by kernel_rfl) rfl ?_
  refine l_ldo 1 (v := .int .i64 x.until_) rfl rfl rfl (by kernel_rfl) rfl ?_
  refine l_cvt (by kernel_rfl) rfl (wrap_u64 _) rfl ?_ (by kernel_rfl)
  refine l_bsl (e := 23) (sz := 1) (vs := [.int .u64 (x.session : Nat), .int .u64 (x.seq : Nat), .int .u64 (u64 x.e : Nat), .int .u64 (x.lease : Nat), .int .u64 (u64 x.amount : Nat), .int .u64 (u64 x.until_ : Nat)]) (by kernel_rfl) rfl rfl (by simp [Value.cells]) (by decide) rfl (fun b20 => ?_)
  refine l_call (by kernel_rfl) rfl rfl (fun w' hw => ?_)
  refine (nums_s o _ _ (.slice (some ⟨b20, 0, none⟩) 6 6) [x.session, x.seq, u64 x.e, x.lease, u64 x.amount, u64 x.until_] w' (by have := hx.session; have := hx.seq; have := hx.lease; simp [u64_lt, *]) (by first | assumption | omega | (simp <;> omega) | (constructor <;> (first | omega | (simp only [LenOk]; omega) | (simp <;> omega)))) (hw.rdVec 2 rfl [0] rfl rfl) (hw.give [0] rfl (by decide))).mono ?_
  rintro _ w1 ⟨sl'1_, rfl, hO⟩
  refine (?_ : CL _ _ _ _ _ _ (Own w (fps [Res.bv o TOut sl bs]) [Res.row b3 42 (RepD.cells x), Res.vec 23 1 (.slice (some ⟨b20, 0, none⟩) 6 6) [x.session, x.seq, u64 x.e, x.lease, u64 x.amount, u64 x.until_].length ([x.session, x.seq, u64 x.e, x.lease, u64 x.amount, u64 x.until_].flatMap U1), Res.bv o TOut sl'1_ (bs ++ numsB [x.session, x.seq, u64 x.e, x.lease, u64 x.amount, u64 x.until_])])) w1 (hw.frameL [0] rfl hO)
  exact l_nil (ret0 rfl (fun w' hw => ⟨sl'1_, rfl, hw.sel [2] rfl (by decide)⟩))
theorem replies_s (w : World) : Rets Tryz.prog 30 #[] w fun u_ w' => u_ = .agg #[.func (.func 67) #[] #[], .func (.func 68) #[] #[], .func (.func 69) #[] #[]] ∧ Own w [] [] w' := by
  refine fn_enter (args := []) Tryz.func30 rfl Tryz.ntmps30 rfl (Own.start w) ?_
  refine c_reg ?_
  refine l_new (v := .agg #[.nilFunc, .nilFunc, .nilFunc]) (by kernel_rfl) rfl (fun b0 => ?_)
  refine l_end ?_
  refine c_reg ?_
  refine l_bld (cs := [.func (.func 67) #[] #[], .func (.func 68) #[] #[], .func (.func 69) #[] #[]]) (z := [.nilFunc, .nilFunc, .nilFunc]) (pl := [(0, 1), (1, 1), (2, 1)]) (by kernel_rfl) (by kernel_rfl) rfl ?_
  refine l_stN (cs := [.nilFunc, .nilFunc, .nilFunc]) (vs := [.func (.func 67) #[] #[], .func (.func 68) #[] #[], .func (.func 69) #[] #[]]) 0 rfl rfl rfl (by kernel_rfl) (allc_cons rfl (allc_cons rfl (allc_cons rfl allc_nil))) (Nat.le_of_ble_eq_true rfl) ?_
  refine l_end ?_
  exact c_ret (retc (cs := [.func (.func 67) #[] #[], .func (.func 68) #[] #[], .func (.func 69) #[] #[]]) rfl rfl (by kernel_rfl) (Own.rowCells (i := 0) rfl) (fun w' hw => ⟨rfl, hw.drop⟩))
-- no function (scupper/msg.kind[scupper/api.Reply]).bytes
-- no function scupper/msg.Reply
end Go.Proofs.YtlkoekhjegaimaaGreat
