/-
  COMMANDS AND REPLIES, written and read: the program's and the reference's.
-/
import Derived.Test.YthincafbmpialaaGreatFwN
set_option linter.unusedVariables false
set_option maxRecDepth 10000
namespace Go.Proofs.YthincafbmpialaaGreat
open Go Go.Sc Go.Proofs

/-- 64 bits as a whole number. -/
def toI (n : Nat) : Int := if n ≤ 9223372036854775807 then n else (n : Int) - 18446744073709551616
theorem wrap_toI {n : Nat} (h : n < 18446744073709551616) : IntKind.i64.wrap (n : Int) = toI n := by
  rw [wi64_u (by omega)]; unfold toI; split <;> split <;> omega
theorem RdS.int {most : Nat} {b : List UInt8} {a a1 n : Nat} {bad bad1 : Bool} (h : RdS (pUpto most) b a bad n a1 bad1) : RdS (pInt most) b a bad (n : Int) a1 bad1 := RdS.map (fun n : Nat => (n : Int)) h
structure CmdD where
  session : Nat
  seq : Nat
  op : Int
  key : ByteArray
  amount : Int
  span : Int
  lease : Nat
  deriving DecidableEq
structure CmdD.wf (x : CmdD) : Prop where
  session : x.session < 18446744073709551616
  seq : x.seq < 18446744073709551616
  key : x.key.size ≤ 1048576
  amount : isI x.amount
  span : isI x.span
  lease : x.lease < 18446744073709551616
def CmdD.cells (x : CmdD) : List Value := [.int .u64 x.session, .int .u64 x.seq, .int .i64 x.op, .string x.key, .int .i64 x.amount, .int .i64 x.span, .int .u64 x.lease]
def CmdD.ok (x : CmdD) : Prop := (1 ≤ x.op ∧ x.op ≤ 5) ∧ x.key.size ≤ 64
instance (x : CmdD) : Decidable x.ok := inferInstanceAs (Decidable ((_ ∧ _) ∧ _))
def strB (s : ByteArray) : List UInt8 := s.data.toList
theorem strB_length (s : ByteArray) : (strB s).length = s.size := by unfold strB; rw [Array.length_toList]; rfl
def CmdD.enc (x : CmdD) : List UInt8 := numsB [x.session, x.seq, u64 x.op] ++ dat (strB x.key) ++ numsB [u64 x.amount, u64 x.span, x.lease]
structure RepD where
  session : Nat
  seq : Nat
  e : Int
  lease : Nat
  amount : Int
  until_ : Int
  deriving DecidableEq
structure RepD.wf (r : RepD) : Prop where
  session : r.session < 18446744073709551616
  seq : r.seq < 18446744073709551616
  lease : r.lease < 18446744073709551616
  amount : isI r.amount
  until_ : isI r.until_
def RepD.cells (r : RepD) : List Value := [.int .u64 r.session, .int .u64 r.seq, .int .i64 r.e, .int .u64 r.lease, .int .i64 r.amount, .int .i64 r.until_]
def RepD.ok (r : RepD) : Prop := 0 ≤ r.e ∧ r.e ≤ 20
instance (r : RepD) : Decidable r.ok := inferInstanceAs (Decidable (_ ∧ _))
def RepD.enc (r : RepD) : List UInt8 := numsB [r.session, r.seq, u64 r.e, r.lease, u64 r.amount, u64 r.until_]
theorem cmdSound_s (x : CmdD) (w : World) (hx : x.key.size ≤ 1048576) : Rets Tryz.prog 99 #[.agg (CmdD.cells x).toArray] w fun u_ w' => u_ = .bool (decide x.ok) ∧ Own w [] [] w' := by
  refine fn_own Tryz.func99 rfl Tryz.ntmps99 (Own.start w) ?_
  refine c_reg (l_box rfl rfl (fun b1 => l_as rfl (l_end (c_reg (a_fld (o := 2) rfl rfl (a_ldo 0 (v := Vi x.op) rfl rfl rfl rfl (l_geq rfl rfl rfl (l_mv rfl (l_band (q := 1 ≤ x.op) 3 3 [9, 8, 7] (x.op ≤ 5) rfl rfl rfl rfl rfl rfl trivial rfl (fun h1_3 => ?_) (fun g1_7 => ?_))))))))))
  ·
   refine l_on rfl (gT h1_3) (a_fld (o := 2) rfl rfl (l_on rfl (gT h1_3) (a_ldo 0 (v := Vi x.op) rfl rfl rfl rfl (l_on rfl (gT h1_3) (l_leq rfl rfl rfl ?_)))))
   exact l_gp rfl (fun _ hw => hw)
  refine l_mv rfl (l_band (q := (1 ≤ x.op) ∧ (x.op ≤ 5)) 4 8 [15, 14, 13, 12] (((x.key.size : Nat) : Int) ≤ 64) rfl rfl rfl rfl rfl rfl trivial rfl (fun h1_8 => ?_) (fun g1_13 => ?_))
  ·
   refine l_on rfl (gT h1_8) (a_fld (o := 3) rfl rfl (l_on rfl (gT h1_8) (a_ldo 0 (v := .string x.key) rfl rfl rfl rfl (l_on rfl (gT h1_8) (l_lens (by kernel_rfl) rfl rfl (l_on rfl (gT h1_8) (l_leq rfl rfl rfl ?_)))))))
   exact l_gp rfl (fun _ hw => hw)
  refine l_as rfl (l_end ?_)
  exact c_ret (ret1 (v := .bool (decide (((1 ≤ x.op) ∧ (x.op ≤ 5)) ∧ (((x.key.size : Nat) : Int) ≤ 64)))) rfl rfl (fun w' hw => ⟨(by congr 1; exact decide_eq_decide.2 (by unfold CmdD.ok; omega)), hw.drop⟩))
theorem cmdWrite_s {S : List Nat} (o : Nat) (sl : Value) (bs : List UInt8) (x : CmdD) (w : World) (hx : x.wf) (hb : bs.length ≤ 1000000000) (hin : Own w S [Res.bv o TOut sl bs] w) : Rets Tryz.prog 100 #[.pointer (some ⟨o, 0, none⟩), .agg (CmdD.cells x).toArray] w fun u_ w' => ∃ (sl' : Value), u_ = .tuple #[] ∧ Own w S [Res.bv o TOut sl' (bs ++ x.enc)] w' := by
  have hk : x.key.data.toList.length = x.key.size := strB_length x.key
  have hk2 := hx.key
  have hd := dat_length x.key.data.toList (by omega)
  have hn1 := numsB_length (ns := [x.session, x.seq, u64 x.op]) (by have := hx.session; have := hx.seq; simp [u64_lt, *])
  simp only [List.length_cons, List.length_nil] at hn1
  refine fn_own Tryz.func100 rfl Tryz.ntmps100 hin ?_
  refine c_reg (l_box rfl rfl (fun b3 => l_end (c_reg (l_mv rfl (a_fld (o := 0) rfl rfl (a_ldo 1 (v := Vn x.session) rfl rfl rfl rfl (a_fld (o := 1) rfl rfl (a_ldo 1 (v := Vn x.seq) rfl rfl rfl rfl (a_fld (o := 2) rfl rfl (a_ldo 1 (v := Vi x.op) rfl rfl rfl rfl (l_cvt (by kernel_rfl) rfl (wrap_u64 _) rfl ?_ (by kernel_rfl))))))))))))
  refine l_bsl (e := 28) (sz := 1) (vs := [Vn x.session, Vn x.seq, Vn (u64 x.op)]) (by kernel_rfl) rfl rfl (by simp [Value.cells]) (by decide) rfl (fun b12 => a_call rfl rfl (fun w' hw => (nums_s o _ _ (.slice (some ⟨b12, 0, none⟩) 3 3) [x.session, x.seq, u64 x.op] w' (by have := hx.session; have := hx.seq; simp [u64_lt, *]) (by first | omega | (simp <;> omega) | (constructor <;> (first | omega | (simp <;> omega)))) (hw.give [0] rfl (by decide)) (hw.rdVec 2 rfl [0] rfl rfl)).mono ?_))
  rintro _ w1 ⟨sl'1_, rfl, hO⟩
  refine (?_ : CL _ _ _ _ _ _ (Own w S [Res.row b3 47 (CmdD.cells x), Res.vec 28 1 (.slice (some ⟨b12, 0, none⟩) 3 3) [x.session, x.seq, u64 x.op].length ([x.session, x.seq, u64 x.op].flatMap U1), Res.bv o TOut sl'1_ (bs ++ numsB [x.session, x.seq, u64 x.op])])) w1 (hw.frameL [0] rfl hO)
  refine l_end (c_reg (l_mv rfl (a_fld (o := 3) rfl rfl (a_ldo 0 (v := .string x.key) rfl rfl rfl rfl (l_s2b (by kernel_rfl) (by kernel_rfl) rfl (by rw [maxLen_eq]; omega) rfl (fun v17 => ?_))))))
  refine l_haveO (fun w' hw => Sl.cell1 (Own.holds hw 3 _ rfl)) (fun hc1_ => ?_)
  refine l_bsl1 (e := 52) (vs := [v17]) (by kernel_rfl) rfl rfl (allc_cons hc1_ allc_nil) (by decide) rfl (fun b18 => a_call rfl rfl (fun w' hw => (data_s o sl'1_ (bs ++ numsB [x.session, x.seq, u64 x.op]) (.slice (some ⟨b18, 0, none⟩) 1 1) [(v17, x.key.data.toList)] w' (by simp [datsB]; omega) (by show 1 ≤ _; omega) (hw.give [2] rfl (by decide)) (hw.rdVec 4 rfl [2] rfl rfl) (all_cons (hw.rdRes 3 rfl [2] rfl rfl) (fun p hp => by cases hp))).mono ?_))
  rintro _ w1 ⟨sl'2_, rfl, hO⟩
  refine (?_ : CL _ _ _ _ _ _ (Own w S [Res.row b3 47 (CmdD.cells x), Res.vec 28 1 (.slice (some ⟨b12, 0, none⟩) 3 3) [x.session, x.seq, u64 x.op].length ([x.session, x.seq, u64 x.op].flatMap U1), Res.sl v17 x.key.data.toList.length (x.key.data.toList.map vb), Res.vec 52 1 (.slice (some ⟨b18, 0, none⟩) 1 1) [(v17, x.key.data.toList)].length ([(v17, x.key.data.toList)].flatMap pv), Res.bv o TOut sl'2_ ((bs ++ numsB [x.session, x.seq, u64 x.op]) ++ datsB [(v17, x.key.data.toList)])])) w1 (hw.frameL [2] rfl hO)
  refine l_end (c_last (l_mv rfl (a_fld (o := 4) rfl rfl (a_ldo 0 (v := Vi x.amount) rfl rfl rfl rfl (l_cvt (by kernel_rfl) rfl (wrap_u64 _) rfl ?_ (by kernel_rfl))))))
  refine a_fld (o := 5) rfl rfl (a_ldo 0 (v := Vi x.span) rfl rfl rfl rfl (l_cvt (by kernel_rfl) rfl (wrap_u64 _) rfl ?_ (by kernel_rfl)))
  refine a_fld (o := 6) rfl rfl (a_ldo 0 (v := Vn x.lease) rfl rfl rfl rfl (l_bsl (e := 28) (sz := 1) (vs := [Vn (u64 x.amount), Vn (u64 x.span), Vn x.lease]) (by kernel_rfl) rfl rfl (by simp [Value.cells]) (by decide) rfl (fun b29 => a_call rfl rfl (fun w' hw => (nums_s o sl'2_ ((bs ++ numsB [x.session, x.seq, u64 x.op]) ++ datsB [(v17, x.key.data.toList)]) (.slice (some ⟨b29, 0, none⟩) 3 3) [u64 x.amount, u64 x.span, x.lease] w' (by have := hx.lease; simp [u64_lt, *]) (by simp [datsB]; omega) (hw.give [4] rfl (by decide)) (hw.rdVec 5 rfl [4] rfl rfl)).mono ?_))))
  rintro _ w1 ⟨sl'3_, rfl, hO⟩
  refine (?_ : CL _ _ _ _ _ _ (Own w S [Res.row b3 47 (CmdD.cells x), Res.vec 28 1 (.slice (some ⟨b12, 0, none⟩) 3 3) [x.session, x.seq, u64 x.op].length ([x.session, x.seq, u64 x.op].flatMap U1), Res.sl v17 x.key.data.toList.length (x.key.data.toList.map vb), Res.vec 52 1 (.slice (some ⟨b18, 0, none⟩) 1 1) [(v17, x.key.data.toList)].length ([(v17, x.key.data.toList)].flatMap pv), Res.vec 28 1 (.slice (some ⟨b29, 0, none⟩) 3 3) [u64 x.amount, u64 x.span, x.lease].length ([u64 x.amount, u64 x.span, x.lease].flatMap U1), Res.bv o TOut sl'3_ (((bs ++ numsB [x.session, x.seq, u64 x.op]) ++ datsB [(v17, x.key.data.toList)]) ++ numsB [u64 x.amount, u64 x.span, x.lease])])) w1 (hw.frameL [4] rfl hO)
  exact l_nil (ret0 rfl (fun w' hw => ⟨sl'3_, rfl, by have h := hw.one 5 rfl; simpa [CmdD.enc, datsB, strB] using h⟩))
theorem commands_s (w : World) : Rets Tryz.prog 60 #[] w fun u_ w' => u_ = .agg #[.func (.func 99) #[] #[], .func (.func 100) #[] #[], .func (.func 103) #[] #[]] ∧ Own w [] [] w' := by
  refine fn_own Tryz.func60 rfl Tryz.ntmps60 (Own.start w) ?_
  refine c_reg (l_new (v := .agg #[.nilFunc, .nilFunc, .nilFunc]) (by kernel_rfl) rfl (fun b0 => l_end (c_reg (l_bld (cs := [.func (.func 99) #[] #[], .func (.func 100) #[] #[], .func (.func 103) #[] #[]]) (z := [.nilFunc, .nilFunc, .nilFunc]) (pl := [(0, 1), (1, 1), (2, 1)]) (by kernel_rfl) (by kernel_rfl) rfl (a_stN 0 rfl rfl rfl (allc rfl) rfl (l_end ?_))))))
  exact c_ret (retc (cs := [.func (.func 99) #[] #[], .func (.func 100) #[] #[], .func (.func 103) #[] #[]]) rfl rfl (by kernel_rfl) (Own.rowCells (i := 0) rfl) (fun w' hw => ⟨rfl, hw.drop⟩))
theorem cmdBytes_s (x : CmdD) (w : World) (hx : x.wf) : Rets Tryz.prog 61 #[.agg #[.func (.func 99) #[] #[], .func (.func 100) #[] #[], .func (.func 103) #[] #[]], .agg (CmdD.cells x).toArray] w fun u_ w' => ∃ (r : Value), u_ = .tuple #[r, Vi (errOf x.ok)] ∧ Own w [] [Res.vec 5 1 r (if x.ok then x.enc else []).length ((if x.ok then x.enc else []).map vb)] w' := by
  have hk := hx.key
  refine fn_own Tryz.func61 rfl Tryz.ntmps61 (Own.start w) ?_
  refine c_reg (l_box rfl rfl (fun b2 => l_box rfl rfl (fun b3 => l_as rfl (l_as rfl (l_end (c_seq (c_reg (a_fld (o := 0) rfl rfl (a_ldo 0 (v := .func (.func 99) #[] #[]) rfl rfl rfl rfl (a_ldr (cs := (CmdD.cells x)) 1 rfl rfl rfl (l_callv (fst := []) (cap := []) rfl (by kernel_rfl) rfl rfl (fun w' hw => (cmdSound_s x w' (by first | omega | (simp <;> omega))).mono ?_))))))))))))
  rintro _ w1 ⟨rfl, hO⟩
  refine (?_ : CL _ _ _ _ _ _ (Own w [] [Res.row b2 121 [.func (.func 99) #[] #[], .func (.func 100) #[] #[], .func (.func 103) #[] #[]], Res.row b3 47 (CmdD.cells x)])) w1 (hw.frame0 hO)
  refine l_notp (q := x.ok) rfl rfl (l_end (c_dec rfl (fun c1 => ?_) (fun c1 => ?_)))
  ·
   refine c_reg (l_as rfl (l_as rfl (l_end ?_)))
   exact c_ret (ret2 (v := .slice none 0 0) (v' := Vi 2) rfl rfl rfl (fun w' hw => ⟨.slice none 0 0, (by rw [errOf_F c1]), by rw [if_neg c1]; exact (own_nil hw T8 1).one 2 rfl⟩))
  ·
   refine c_skipC (c_reg (l_bld (cs := [.slice none 0 0]) (z := [.slice none 0 0]) (pl := [(0, 1)]) (by kernel_rfl) (by kernel_rfl) rfl (l_box rfl rfl (fun b13 => l_as rfl (l_end (c_reg (a_fld (o := 1) rfl rfl (a_ldo 0 (v := .func (.func 100) #[] #[]) rfl rfl rfl rfl (l_mv rfl (a_ldr (cs := (CmdD.cells x)) 1 rfl rfl rfl ?_))))))))))
   refine l_own [Res.row b2 121 [.func (.func 99) #[] #[], .func (.func 100) #[] #[], .func (.func 103) #[] #[]], Res.row b3 47 (CmdD.cells x), Res.bv b13 TOut (.slice none 0 0) ([] : List UInt8)] (fun w' hw => (own_nil hw T8 1).joinBv (i := 2) (j := 3) (by decide) rfl rfl) ?_
   refine l_callv (fst := []) (cap := []) rfl (by kernel_rfl) rfl rfl (fun w' hw => (cmdWrite_s b13 (.slice none 0 0) ([] : List UInt8) x w' ‹_› (by first | omega | (simp <;> omega) | (constructor <;> (first | omega | (simp <;> omega)))) (hw.give [2] rfl (by decide))).mono ?_)
   rintro _ w1 ⟨sl'1_, rfl, hO⟩
   refine (?_ : CL _ _ _ _ _ _ (Own w [] [Res.row b2 121 [.func (.func 99) #[] #[], .func (.func 100) #[] #[], .func (.func 103) #[] #[]], Res.row b3 47 (CmdD.cells x), Res.bv b13 TOut sl'1_ (([] : List UInt8) ++ x.enc)])) w1 (hw.frameL [2] rfl hO)
   refine l_end (c_reg (l_mv rfl (l_nck rfl rfl (a_fld (o := 0) rfl rfl ?_))))
   refine l_own [Res.row b2 121 [.func (.func 99) #[] #[], .func (.func 100) #[] #[], .func (.func 103) #[] #[]], Res.row b3 47 (CmdD.cells x), Res.row b13 TOut [sl'1_], Res.vec 5 1 sl'1_ (([] : List UInt8) ++ x.enc).length ((([] : List UInt8) ++ x.enc).map vb)] (fun w' hw => hw.splitBv (i := 2) (o := b13) (T := TOut) (v := sl'1_) (bs := (([] : List UInt8) ++ x.enc)) rfl) ?_
   refine a_ldo 2 (v := sl'1_) rfl rfl rfl rfl (l_as rfl (l_as rfl (l_end ?_)))
   exact c_ret (ret2 (v := sl'1_) (v' := Vi 0) rfl rfl rfl (fun w' hw => ⟨sl'1_, (by rw [errOf_T (Decidable.not_not.1 c1)]), by rw [if_pos (Decidable.not_not.1 c1)]; exact hw.one 3 rfl⟩))
theorem msgCommand_s (x : CmdD) (w : World) (hx : x.wf) : Rets Tryz.prog 25 #[.agg (CmdD.cells x).toArray] w fun u_ w' => ∃ (r : Value), u_ = .tuple #[r, Vi (errOf x.ok)] ∧ Own w [] [Res.vec 5 1 r (if x.ok then x.enc else []).length ((if x.ok then x.enc else []).map vb)] w' := by
  refine fn_own Tryz.func25 rfl Tryz.ntmps25 (Own.start w) ?_
  refine c_reg (l_box rfl rfl (fun b1 => l_as rfl (l_as rfl (l_end (c_seq (c_heldo [0] rfl (by decide) (by kernel_rfl) (fun w' hw hS => g_tk 1 rfl (w_ldr (cs := (CmdD.cells x)) 0 rfl rfl) hS (g_one 0 rfl hw (a_call rfl rfl (fun w' hw => (commands_s w').mono ?_))))))))))
  rintro _ w1 ⟨rfl, hO⟩
  refine (?_ : CL _ _ _ _ _ _ (Own w [] [Res.row b1 47 (CmdD.cells x)])) w1 (hw.frame0 hO)
  refine l_nilH [0] rfl (by decide) (fun w' hw hS => g_one 2 rfl hw (a_call rfl rfl (fun w' hw => (cmdBytes_s x w' ‹_›).mono ?_)))
  rintro _ w1 ⟨r1_, rfl, hO⟩
  refine (?_ : CL _ _ _ _ _ _ (Own w [] [Res.row b1 47 (CmdD.cells x), Res.vec 5 1 r1_ (if x.ok then x.enc else []).length ((if x.ok then x.enc else []).map vb)])) w1 (hw.frame0 hO)
  refine l_nilH [0] rfl (by decide) (fun w' hw hS => g_tk 3 rfl (v_ext (vs := [r1_, Vi (errOf x.ok)]) rfl rfl) hS (g_tk 4 rfl (v_ext (vs := [r1_, Vi (errOf x.ok)]) rfl rfl) hS (g_tk 5 rfl (v_as) hS (g_tk 6 rfl (v_as) hS (g_done ?_)))))
  refine (?_ : C _ _ _ _ _ _ _ (Own w [] [Res.row b1 47 (CmdD.cells x), Res.vec 5 1 r1_ (if x.ok then x.enc else []).length ((if x.ok then x.enc else []).map vb)])) _ hw
  exact c_ret (ret2 (v := r1_) (v' := Vi (errOf x.ok)) rfl rfl rfl (fun w' hw => ⟨r1_, rfl, hw.sel [1] rfl (by decide)⟩))
theorem repSound_s (x : RepD) (w : World) : Rets Tryz.prog 110 #[.agg (RepD.cells x).toArray] w fun u_ w' => u_ = .bool (decide x.ok) ∧ Own w [] [] w' := by
  refine fn_own Tryz.func110 rfl Tryz.ntmps110 (Own.start w) ?_
  refine c_reg (l_box rfl rfl (fun b1 => l_as rfl (l_end (c_reg (a_fld (o := 2) rfl rfl (a_ldo 0 (v := Vi x.e) rfl rfl rfl rfl (l_geq rfl rfl rfl (l_mv rfl (l_band (q := 0 ≤ x.e) 3 3 [9, 8, 7] (x.e ≤ 20) rfl rfl rfl rfl rfl rfl trivial rfl (fun h1_3 => ?_) (fun g1_7 => ?_))))))))))
  ·
   refine l_on rfl (gT h1_3) (a_fld (o := 2) rfl rfl (l_on rfl (gT h1_3) (a_ldo 0 (v := Vi x.e) rfl rfl rfl rfl (l_on rfl (gT h1_3) (l_leq rfl rfl rfl ?_)))))
   exact l_gp rfl (fun _ hw => hw)
  refine l_as rfl (l_end ?_)
  exact c_ret (ret1 (v := .bool (decide ((0 ≤ x.e) ∧ (x.e ≤ 20)))) rfl rfl (fun w' hw => ⟨rfl, hw.drop⟩))
theorem repWrite_s {S : List Nat} (o : Nat) (sl : Value) (bs : List UInt8) (x : RepD) (w : World) (hx : x.wf) (hb : bs.length ≤ 1000000000) (hin : Own w S [Res.bv o TOut sl bs] w) : Rets Tryz.prog 111 #[.pointer (some ⟨o, 0, none⟩), .agg (RepD.cells x).toArray] w fun u_ w' => ∃ (sl' : Value), u_ = .tuple #[] ∧ Own w S [Res.bv o TOut sl' (bs ++ x.enc)] w' := by
  refine fn_own Tryz.func111 rfl Tryz.ntmps111 hin ?_
  refine c_reg (l_box rfl rfl (fun b3 => l_end (c_last (l_mv rfl (a_fld (o := 0) rfl rfl (a_ldo 1 (v := Vn x.session) rfl rfl rfl rfl (a_fld (o := 1) rfl rfl (a_ldo 1 (v := Vn x.seq) rfl rfl rfl rfl (a_fld (o := 2) rfl rfl (a_ldo 1 (v := Vi x.e) rfl rfl rfl rfl (l_cvt (by kernel_rfl) rfl (wrap_u64 _) rfl ?_ (by kernel_rfl))))))))))))
  refine a_fld (o := 3) rfl rfl (a_ldo 1 (v := Vn x.lease) rfl rfl rfl rfl (a_fld (o := 4) rfl rfl (a_ldo 1 (v := Vi x.amount) rfl rfl rfl rfl (l_cvt (by kernel_rfl) rfl (wrap_u64 _) rfl ?_ (by kernel_rfl)))))
  refine a_fld (o := 5) rfl rfl (a_ldo 1 (v := Vi x.until_) rfl rfl rfl rfl (l_cvt (by kernel_rfl) rfl (wrap_u64 _) rfl ?_ (by kernel_rfl)))
  refine l_bsl (e := 28) (sz := 1) (vs := [Vn x.session, Vn x.seq, Vn (u64 x.e), Vn x.lease, Vn (u64 x.amount), Vn (u64 x.until_)]) (by kernel_rfl) rfl rfl (by simp [Value.cells]) (by decide) rfl (fun b20 => a_call rfl rfl (fun w' hw => (nums_s o _ _ (.slice (some ⟨b20, 0, none⟩) 6 6) [x.session, x.seq, u64 x.e, x.lease, u64 x.amount, u64 x.until_] w' (by have := hx.session; have := hx.seq; have := hx.lease; simp [u64_lt, *]) (by first | omega | (simp <;> omega) | (constructor <;> (first | omega | (simp <;> omega)))) (hw.give [0] rfl (by decide)) (hw.rdVec 2 rfl [0] rfl rfl)).mono ?_))
  rintro _ w1 ⟨sl'1_, rfl, hO⟩
  refine (?_ : CL _ _ _ _ _ _ (Own w S [Res.row b3 43 (RepD.cells x), Res.vec 28 1 (.slice (some ⟨b20, 0, none⟩) 6 6) [x.session, x.seq, u64 x.e, x.lease, u64 x.amount, u64 x.until_].length ([x.session, x.seq, u64 x.e, x.lease, u64 x.amount, u64 x.until_].flatMap U1), Res.bv o TOut sl'1_ (bs ++ numsB [x.session, x.seq, u64 x.e, x.lease, u64 x.amount, u64 x.until_])])) w1 (hw.frameL [0] rfl hO)
  exact l_nil (ret0 rfl (fun w' hw => ⟨sl'1_, rfl, hw.sel [2] rfl (by decide)⟩))
theorem replies_s (w : World) : Rets Tryz.prog 74 #[] w fun u_ w' => u_ = .agg #[.func (.func 110) #[] #[], .func (.func 111) #[] #[], .func (.func 112) #[] #[]] ∧ Own w [] [] w' := by
  refine fn_own Tryz.func74 rfl Tryz.ntmps74 (Own.start w) ?_
  refine c_reg (l_new (v := .agg #[.nilFunc, .nilFunc, .nilFunc]) (by kernel_rfl) rfl (fun b0 => l_end (c_reg (l_bld (cs := [.func (.func 110) #[] #[], .func (.func 111) #[] #[], .func (.func 112) #[] #[]]) (z := [.nilFunc, .nilFunc, .nilFunc]) (pl := [(0, 1), (1, 1), (2, 1)]) (by kernel_rfl) (by kernel_rfl) rfl (a_stN 0 rfl rfl rfl (allc rfl) rfl (l_end ?_))))))
  exact c_ret (retc (cs := [.func (.func 110) #[] #[], .func (.func 111) #[] #[], .func (.func 112) #[] #[]]) rfl rfl (by kernel_rfl) (Own.rowCells (i := 0) rfl) (fun w' hw => ⟨rfl, hw.drop⟩))
theorem repBytes_s (x : RepD) (w : World) (hx : x.wf) : Rets Tryz.prog 91 #[.agg #[.func (.func 110) #[] #[], .func (.func 111) #[] #[], .func (.func 112) #[] #[]], .agg (RepD.cells x).toArray] w fun u_ w' => ∃ (r : Value), u_ = .tuple #[r, Vi (errOf x.ok)] ∧ Own w [] [Res.vec 5 1 r (if x.ok then x.enc else []).length ((if x.ok then x.enc else []).map vb)] w' := by
  refine fn_own Tryz.func91 rfl Tryz.ntmps91 (Own.start w) ?_
  refine c_reg (l_box rfl rfl (fun b2 => l_box rfl rfl (fun b3 => l_as rfl (l_as rfl (l_end (c_seq (c_reg (a_fld (o := 0) rfl rfl (a_ldo 0 (v := .func (.func 110) #[] #[]) rfl rfl rfl rfl (a_ldr (cs := (RepD.cells x)) 1 rfl rfl rfl (l_callv (fst := []) (cap := []) rfl (by kernel_rfl) rfl rfl (fun w' hw => (repSound_s x w').mono ?_))))))))))))
  rintro _ w1 ⟨rfl, hO⟩
  refine (?_ : CL _ _ _ _ _ _ (Own w [] [Res.row b2 137 [.func (.func 110) #[] #[], .func (.func 111) #[] #[], .func (.func 112) #[] #[]], Res.row b3 43 (RepD.cells x)])) w1 (hw.frame0 hO)
  refine l_notp (q := x.ok) rfl rfl (l_end (c_dec rfl (fun c1 => ?_) (fun c1 => ?_)))
  ·
   refine c_reg (l_as rfl (l_as rfl (l_end ?_)))
   exact c_ret (ret2 (v := .slice none 0 0) (v' := Vi 2) rfl rfl rfl (fun w' hw => ⟨.slice none 0 0, (by rw [errOf_F c1]), by rw [if_neg c1]; exact (own_nil hw T8 1).one 2 rfl⟩))
  ·
   refine c_skipC (c_reg (l_bld (cs := [.slice none 0 0]) (z := [.slice none 0 0]) (pl := [(0, 1)]) (by kernel_rfl) (by kernel_rfl) rfl (l_box rfl rfl (fun b13 => l_as rfl (l_end (c_reg (a_fld (o := 1) rfl rfl (a_ldo 0 (v := .func (.func 111) #[] #[]) rfl rfl rfl rfl (l_mv rfl (a_ldr (cs := (RepD.cells x)) 1 rfl rfl rfl ?_))))))))))
   refine l_own [Res.row b2 137 [.func (.func 110) #[] #[], .func (.func 111) #[] #[], .func (.func 112) #[] #[]], Res.row b3 43 (RepD.cells x), Res.bv b13 TOut (.slice none 0 0) ([] : List UInt8)] (fun w' hw => (own_nil hw T8 1).joinBv (i := 2) (j := 3) (by decide) rfl rfl) ?_
   refine l_callv (fst := []) (cap := []) rfl (by kernel_rfl) rfl rfl (fun w' hw => (repWrite_s b13 (.slice none 0 0) ([] : List UInt8) x w' ‹_› (by first | omega | (simp <;> omega) | (constructor <;> (first | omega | (simp <;> omega)))) (hw.give [2] rfl (by decide))).mono ?_)
   rintro _ w1 ⟨sl'1_, rfl, hO⟩
   refine (?_ : CL _ _ _ _ _ _ (Own w [] [Res.row b2 137 [.func (.func 110) #[] #[], .func (.func 111) #[] #[], .func (.func 112) #[] #[]], Res.row b3 43 (RepD.cells x), Res.bv b13 TOut sl'1_ (([] : List UInt8) ++ x.enc)])) w1 (hw.frameL [2] rfl hO)
   refine l_end (c_reg (l_mv rfl (l_nck rfl rfl (a_fld (o := 0) rfl rfl ?_))))
   refine l_own [Res.row b2 137 [.func (.func 110) #[] #[], .func (.func 111) #[] #[], .func (.func 112) #[] #[]], Res.row b3 43 (RepD.cells x), Res.row b13 TOut [sl'1_], Res.vec 5 1 sl'1_ (([] : List UInt8) ++ x.enc).length ((([] : List UInt8) ++ x.enc).map vb)] (fun w' hw => hw.splitBv (i := 2) (o := b13) (T := TOut) (v := sl'1_) (bs := (([] : List UInt8) ++ x.enc)) rfl) ?_
   refine a_ldo 2 (v := sl'1_) rfl rfl rfl rfl (l_as rfl (l_as rfl (l_end ?_)))
   exact c_ret (ret2 (v := sl'1_) (v' := Vi 0) rfl rfl rfl (fun w' hw => ⟨sl'1_, (by rw [errOf_T (Decidable.not_not.1 c1)]), by rw [if_pos (Decidable.not_not.1 c1)]; exact hw.one 3 rfl⟩))
theorem msgReply_s (x : RepD) (w : World) (hx : x.wf) : Rets Tryz.prog 53 #[.agg (RepD.cells x).toArray] w fun u_ w' => ∃ (r : Value), u_ = .tuple #[r, Vi (errOf x.ok)] ∧ Own w [] [Res.vec 5 1 r (if x.ok then x.enc else []).length ((if x.ok then x.enc else []).map vb)] w' := by
  refine fn_own Tryz.func53 rfl Tryz.ntmps53 (Own.start w) ?_
  refine c_reg (l_box rfl rfl (fun b1 => l_as rfl (l_as rfl (l_end (c_seq (c_heldo [0] rfl (by decide) (by kernel_rfl) (fun w' hw hS => g_tk 1 rfl (w_ldr (cs := (RepD.cells x)) 0 rfl rfl) hS (g_one 0 rfl hw (a_call rfl rfl (fun w' hw => (replies_s w').mono ?_))))))))))
  rintro _ w1 ⟨rfl, hO⟩
  refine (?_ : CL _ _ _ _ _ _ (Own w [] [Res.row b1 43 (RepD.cells x)])) w1 (hw.frame0 hO)
  refine l_nilH [0] rfl (by decide) (fun w' hw hS => g_one 2 rfl hw (a_call rfl rfl (fun w' hw => (repBytes_s x w' ‹_›).mono ?_)))
  rintro _ w1 ⟨r1_, rfl, hO⟩
  refine (?_ : CL _ _ _ _ _ _ (Own w [] [Res.row b1 43 (RepD.cells x), Res.vec 5 1 r1_ (if x.ok then x.enc else []).length ((if x.ok then x.enc else []).map vb)])) w1 (hw.frame0 hO)
  refine l_nilH [0] rfl (by decide) (fun w' hw hS => g_tk 3 rfl (v_ext (vs := [r1_, Vi (errOf x.ok)]) rfl rfl) hS (g_tk 4 rfl (v_ext (vs := [r1_, Vi (errOf x.ok)]) rfl rfl) hS (g_tk 5 rfl (v_as) hS (g_tk 6 rfl (v_as) hS (g_done ?_)))))
  refine (?_ : C _ _ _ _ _ _ _ (Own w [] [Res.row b1 43 (RepD.cells x), Res.vec 5 1 r1_ (if x.ok then x.enc else []).length ((if x.ok then x.enc else []).map vb)])) _ hw
  exact c_ret (ret2 (v := r1_) (v' := Vi (errOf x.ok)) rfl rfl rfl (fun w' hw => ⟨r1_, rfl, hw.sel [1] rfl (by decide)⟩))
def strOf (l : List UInt8) : ByteArray := ⟨l.toArray⟩
def pCmd : List UInt8 → Nat → Option (CmdD × Nat) := pBind pNum fun s => pBind pNum fun q => pBind (pInt 5) fun o => pBind pBytes fun k => pBind pNum fun a => pBind pNum fun p => pBind pNum fun l => pPure ⟨s, q, o, strOf k, toI a, toI p, l⟩
def pRpl : List UInt8 → Nat → Option (RepD × Nat) := pBind pNum fun s => pBind pNum fun q => pBind (pInt 20) fun e => pBind pNum fun l => pBind pNum fun a => pBind pNum fun u => pPure ⟨s, q, e, l, toI a, toI u⟩
def cmdZ : CmdD := ⟨0, 0, 0, ⟨#[]⟩, 0, 0, 0⟩
def repZ : RepD := ⟨0, 0, 0, 0, 0, 0⟩
instance : DecidablePred CmdD.ok := fun x => inferInstance
instance : DecidablePred RepD.ok := fun x => inferInstance
def decCmd (b : List UInt8) : Option CmdD := whole pCmd CmdD.ok b
def decRpl (b : List UInt8) : Option RepD := whole pRpl RepD.ok b
theorem cmdRead_s {S : List Nat} (o : Nat) (v : Value) (b : List UInt8) (a : Nat) (bad : Bool) (w : World) (hl : LenOk b.length) (ha : a ≤ b.length) (hin : Own w S [Res.row o 185 [v, Vj a, .bool bad]] w) (hb : Rd w S (Res.sl v b.length (b.map vb))) : Rets Tryz.prog 103 #[.pointer (some ⟨o, 0, none⟩)] w fun u_ w' => ∃ (s : Nat) (q : Nat) (op : Nat) (k : ByteArray) (am : Int) (sp : Int) (le : Nat) (a' : Nat) (bad' : Bool), u_ = .agg #[Vn s, Vn q, Vj op, .string k, Vi am, Vi sp, Vn le] ∧ RdS pCmd b a bad (⟨s, q, (op : Int), k, am, sp, le⟩ : CmdD) a' bad' ∧ k.size ≤ b.length ∧ Own w S [Res.row o 185 [v, Vj a', .bool bad']] w' := by
  refine fn_own Tryz.func103 rfl Tryz.ntmps103 hin ?_
  refine c_reg (l_new (v := .agg #[Vn 0, Vn 0, Vi 0, .string (⟨#[]⟩ : ByteArray), Vi 0, Vi 0, Vn 0]) (by kernel_rfl) rfl (fun b2 => l_end (c_seq (c_heldo [] rfl (by decide) (by kernel_rfl) (fun w' hw hS => g_tk 0 rfl (v_mv) hS (g_tk 2 rfl (v_mv) hS (g_tk 4 rfl (v_mv) hS (g_tk 6 rfl (v_mv) hS (g_tk 9 rfl (v_mv) hS (g_tk 12 rfl (v_mv) hS (g_tk 15 rfl (v_mv) hS (g_one 1 rfl hw ?_))))))))))))
  refine a_call rfl rfl (fun w' hw => (inNum_s o v b a bad w' (by first | assumption | omega | (simp <;> omega) | (constructor <;> (first | omega | (simp only [LenOk]; omega) | (simp <;> omega)))) (by first | omega | (simp <;> omega)) (hw.give [0] rfl (by decide)) (hw.rdTo hb [0] rfl)).mono ?_)
  rintro _ w1 ⟨n1_, a'2_, bad'3_, rfl, hf1_1, hf1_1_1, hO⟩
  have hq1 := hf1_1.le
  refine (?_ : CL _ _ _ _ _ _ (Own w S [Res.row b2 47 [Vn 0, Vn 0, Vi 0, .string (⟨#[]⟩ : ByteArray), Vi 0, Vi 0, Vn 0], Res.row o 185 [v, Vj a'2_, .bool bad'3_]])) w1 (hw.frameL [0] rfl hO)
  refine l_nx 3 rfl (a_call rfl rfl (fun w' hw => (inNum_s o v b a'2_ bad'3_ w' (by first | assumption | omega | (simp <;> omega) | (constructor <;> (first | omega | (simp only [LenOk]; omega) | (simp <;> omega)))) (by first | omega | (simp <;> omega)) (hw.give [1] rfl (by decide)) (hw.rdTo hb [1] rfl)).mono ?_))
  rintro _ w1 ⟨n4_, a'5_, bad'6_, rfl, hf1_3, hf1_3_1, hO⟩
  have hq2 := hf1_3.le
  refine (?_ : CL _ _ _ _ _ _ (Own w S [Res.row b2 47 [Vn 0, Vn 0, Vi 0, .string (⟨#[]⟩ : ByteArray), Vi 0, Vi 0, Vn 0], Res.row o 185 [v, Vj a'5_, .bool bad'6_]])) w1 (hw.frameL [1] rfl hO)
  refine l_nx 5 rfl (a_call rfl rfl (fun w' hw => (inUpto_s o v b a'5_ bad'6_ 5 w' (by first | assumption | omega | (simp <;> omega) | (constructor <;> (first | omega | (simp only [LenOk]; omega) | (simp <;> omega)))) (by first | omega | (simp <;> omega)) (by first | omega | (simp <;> omega)) (hw.give [1] rfl (by decide)) (hw.rdTo hb [1] rfl)).mono ?_))
  rintro _ w1 ⟨n7_, a'8_, bad'9_, rfl, hf1_5, hf1_5_1, hO⟩
  have hq3 := hf1_5.le
  refine (?_ : CL _ _ _ _ _ _ (Own w S [Res.row b2 47 [Vn 0, Vn 0, Vi 0, .string (⟨#[]⟩ : ByteArray), Vi 0, Vi 0, Vn 0], Res.row o 185 [v, Vj a'8_, .bool bad'9_]])) w1 (hw.frameL [1] rfl hO)
  refine l_nx 7 rfl (a_call rfl rfl (fun w' hw => (inData_s o v b a'8_ bad'9_ w' (by first | assumption | omega | (simp <;> omega) | (constructor <;> (first | omega | (simp only [LenOk]; omega) | (simp <;> omega)))) (by first | omega | (simp <;> omega)) (hw.give [1] rfl (by decide)) (hw.rdTo hb [1] rfl)).mono ?_))
  rintro r10_ w1 ⟨_, d11_, a'12_, bad'13_, rfl, hf1_7, hf1_7_1, hO⟩
  have hq4 := hf1_7.le
  refine (?_ : CL _ _ _ _ _ _ (Own w S [Res.row b2 47 [Vn 0, Vn 0, Vi 0, .string (⟨#[]⟩ : ByteArray), Vi 0, Vi 0, Vn 0], Res.row o 185 [v, Vj a'12_, .bool bad'13_], Res.vec 5 1 r10_ d11_.length (d11_.map vb)])) w1 (hw.frameL [1] rfl hO)
  refine l_nilH [] rfl (by decide) (fun w' hw hS => g_pick2 8 10 ?_ ?_)
  ·
   refine pk_of 8 rfl hw (l_b2s (bs := d11_) (by kernel_rfl) (by kernel_rfl) rfl (fun w' hw' => Vec.sl (Own.holds hw' 2 _ rfl)) rfl (l_nx 10 rfl (a_call rfl rfl (fun w' hw => (inNum_s o v b a'12_ bad'13_ w' (by first | assumption | omega | (simp <;> omega) | (constructor <;> (first | omega | (simp only [LenOk]; omega) | (simp <;> omega)))) (by first | omega | (simp <;> omega)) (hw.give [1] rfl (by decide)) (hw.rdTo hb [1] rfl)).mono ?_))))
   rintro _ w1 ⟨n14_, a'15_, bad'16_, rfl, hf1_10, hf1_10_1, hO⟩
   have hq5 := hf1_10.le
   refine (?_ : CL _ _ _ _ _ _ (Own w S [Res.row b2 47 [Vn 0, Vn 0, Vi 0, .string (⟨#[]⟩ : ByteArray), Vi 0, Vi 0, Vn 0], Res.vec 5 1 r10_ d11_.length (d11_.map vb), Res.row o 185 [v, Vj a'15_, .bool bad'16_]])) w1 (hw.frameL [1] rfl hO)
   refine l_nilH [] rfl (by decide) (fun w' hw hS => g_tk 11 rfl (v_cvt (c := toI n14_) (by kernel_rfl) rfl (wrap_toI hf1_10_1) (by kernel_rfl)) hS (g_one 13 rfl hw (a_call rfl rfl (fun w' hw => (inNum_s o v b a'15_ bad'16_ w' (by first | assumption | omega | (simp <;> omega) | (constructor <;> (first | omega | (simp only [LenOk]; omega) | (simp <;> omega)))) (by first | omega | (simp <;> omega)) (hw.give [2] rfl (by decide)) (hw.rdTo hb [2] rfl)).mono ?_))))
   rintro _ w1 ⟨n17_, a'18_, bad'19_, rfl, hf1_13, hf1_13_1, hO⟩
   have hq6 := hf1_13.le
   refine (?_ : CL _ _ _ _ _ _ (Own w S [Res.row b2 47 [Vn 0, Vn 0, Vi 0, .string (⟨#[]⟩ : ByteArray), Vi 0, Vi 0, Vn 0], Res.vec 5 1 r10_ d11_.length (d11_.map vb), Res.row o 185 [v, Vj a'18_, .bool bad'19_]])) w1 (hw.frameL [2] rfl hO)
   refine l_nilH [] rfl (by decide) (fun w' hw hS => g_tk 14 rfl (v_cvt (c := toI n17_) (by kernel_rfl) rfl (wrap_toI hf1_13_1) (by kernel_rfl)) hS (g_one 16 rfl hw (a_call rfl rfl (fun w' hw => (inNum_s o v b a'18_ bad'19_ w' (by first | assumption | omega | (simp <;> omega) | (constructor <;> (first | omega | (simp only [LenOk]; omega) | (simp <;> omega)))) (by first | omega | (simp <;> omega)) (hw.give [2] rfl (by decide)) (hw.rdTo hb [2] rfl)).mono ?_))))
   rintro _ w1 ⟨n20_, a'21_, bad'22_, rfl, hf1_16, hf1_16_1, hO⟩
   refine (?_ : CL _ _ _ _ _ _ (Own w S [Res.row b2 47 [Vn 0, Vn 0, Vi 0, .string (⟨#[]⟩ : ByteArray), Vi 0, Vi 0, Vn 0], Res.vec 5 1 r10_ d11_.length (d11_.map vb), Res.row o 185 [v, Vj a'21_, .bool bad'22_]])) w1 (hw.frameL [2] rfl hO)
   refine l_nilH [] rfl (by decide) (fun w' hw hS => g_tk 17 rfl (v_bld (cs := [Vn n1_, Vn n4_, Vj n7_, .string (⟨d11_.toArray⟩ : ByteArray), Vi (toI n14_), Vi (toI n17_), Vn n20_]) (z := [Vn 0, Vn 0, Vi 0, .string (⟨#[]⟩ : ByteArray), Vi 0, Vi 0, Vn 0]) (pl := [(0, 1), (1, 1), (2, 1), (3, 1), (4, 1), (5, 1), (6, 1)]) (by kernel_rfl) (by kernel_rfl)) hS (g_one 18 rfl hw (a_stN 0 rfl rfl rfl (allc rfl) rfl (l_nilH [] rfl (by decide) (fun w' hw hS => g_done ?_)))))
   refine (?_ : C _ _ _ _ _ _ _ (Own w S [Res.row b2 47 [Vn n1_, Vn n4_, Vj n7_, .string (⟨d11_.toArray⟩ : ByteArray), Vi (toI n14_), Vi (toI n17_), Vn n20_], Res.vec 5 1 r10_ d11_.length (d11_.map vb), Res.row o 185 [v, Vj a'21_, .bool bad'22_]])) _ hw
   exact c_ret (retc (cs := [Vn n1_, Vn n4_, Vj n7_, .string (⟨d11_.toArray⟩ : ByteArray), Vi (toI n14_), Vi (toI n17_), Vn n20_]) rfl rfl (by kernel_rfl) (Own.rowCells (i := 0) rfl) (fun w' hw => ⟨n1_, n4_, n7_, (⟨d11_.toArray⟩ : ByteArray), toI n14_, toI n17_, n20_, a'21_, bad'22_, rfl, hf1_1.bind (hf1_3.bind (RdS.bind hf1_5.int (hf1_7.bind (hf1_10.bind (hf1_13.bind (hf1_16.bind (RdS.pure _ hf1_16.le))))))), hf1_7_1, hw.sel [2] rfl (by decide)⟩))
  ·
   refine pk_of 10 rfl hw (a_call rfl rfl (fun w' hw => (inNum_s o v b a'12_ bad'13_ w' (by first | assumption | omega | (simp <;> omega) | (constructor <;> (first | omega | (simp only [LenOk]; omega) | (simp <;> omega)))) (by first | omega | (simp <;> omega)) (hw.give [1] rfl (by decide)) (hw.rdTo hb [1] rfl)).mono ?_))
   rintro _ w1 ⟨n23_, a'24_, bad'25_, rfl, hf1_10, hf1_10_1, hO⟩
   have hq5 := hf1_10.le
   refine (?_ : CL _ _ _ _ _ _ (Own w S [Res.row b2 47 [Vn 0, Vn 0, Vi 0, .string (⟨#[]⟩ : ByteArray), Vi 0, Vi 0, Vn 0], Res.vec 5 1 r10_ d11_.length (d11_.map vb), Res.row o 185 [v, Vj a'24_, .bool bad'25_]])) w1 (hw.frameL [1] rfl hO)
   refine l_nilH [] rfl (by decide) (fun w' hw hS => g_tk 11 rfl (v_cvt (c := toI n23_) (by kernel_rfl) rfl (wrap_toI hf1_10_1) (by kernel_rfl)) hS (g_pick2 8 13 ?_ ?_))
   ·
    refine pk_of 8 rfl hw (l_b2s (bs := d11_) (by kernel_rfl) (by kernel_rfl) rfl (fun w' hw' => Vec.sl (Own.holds hw' 1 _ rfl)) rfl (l_nx 13 rfl (a_call rfl rfl (fun w' hw => (inNum_s o v b a'24_ bad'25_ w' (by first | assumption | omega | (simp <;> omega) | (constructor <;> (first | omega | (simp only [LenOk]; omega) | (simp <;> omega)))) (by first | omega | (simp <;> omega)) (hw.give [2] rfl (by decide)) (hw.rdTo hb [2] rfl)).mono ?_))))
    rintro _ w1 ⟨n26_, a'27_, bad'28_, rfl, hf1_13, hf1_13_1, hO⟩
    have hq6 := hf1_13.le
    refine (?_ : CL _ _ _ _ _ _ (Own w S [Res.row b2 47 [Vn 0, Vn 0, Vi 0, .string (⟨#[]⟩ : ByteArray), Vi 0, Vi 0, Vn 0], Res.vec 5 1 r10_ d11_.length (d11_.map vb), Res.row o 185 [v, Vj a'27_, .bool bad'28_]])) w1 (hw.frameL [2] rfl hO)
    refine l_nilH [] rfl (by decide) (fun w' hw hS => g_tk 14 rfl (v_cvt (c := toI n26_) (by kernel_rfl) rfl (wrap_toI hf1_13_1) (by kernel_rfl)) hS (g_one 16 rfl hw (a_call rfl rfl (fun w' hw => (inNum_s o v b a'27_ bad'28_ w' (by first | assumption | omega | (simp <;> omega) | (constructor <;> (first | omega | (simp only [LenOk]; omega) | (simp <;> omega)))) (by first | omega | (simp <;> omega)) (hw.give [2] rfl (by decide)) (hw.rdTo hb [2] rfl)).mono ?_))))
    rintro _ w1 ⟨n29_, a'30_, bad'31_, rfl, hf1_16, hf1_16_1, hO⟩
    refine (?_ : CL _ _ _ _ _ _ (Own w S [Res.row b2 47 [Vn 0, Vn 0, Vi 0, .string (⟨#[]⟩ : ByteArray), Vi 0, Vi 0, Vn 0], Res.vec 5 1 r10_ d11_.length (d11_.map vb), Res.row o 185 [v, Vj a'30_, .bool bad'31_]])) w1 (hw.frameL [2] rfl hO)
    refine l_nilH [] rfl (by decide) (fun w' hw hS => g_tk 17 rfl (v_bld (cs := [Vn n1_, Vn n4_, Vj n7_, .string (⟨d11_.toArray⟩ : ByteArray), Vi (toI n23_), Vi (toI n26_), Vn n29_]) (z := [Vn 0, Vn 0, Vi 0, .string (⟨#[]⟩ : ByteArray), Vi 0, Vi 0, Vn 0]) (pl := [(0, 1), (1, 1), (2, 1), (3, 1), (4, 1), (5, 1), (6, 1)]) (by kernel_rfl) (by kernel_rfl)) hS (g_one 18 rfl hw (a_stN 0 rfl rfl rfl (allc rfl) rfl (l_nilH [] rfl (by decide) (fun w' hw hS => g_done ?_)))))
    refine (?_ : C _ _ _ _ _ _ _ (Own w S [Res.row b2 47 [Vn n1_, Vn n4_, Vj n7_, .string (⟨d11_.toArray⟩ : ByteArray), Vi (toI n23_), Vi (toI n26_), Vn n29_], Res.vec 5 1 r10_ d11_.length (d11_.map vb), Res.row o 185 [v, Vj a'30_, .bool bad'31_]])) _ hw
    exact c_ret (retc (cs := [Vn n1_, Vn n4_, Vj n7_, .string (⟨d11_.toArray⟩ : ByteArray), Vi (toI n23_), Vi (toI n26_), Vn n29_]) rfl rfl (by kernel_rfl) (Own.rowCells (i := 0) rfl) (fun w' hw => ⟨n1_, n4_, n7_, (⟨d11_.toArray⟩ : ByteArray), toI n23_, toI n26_, n29_, a'30_, bad'31_, rfl, hf1_1.bind (hf1_3.bind (RdS.bind hf1_5.int (hf1_7.bind (hf1_10.bind (hf1_13.bind (hf1_16.bind (RdS.pure _ hf1_16.le))))))), hf1_7_1, hw.sel [2] rfl (by decide)⟩))
   ·
    refine pk_of 13 rfl hw (a_call rfl rfl (fun w' hw => (inNum_s o v b a'24_ bad'25_ w' (by first | assumption | omega | (simp <;> omega) | (constructor <;> (first | omega | (simp only [LenOk]; omega) | (simp <;> omega)))) (by first | omega | (simp <;> omega)) (hw.give [2] rfl (by decide)) (hw.rdTo hb [2] rfl)).mono ?_))
    rintro _ w1 ⟨n32_, a'33_, bad'34_, rfl, hf1_13, hf1_13_1, hO⟩
    have hq6 := hf1_13.le
    refine (?_ : CL _ _ _ _ _ _ (Own w S [Res.row b2 47 [Vn 0, Vn 0, Vi 0, .string (⟨#[]⟩ : ByteArray), Vi 0, Vi 0, Vn 0], Res.vec 5 1 r10_ d11_.length (d11_.map vb), Res.row o 185 [v, Vj a'33_, .bool bad'34_]])) w1 (hw.frameL [2] rfl hO)
    refine l_nilH [] rfl (by decide) (fun w' hw hS => g_tk 14 rfl (v_cvt (c := toI n32_) (by kernel_rfl) rfl (wrap_toI hf1_13_1) (by kernel_rfl)) hS (g_pick2 8 16 ?_ ?_))
    ·
     refine pk_of 8 rfl hw (l_b2s (bs := d11_) (by kernel_rfl) (by kernel_rfl) rfl (fun w' hw' => Vec.sl (Own.holds hw' 1 _ rfl)) rfl (l_nx 16 rfl (a_call rfl rfl (fun w' hw => (inNum_s o v b a'33_ bad'34_ w' (by first | assumption | omega | (simp <;> omega) | (constructor <;> (first | omega | (simp only [LenOk]; omega) | (simp <;> omega)))) (by first | omega | (simp <;> omega)) (hw.give [2] rfl (by decide)) (hw.rdTo hb [2] rfl)).mono ?_))))
     rintro _ w1 ⟨n35_, a'36_, bad'37_, rfl, hf1_16, hf1_16_1, hO⟩
     refine (?_ : CL _ _ _ _ _ _ (Own w S [Res.row b2 47 [Vn 0, Vn 0, Vi 0, .string (⟨#[]⟩ : ByteArray), Vi 0, Vi 0, Vn 0], Res.vec 5 1 r10_ d11_.length (d11_.map vb), Res.row o 185 [v, Vj a'36_, .bool bad'37_]])) w1 (hw.frameL [2] rfl hO)
     refine l_nilH [] rfl (by decide) (fun w' hw hS => g_tk 17 rfl (v_bld (cs := [Vn n1_, Vn n4_, Vj n7_, .string (⟨d11_.toArray⟩ : ByteArray), Vi (toI n23_), Vi (toI n32_), Vn n35_]) (z := [Vn 0, Vn 0, Vi 0, .string (⟨#[]⟩ : ByteArray), Vi 0, Vi 0, Vn 0]) (pl := [(0, 1), (1, 1), (2, 1), (3, 1), (4, 1), (5, 1), (6, 1)]) (by kernel_rfl) (by kernel_rfl)) hS (g_one 18 rfl hw (a_stN 0 rfl rfl rfl (allc rfl) rfl (l_nilH [] rfl (by decide) (fun w' hw hS => g_done ?_)))))
     refine (?_ : C _ _ _ _ _ _ _ (Own w S [Res.row b2 47 [Vn n1_, Vn n4_, Vj n7_, .string (⟨d11_.toArray⟩ : ByteArray), Vi (toI n23_), Vi (toI n32_), Vn n35_], Res.vec 5 1 r10_ d11_.length (d11_.map vb), Res.row o 185 [v, Vj a'36_, .bool bad'37_]])) _ hw
     exact c_ret (retc (cs := [Vn n1_, Vn n4_, Vj n7_, .string (⟨d11_.toArray⟩ : ByteArray), Vi (toI n23_), Vi (toI n32_), Vn n35_]) rfl rfl (by kernel_rfl) (Own.rowCells (i := 0) rfl) (fun w' hw => ⟨n1_, n4_, n7_, (⟨d11_.toArray⟩ : ByteArray), toI n23_, toI n32_, n35_, a'36_, bad'37_, rfl, hf1_1.bind (hf1_3.bind (RdS.bind hf1_5.int (hf1_7.bind (hf1_10.bind (hf1_13.bind (hf1_16.bind (RdS.pure _ hf1_16.le))))))), hf1_7_1, hw.sel [2] rfl (by decide)⟩))
    ·
     refine pk_of 16 rfl hw (a_call rfl rfl (fun w' hw => (inNum_s o v b a'33_ bad'34_ w' (by first | assumption | omega | (simp <;> omega) | (constructor <;> (first | omega | (simp only [LenOk]; omega) | (simp <;> omega)))) (by first | omega | (simp <;> omega)) (hw.give [2] rfl (by decide)) (hw.rdTo hb [2] rfl)).mono ?_))
     rintro _ w1 ⟨n38_, a'39_, bad'40_, rfl, hf1_16, hf1_16_1, hO⟩
     refine (?_ : CL _ _ _ _ _ _ (Own w S [Res.row b2 47 [Vn 0, Vn 0, Vi 0, .string (⟨#[]⟩ : ByteArray), Vi 0, Vi 0, Vn 0], Res.vec 5 1 r10_ d11_.length (d11_.map vb), Res.row o 185 [v, Vj a'39_, .bool bad'40_]])) w1 (hw.frameL [2] rfl hO)
     refine l_nx 8 rfl (l_b2s (bs := d11_) (by kernel_rfl) (by kernel_rfl) rfl (fun w' hw' => Vec.sl (Own.holds hw' 1 _ rfl)) rfl (l_nilH [] rfl (by decide) (fun w' hw hS => g_tk 17 rfl (v_bld (cs := [Vn n1_, Vn n4_, Vj n7_, .string (⟨d11_.toArray⟩ : ByteArray), Vi (toI n23_), Vi (toI n32_), Vn n38_]) (z := [Vn 0, Vn 0, Vi 0, .string (⟨#[]⟩ : ByteArray), Vi 0, Vi 0, Vn 0]) (pl := [(0, 1), (1, 1), (2, 1), (3, 1), (4, 1), (5, 1), (6, 1)]) (by kernel_rfl) (by kernel_rfl)) hS (g_one 18 rfl hw (a_stN 0 rfl rfl rfl (allc rfl) rfl (l_nilH [] rfl (by decide) (fun w' hw hS => g_done ?_)))))))
     refine (?_ : C _ _ _ _ _ _ _ (Own w S [Res.row b2 47 [Vn n1_, Vn n4_, Vj n7_, .string (⟨d11_.toArray⟩ : ByteArray), Vi (toI n23_), Vi (toI n32_), Vn n38_], Res.vec 5 1 r10_ d11_.length (d11_.map vb), Res.row o 185 [v, Vj a'39_, .bool bad'40_]])) _ hw
     exact c_ret (retc (cs := [Vn n1_, Vn n4_, Vj n7_, .string (⟨d11_.toArray⟩ : ByteArray), Vi (toI n23_), Vi (toI n32_), Vn n38_]) rfl rfl (by kernel_rfl) (Own.rowCells (i := 0) rfl) (fun w' hw => ⟨n1_, n4_, n7_, (⟨d11_.toArray⟩ : ByteArray), toI n23_, toI n32_, n38_, a'39_, bad'40_, rfl, hf1_1.bind (hf1_3.bind (RdS.bind hf1_5.int (hf1_7.bind (hf1_10.bind (hf1_13.bind (hf1_16.bind (RdS.pure _ hf1_16.le))))))), hf1_7_1, hw.sel [2] rfl (by decide)⟩))
theorem cmdValue_s (v : Value) (b : List UInt8) (w : World) (hl : b.length ≤ 1048576) (hb : Rd w [] (Res.sl v b.length (b.map vb))) : Rets Tryz.prog 95 #[.agg #[.func (.func 99) #[] #[], .func (.func 100) #[] #[], .func (.func 103) #[] #[]], v] w fun u_ w' => ∃ (s : Nat) (q : Nat) (op : Int) (k : ByteArray) (am : Int) (sp : Int) (le : Nat) (e : Int), u_ = .tuple #[.agg #[Vn s, Vn q, Vi op, .string k, Vi am, Vi sp, Vn le], Vi e] ∧ ValPost (decCmd b) (⟨s, q, op, k, am, sp, le⟩ : CmdD) cmdZ e ∧ Own w [] [] w' := by
  refine fn_own Tryz.func95 rfl Tryz.ntmps95 (Own.start w) ?_
  refine c_reg (l_box rfl rfl (fun b2 => l_new (v := .agg #[Vn 0, Vn 0, Vi 0, .string (⟨#[]⟩ : ByteArray), Vi 0, Vi 0, Vn 0]) (by kernel_rfl) rfl (fun b4 => l_as rfl (l_end (c_reg (l_mv rfl (l_bldc (cs := [v, Vi 0, .bool false]) (z := [.slice none 0 0, Vi 0, .bool false]) (pl := [(0, 1), (1, 1), (2, 1)]) (by kernel_rfl) ⟨(Sl.cell1 (Rd.φ hb)), trivial⟩ (by kernel_rfl) rfl (l_box rfl rfl (fun b10 => l_as rfl (l_end (c_reg (a_fld (o := 2) rfl rfl ?_))))))))))))
  refine a_ldo 0 (v := .func (.func 103) #[] #[]) rfl rfl rfl rfl (l_mv rfl (l_callv (fst := []) (cap := []) rfl (by kernel_rfl) rfl rfl (fun w' hw => (cmdRead_s b10 v b 0 false w' (by first | assumption | omega | (simp <;> omega) | (constructor <;> (first | omega | (simp only [LenOk]; omega) | (simp <;> omega)))) (by first | omega | (simp <;> omega)) (hw.give [2] rfl (by decide)) (hw.rdTo hb [2] rfl)).mono ?_)))
  rintro _ w1 ⟨s1_, q2_, op3_, k4_, am5_, sp6_, le7_, a'8_, bad'9_, rfl, hf2_3, hf2_3_1, hO⟩
  refine (?_ : CL _ _ _ _ _ _ (Own w [] [Res.row b2 121 [.func (.func 99) #[] #[], .func (.func 100) #[] #[], .func (.func 103) #[] #[]], Res.row b4 47 [Vn 0, Vn 0, Vi 0, .string (⟨#[]⟩ : ByteArray), Vi 0, Vi 0, Vn 0], Res.row b10 185 [v, Vj a'8_, .bool bad'9_]])) w1 (hw.frameL [2] rfl hO)
  refine a_stN 1 rfl rfl rfl (allc rfl) rfl (l_end (c_seq (c_reg (l_mv rfl (l_nck rfl rfl (a_fld (o := 2) rfl rfl (a_ldo 2 (v := .bool bad'9_) rfl rfl rfl rfl (l_mv rfl (l_bor (q := bad'9_ = true) 7 4 [26, 25, 24, 23, 22, 21, 20] (((a'8_ : Nat) : Int) ≠ ((b.length : Nat) : Int)) rfl rfl (bool_dec _) rfl rfl rfl trivial rfl (fun h3_4 => ?_) (fun g3_12 => ?_))))))))))
  ·
   refine l_on rfl (bF h3_4) (l_mv rfl (l_on rfl (bF h3_4) (l_nck rfl rfl (l_on rfl (bF h3_4) (a_fld (o := 1) rfl rfl (l_on rfl (bF h3_4) (a_ldo 2 (v := Vj a'8_) rfl rfl rfl rfl (l_on rfl (bF h3_4) (l_mv rfl (l_on rfl (bF h3_4) (a_lenP (pR hb) rfl rfl (l_on rfl (bF h3_4) ?_))))))))))))
   refine l_ne rfl rfl rfl ?_
   exact l_gp rfl (fun _ hw => hw)
  refine l_mv rfl (l_bor (q := (bad'9_ = true) ∨ (((a'8_ : Nat) : Int) ≠ ((b.length : Nat) : Int))) 5 13 [33, 32, 31, 30, 29] (¬ (({ session := s1_, seq := q2_, op := ((op3_ : Nat) : Int), key := k4_, amount := am5_, span := sp6_, lease := le7_ } : CmdD).ok)) rfl rfl rfl rfl rfl rfl trivial rfl (fun h3_13 => ?_) (fun g3_19 => ?_))
  ·
   refine l_on rfl (gF h3_13) (a_fld (o := 0) rfl rfl (l_on rfl (gF h3_13) (a_ldo 0 (v := .func (.func 99) #[] #[]) rfl rfl rfl rfl (l_on rfl (gF h3_13) (a_ldr 1 rfl rfl rfl (l_on rfl (gF h3_13) (l_callv (fst := []) (cap := []) rfl (by kernel_rfl) rfl rfl (fun w' hw => (cmdSound_s ({ session := s1_, seq := q2_, op := ((op3_ : Nat) : Int), key := k4_, amount := am5_, span := sp6_, lease := le7_ } : CmdD) w' (by have := hf2_3_1; dsimp only; omega)).mono ?_))))))))
   rintro _ w1 ⟨rfl, hO⟩
   refine (?_ : CL _ _ _ _ _ _ (Own w [] [Res.row b2 121 [.func (.func 99) #[] #[], .func (.func 100) #[] #[], .func (.func 103) #[] #[]], Res.row b4 47 [Vn s1_, Vn q2_, Vj op3_, .string k4_, Vi am5_, Vi sp6_, Vn le7_], Res.row b10 185 [v, Vj a'8_, .bool bad'9_]])) w1 (hw.frame0 hO)
   refine l_on rfl (gF h3_13) (l_notp (q := ({ session := s1_, seq := q2_, op := ((op3_ : Nat) : Int), key := k4_, amount := am5_, span := sp6_, lease := le7_ } : CmdD).ok) rfl rfl ?_)
   exact l_gp rfl (fun _ hw => hw)
  refine l_end (c_dec rfl (fun c1 => ?_) (fun c1 => ?_))
  ·
   refine c_reg (l_new (v := .agg #[Vn 0, Vn 0, Vi 0, .string (⟨#[]⟩ : ByteArray), Vi 0, Vi 0, Vn 0]) (by kernel_rfl) rfl (fun b7 => l_end (c_reg (a_ldr 3 rfl rfl rfl (a_stN 1 rfl rfl rfl (allc rfl) rfl (l_as rfl (l_end ?_)))))))
   exact c_ret (retc2 (cs := [Vn 0, Vn 0, Vi 0, .string (⟨#[]⟩ : ByteArray), Vi 0, Vi 0, Vn 0]) (v := Vi 4) rfl rfl rfl (by kernel_rfl) (Own.rowCells (i := 1) rfl) (fun w' hw => ⟨0, 0, 0, ⟨#[]⟩, 0, 0, 0, 4, rfl, .inr ⟨rfl, whole_no hf2_3 (fun h1 h2 h3 => c1.elim (fun h => h.elim (fun h => (by rw [h1] at h; cases h)) (fun h => h (by omega))) (fun h => h h3)), rfl⟩, hw.drop⟩))
  ·
   refine c_skipC (c_reg (a_ldr 1 rfl rfl rfl (a_stN 1 rfl rfl rfl (allc rfl) rfl (l_as rfl (l_end ?_)))))
   exact c_ret (retc2 (cs := [Vn s1_, Vn q2_, Vj op3_, .string k4_, Vi am5_, Vi sp6_, Vn le7_]) (v := Vi 0) rfl rfl rfl (by kernel_rfl) (Own.rowCells (i := 1) rfl) (fun w' hw => ⟨s1_, q2_, ((op3_ : Nat) : Int), k4_, am5_, sp6_, le7_, 0, rfl, .inl ⟨rfl, whole_yes hf2_3 (by cases h : bad'9_; rfl; exact absurd (.inl (.inl h)) c1) (by have : ¬ (a'8_ : Int) ≠ b.length := fun h => c1 (.inl (.inr h)); omega) (Decidable.not_not.1 fun h => c1 (.inr h))⟩, hw.drop⟩))
theorem toCmd_s (v : Value) (b : List UInt8) (w : World) (hl : b.length ≤ 1048576) (hb : Rd w [] (Res.sl v b.length (b.map vb))) : Rets Tryz.prog 56 #[v] w fun u_ w' => ∃ (s : Nat) (q : Nat) (op : Int) (k : ByteArray) (am : Int) (sp : Int) (le : Nat) (e : Int), u_ = .tuple #[.agg #[Vn s, Vn q, Vi op, .string k, Vi am, Vi sp, Vn le], Vi e] ∧ ValPost (decCmd b) (⟨s, q, op, k, am, sp, le⟩ : CmdD) cmdZ e ∧ Own w [] [] w' := by
  refine fn_own Tryz.func56 rfl Tryz.ntmps56 (Own.start w) ?_
  refine c_reg (l_new (v := .agg #[Vn 0, Vn 0, Vi 0, .string (⟨#[]⟩ : ByteArray), Vi 0, Vi 0, Vn 0]) (by kernel_rfl) rfl (fun b2 => l_as rfl (l_end (c_reg (a_call rfl rfl (fun w' hw => (commands_s w').mono ?_))))))
  rintro _ w1 ⟨rfl, hO⟩
  refine (?_ : CL _ _ _ _ _ _ (Own w [] [Res.row b2 47 [Vn 0, Vn 0, Vi 0, .string (⟨#[]⟩ : ByteArray), Vi 0, Vi 0, Vn 0]])) w1 (hw.frame0 hO)
  refine l_mv rfl (a_call rfl rfl (fun w' hw => (cmdValue_s v b w' (by first | omega | (simp <;> omega)) (hw.rd0 hb)).mono ?_))
  rintro _ w1 ⟨s1_, q2_, op3_, k4_, am5_, sp6_, le7_, e8_, rfl, hf1_2, hO⟩
  refine (?_ : CL _ _ _ _ _ _ (Own w [] [Res.row b2 47 [Vn 0, Vn 0, Vi 0, .string (⟨#[]⟩ : ByteArray), Vi 0, Vi 0, Vn 0]])) w1 (hw.frame0 hO)
  refine l_ext (vs := [.agg #[Vn s1_, Vn q2_, Vi op3_, .string k4_, Vi am5_, Vi sp6_, Vn le7_], Vi e8_]) rfl rfl rfl (l_ext (vs := [.agg #[Vn s1_, Vn q2_, Vi op3_, .string k4_, Vi am5_, Vi sp6_, Vn le7_], Vi e8_]) rfl rfl rfl (a_stN 0 rfl rfl rfl (allc rfl) rfl (l_as rfl (l_end ?_))))
  exact c_ret (retc2 (cs := [Vn s1_, Vn q2_, Vi op3_, .string k4_, Vi am5_, Vi sp6_, Vn le7_]) (v := Vi e8_) rfl rfl rfl (by kernel_rfl) (Own.rowCells (i := 0) rfl) (fun w' hw => ⟨s1_, q2_, op3_, k4_, am5_, sp6_, le7_, e8_, rfl, hf1_2, hw.drop⟩))
theorem rcmdRead_s {S : List Nat} (o : Nat) (v : Value) (b : List UInt8) (a : Nat) (bad : Bool) (w : World) (hl : LenOk b.length) (ha : a ≤ b.length) (hin : Own w S [Res.row o 171 [v, Vj a, .bool bad]] w) (hb : Rd w S (Res.sl v b.length (b.map vb))) : Rets Tryz.prog 97 #[.pointer (some ⟨o, 0, none⟩)] w fun u_ w' => ∃ (s : Nat) (q : Nat) (op : Nat) (k : ByteArray) (am : Int) (sp : Int) (le : Nat) (a' : Nat) (bad' : Bool), u_ = .agg #[Vn s, Vn q, Vj op, .string k, Vi am, Vi sp, Vn le] ∧ RdS pCmd b a bad (⟨s, q, (op : Int), k, am, sp, le⟩ : CmdD) a' bad' ∧ k.size ≤ b.length ∧ Own w S [Res.row o 171 [v, Vj a', .bool bad']] w' := by
  refine fn_own Tryz.func97 rfl Tryz.ntmps97 hin ?_
  refine c_reg (l_new (v := .agg #[Vn 0, Vn 0, Vi 0, .string (⟨#[]⟩ : ByteArray), Vi 0, Vi 0, Vn 0]) (by kernel_rfl) rfl (fun b2 => l_end (c_reg (l_bld (cs := [Vn 0, Vn 0, Vi 0, .string (⟨#[]⟩ : ByteArray), Vi 0, Vi 0, Vn 0]) (z := [Vn 0, Vn 0, Vi 0, .string (⟨#[]⟩ : ByteArray), Vi 0, Vi 0, Vn 0]) (pl := [(0, 1), (1, 1), (2, 1), (3, 1), (4, 1), (5, 1), (6, 1)]) (by kernel_rfl) (by kernel_rfl) rfl (l_new (v := .agg #[Vn 0, Vn 0, Vi 0, .string (⟨#[]⟩ : ByteArray), Vi 0, Vi 0, Vn 0]) (by kernel_rfl) rfl (fun b3 => a_stN 2 rfl rfl rfl (allc rfl) rfl (l_end (c_reg (l_mv rfl (a_call rfl rfl (fun w' hw => (rinNum_s o v b a bad w' (by first | assumption | omega | (simp <;> omega) | (constructor <;> (first | omega | (simp only [LenOk]; omega) | (simp <;> omega)))) (by first | omega | (simp <;> omega)) (hw.give [0] rfl (by decide)) (hw.rdTo hb [0] rfl)).mono ?_)))))))))))
  rintro _ w1 ⟨n1_, a'2_, bad'3_, rfl, hf2_1, hf2_1_1, hO⟩
  have hq1 := hf2_1.le
  refine (?_ : CL _ _ _ _ _ _ (Own w S [Res.row b2 47 [Vn 0, Vn 0, Vi 0, .string (⟨#[]⟩ : ByteArray), Vi 0, Vi 0, Vn 0], Res.row b3 47 [Vn 0, Vn 0, Vi 0, .string (⟨#[]⟩ : ByteArray), Vi 0, Vi 0, Vn 0], Res.row o 171 [v, Vj a'2_, .bool bad'3_]])) w1 (hw.frameL [0] rfl hO)
  refine a_fld (o := 0) rfl rfl (a_st 1 rfl rfl rfl rfl rfl (l_end (c_reg (l_mv rfl (a_call rfl rfl (fun w' hw => (rinNum_s o v b a'2_ bad'3_ w' (by first | assumption | omega | (simp <;> omega) | (constructor <;> (first | omega | (simp only [LenOk]; omega) | (simp <;> omega)))) (by first | omega | (simp <;> omega)) (hw.give [2] rfl (by decide)) (hw.rdTo hb [2] rfl)).mono ?_))))))
  rintro _ w1 ⟨n4_, a'5_, bad'6_, rfl, hf3_1, hf3_1_1, hO⟩
  have hq2 := hf3_1.le
  refine (?_ : CL _ _ _ _ _ _ (Own w S [Res.row b2 47 [Vn 0, Vn 0, Vi 0, .string (⟨#[]⟩ : ByteArray), Vi 0, Vi 0, Vn 0], Res.row b3 47 [Vn n1_, Vn 0, Vi 0, .string (⟨#[]⟩ : ByteArray), Vi 0, Vi 0, Vn 0], Res.row o 171 [v, Vj a'5_, .bool bad'6_]])) w1 (hw.frameL [2] rfl hO)
  refine a_fld (o := 1) rfl rfl (a_st 1 rfl rfl rfl rfl rfl (l_end (c_reg (l_mv rfl (a_call rfl rfl (fun w' hw => (rinInt_s o v b a'5_ bad'6_ 5 w' (by first | assumption | omega | (simp <;> omega) | (constructor <;> (first | omega | (simp only [LenOk]; omega) | (simp <;> omega)))) (by first | omega | (simp <;> omega)) (by first | omega | (simp <;> omega)) (hw.give [2] rfl (by decide)) (hw.rdTo hb [2] rfl)).mono ?_))))))
  rintro _ w1 ⟨n7_, a'8_, bad'9_, rfl, hf4_1, hf4_1_1, hO⟩
  have hq3 := hf4_1.le
  refine (?_ : CL _ _ _ _ _ _ (Own w S [Res.row b2 47 [Vn 0, Vn 0, Vi 0, .string (⟨#[]⟩ : ByteArray), Vi 0, Vi 0, Vn 0], Res.row b3 47 [Vn n1_, Vn n4_, Vi 0, .string (⟨#[]⟩ : ByteArray), Vi 0, Vi 0, Vn 0], Res.row o 171 [v, Vj a'8_, .bool bad'9_]])) w1 (hw.frameL [2] rfl hO)
  refine a_fld (o := 2) rfl rfl (a_st 1 rfl rfl rfl rfl rfl (l_end (c_reg (l_mv rfl (a_call rfl rfl (fun w' hw => (rinData_s o v b a'8_ bad'9_ w' (by first | assumption | omega | (simp <;> omega) | (constructor <;> (first | omega | (simp only [LenOk]; omega) | (simp <;> omega)))) (by first | omega | (simp <;> omega)) (hw.give [2] rfl (by decide)) (hw.rdTo hb [2] rfl)).mono ?_))))))
  rintro r10_ w1 ⟨_, d11_, a'12_, bad'13_, rfl, hf5_1, hf5_1_1, hO⟩
  have hq4 := hf5_1.le
  refine (?_ : CL _ _ _ _ _ _ (Own w S [Res.row b2 47 [Vn 0, Vn 0, Vi 0, .string (⟨#[]⟩ : ByteArray), Vi 0, Vi 0, Vn 0], Res.row b3 47 [Vn n1_, Vn n4_, Vj n7_, .string (⟨#[]⟩ : ByteArray), Vi 0, Vi 0, Vn 0], Res.row o 171 [v, Vj a'12_, .bool bad'13_], Res.vec 5 1 r10_ d11_.length (d11_.map vb)])) w1 (hw.frameL [2] rfl hO)
  refine l_b2s (bs := d11_) (by kernel_rfl) (by kernel_rfl) rfl (fun w' hw' => Vec.sl (Own.holds hw' 3 _ rfl)) rfl (a_fld (o := 3) rfl rfl (a_st 1 rfl rfl rfl rfl rfl (l_end (c_reg (l_mv rfl (a_call rfl rfl (fun w' hw => (rinNum_s o v b a'12_ bad'13_ w' (by first | assumption | omega | (simp <;> omega) | (constructor <;> (first | omega | (simp only [LenOk]; omega) | (simp <;> omega)))) (by first | omega | (simp <;> omega)) (hw.give [2] rfl (by decide)) (hw.rdTo hb [2] rfl)).mono ?_)))))))
  rintro _ w1 ⟨n14_, a'15_, bad'16_, rfl, hf6_1, hf6_1_1, hO⟩
  have hq5 := hf6_1.le
  refine (?_ : CL _ _ _ _ _ _ (Own w S [Res.row b2 47 [Vn 0, Vn 0, Vi 0, .string (⟨#[]⟩ : ByteArray), Vi 0, Vi 0, Vn 0], Res.row b3 47 [Vn n1_, Vn n4_, Vj n7_, .string (⟨d11_.toArray⟩ : ByteArray), Vi 0, Vi 0, Vn 0], Res.vec 5 1 r10_ d11_.length (d11_.map vb), Res.row o 171 [v, Vj a'15_, .bool bad'16_]])) w1 (hw.frameL [2] rfl hO)
  refine l_cvt (c := toI n14_) (by kernel_rfl) rfl (wrap_toI hf6_1_1) rfl ?_ (by kernel_rfl)
  refine a_fld (o := 4) rfl rfl (a_st 1 rfl rfl rfl rfl rfl (l_end (c_reg (l_mv rfl (a_call rfl rfl (fun w' hw => (rinNum_s o v b a'15_ bad'16_ w' (by first | assumption | omega | (simp <;> omega) | (constructor <;> (first | omega | (simp only [LenOk]; omega) | (simp <;> omega)))) (by first | omega | (simp <;> omega)) (hw.give [3] rfl (by decide)) (hw.rdTo hb [3] rfl)).mono ?_))))))
  rintro _ w1 ⟨n17_, a'18_, bad'19_, rfl, hf7_1, hf7_1_1, hO⟩
  have hq6 := hf7_1.le
  refine (?_ : CL _ _ _ _ _ _ (Own w S [Res.row b2 47 [Vn 0, Vn 0, Vi 0, .string (⟨#[]⟩ : ByteArray), Vi 0, Vi 0, Vn 0], Res.row b3 47 [Vn n1_, Vn n4_, Vj n7_, .string (⟨d11_.toArray⟩ : ByteArray), Vi (toI n14_), Vi 0, Vn 0], Res.vec 5 1 r10_ d11_.length (d11_.map vb), Res.row o 171 [v, Vj a'18_, .bool bad'19_]])) w1 (hw.frameL [3] rfl hO)
  refine l_cvt (c := toI n17_) (by kernel_rfl) rfl (wrap_toI hf7_1_1) rfl ?_ (by kernel_rfl)
  refine a_fld (o := 5) rfl rfl (a_st 1 rfl rfl rfl rfl rfl (l_end (c_reg (l_mv rfl (a_call rfl rfl (fun w' hw => (rinNum_s o v b a'18_ bad'19_ w' (by first | assumption | omega | (simp <;> omega) | (constructor <;> (first | omega | (simp only [LenOk]; omega) | (simp <;> omega)))) (by first | omega | (simp <;> omega)) (hw.give [3] rfl (by decide)) (hw.rdTo hb [3] rfl)).mono ?_))))))
  rintro _ w1 ⟨n20_, a'21_, bad'22_, rfl, hf8_1, hf8_1_1, hO⟩
  refine (?_ : CL _ _ _ _ _ _ (Own w S [Res.row b2 47 [Vn 0, Vn 0, Vi 0, .string (⟨#[]⟩ : ByteArray), Vi 0, Vi 0, Vn 0], Res.row b3 47 [Vn n1_, Vn n4_, Vj n7_, .string (⟨d11_.toArray⟩ : ByteArray), Vi (toI n14_), Vi (toI n17_), Vn 0], Res.vec 5 1 r10_ d11_.length (d11_.map vb), Res.row o 171 [v, Vj a'21_, .bool bad'22_]])) w1 (hw.frameL [3] rfl hO)
  refine a_fld (o := 6) rfl rfl (a_st 1 rfl rfl rfl rfl rfl (l_end (c_reg (a_ldr 1 rfl rfl rfl (a_stN 0 rfl rfl rfl (allc rfl) rfl (l_end ?_))))))
  exact c_ret (retc (cs := [Vn n1_, Vn n4_, Vj n7_, .string (⟨d11_.toArray⟩ : ByteArray), Vi (toI n14_), Vi (toI n17_), Vn n20_]) rfl rfl (by kernel_rfl) (Own.rowCells (i := 0) rfl) (fun w' hw => ⟨n1_, n4_, n7_, (⟨d11_.toArray⟩ : ByteArray), toI n14_, toI n17_, n20_, a'21_, bad'22_, rfl, hf2_1.bind (hf3_1.bind (RdS.bind hf4_1.int (hf5_1.bind (hf6_1.bind (hf7_1.bind (hf8_1.bind (RdS.pure _ hf8_1.le))))))), hf5_1_1, hw.sel [3] rfl (by decide)⟩))
theorem rcmdOK_s (x : CmdD) (w : World) (hx : x.key.size ≤ 1048576) : Rets Tryz.prog 29 #[.agg (CmdD.cells x).toArray] w fun u_ w' => u_ = .bool (decide x.ok) ∧ Own w [] [] w' := by
  refine fn_own Tryz.func29 rfl Tryz.ntmps29 (Own.start w) ?_
  refine c_reg (l_box rfl rfl (fun b1 => l_as rfl (l_end (c_reg (a_fld (o := 2) rfl rfl (a_ldo 0 (v := Vi x.op) rfl rfl rfl rfl (l_geq rfl rfl rfl (l_mv rfl (l_band (q := 1 ≤ x.op) 3 3 [9, 8, 7] (x.op ≤ 5) rfl rfl rfl rfl rfl rfl trivial rfl (fun h1_3 => ?_) (fun g1_7 => ?_))))))))))
  ·
   refine l_on rfl (gT h1_3) (a_fld (o := 2) rfl rfl (l_on rfl (gT h1_3) (a_ldo 0 (v := Vi x.op) rfl rfl rfl rfl (l_on rfl (gT h1_3) (l_leq rfl rfl rfl ?_)))))
   exact l_gp rfl (fun _ hw => hw)
  refine l_mv rfl (l_band (q := (1 ≤ x.op) ∧ (x.op ≤ 5)) 4 8 [15, 14, 13, 12] (((x.key.size : Nat) : Int) ≤ 64) rfl rfl rfl rfl rfl rfl trivial rfl (fun h1_8 => ?_) (fun g1_13 => ?_))
  ·
   refine l_on rfl (gT h1_8) (a_fld (o := 3) rfl rfl (l_on rfl (gT h1_8) (a_ldo 0 (v := .string x.key) rfl rfl rfl rfl (l_on rfl (gT h1_8) (l_lens (by kernel_rfl) rfl rfl (l_on rfl (gT h1_8) (l_leq rfl rfl rfl ?_)))))))
   exact l_gp rfl (fun _ hw => hw)
  refine l_as rfl (l_end ?_)
  exact c_ret (ret1 (v := .bool (decide (((1 ≤ x.op) ∧ (x.op ≤ 5)) ∧ (((x.key.size : Nat) : Int) ≤ 64)))) rfl rfl (fun w' hw => ⟨(by congr 1; exact decide_eq_decide.2 (by unfold CmdD.ok; omega)), hw.drop⟩))
theorem rtoCmd_s (v : Value) (b : List UInt8) (w : World) (hl : b.length ≤ 1048576) (hb : Rd w [] (Res.sl v b.length (b.map vb))) : Rets Tryz.prog 59 #[v] w fun u_ w' => ∃ (s : Nat) (q : Nat) (op : Int) (k : ByteArray) (am : Int) (sp : Int) (le : Nat) (f : Bool), u_ = .tuple #[.agg #[Vn s, Vn q, Vi op, .string k, Vi am, Vi sp, Vn le], .bool f] ∧ RefPost (decCmd b) (⟨s, q, op, k, am, sp, le⟩ : CmdD) f ∧ Own w [] [] w' := by
  refine fn_own Tryz.func59 rfl Tryz.ntmps59 (Own.start w) ?_
  refine c_reg (l_new (v := .agg #[Vn 0, Vn 0, Vi 0, .string (⟨#[]⟩ : ByteArray), Vi 0, Vi 0, Vn 0]) (by kernel_rfl) rfl (fun b2 => l_as rfl (l_end (c_reg (l_mv rfl (l_bldc (cs := [v, Vi 0, .bool false]) (z := [.slice none 0 0, Vi 0, .bool false]) (pl := [(0, 1), (1, 1), (2, 1)]) (by kernel_rfl) ⟨(Sl.cell1 (Rd.φ hb)), trivial⟩ (by kernel_rfl) rfl (l_box rfl rfl (fun b8 => l_as rfl (l_end (c_reg (l_mv rfl (a_call rfl rfl (fun w' hw => ?_)))))))))))))
  refine (rcmdRead_s b8 v b 0 false w' (by first | assumption | omega | (simp <;> omega) | (constructor <;> (first | omega | (simp only [LenOk]; omega) | (simp <;> omega)))) (by first | omega | (simp <;> omega)) (hw.give [1] rfl (by decide)) (hw.rdTo hb [1] rfl)).mono ?_
  rintro _ w1 ⟨s1_, q2_, op3_, k4_, am5_, sp6_, le7_, a'8_, bad'9_, rfl, hf2_1, hf2_1_1, hO⟩
  refine (?_ : CL _ _ _ _ _ _ (Own w [] [Res.row b2 47 [Vn 0, Vn 0, Vi 0, .string (⟨#[]⟩ : ByteArray), Vi 0, Vi 0, Vn 0], Res.row b8 171 [v, Vj a'8_, .bool bad'9_]])) w1 (hw.frameL [1] rfl hO)
  refine l_new (v := .agg #[Vn 0, Vn 0, Vi 0, .string (⟨#[]⟩ : ByteArray), Vi 0, Vi 0, Vn 0]) (by kernel_rfl) rfl (fun b5 => a_stN 2 rfl rfl rfl (allc rfl) rfl (l_end (c_seq (c_heldo [2] rfl (by decide) (by kernel_rfl) (fun w' hw hS => g_tk 0 rfl (w_ldr 0 rfl rfl) hS (g_tk 1 rfl (v_mv) hS (g_one 2 rfl hw (a_call rfl rfl (fun w' hw => (whole_s b8 v b a'8_ bad'9_ w' (by first | assumption | omega | (simp <;> omega) | (constructor <;> (first | omega | (simp only [LenOk]; omega) | (simp <;> omega)))) (hw.give [1] rfl (by decide)) (hw.rdTo hb [1] rfl)).mono ?_)))))))))
  rintro _ w1 ⟨rfl, hO⟩
  refine (?_ : CL _ _ _ _ _ _ (Own w [] [Res.row b2 47 [Vn 0, Vn 0, Vi 0, .string (⟨#[]⟩ : ByteArray), Vi 0, Vi 0, Vn 0], Res.row b5 47 [Vn s1_, Vn q2_, Vj op3_, .string k4_, Vi am5_, Vi sp6_, Vn le7_], Res.row b8 171 [v, Vj a'8_, .bool bad'9_]])) w1 (hw.frameL [1] rfl hO)
  refine l_nilH [1] rfl (by decide) (fun w' hw hS => g_tk 3 rfl (v_mv) hS ?_)
  by_cases g3_3 : bad'9_ = false ∧ a'8_ = b.length
  ·
   refine g_tkg 4 rfl rfl (gT g3_3) (w_ldr 0 rfl rfl) hS (g_one 5 rfl hw (l_on rfl (gT g3_3) (a_call rfl rfl (fun w' hw => (rcmdOK_s ({ session := s1_, seq := q2_, op := ((op3_ : Nat) : Int), key := k4_, amount := am5_, span := sp6_, lease := le7_ } : CmdD) w' (by have := hf2_1_1; dsimp only; omega)).mono ?_))))
   rintro _ w1 ⟨rfl, hO⟩
   refine (?_ : CL _ _ _ _ _ _ (Own w [] [Res.row b2 47 [Vn 0, Vn 0, Vi 0, .string (⟨#[]⟩ : ByteArray), Vi 0, Vi 0, Vn 0], Res.row b5 47 [Vn s1_, Vn q2_, Vj op3_, .string k4_, Vi am5_, Vi sp6_, Vn le7_], Res.row b8 171 [v, Vj a'8_, .bool bad'9_]])) w1 (hw.frame0 hO)
   refine l_nilH [1] rfl (by decide) (fun w' hw hS => g_tk 6 rfl (v_pickT (gT g3_3)) hS (g_one 7 rfl hw (a_stN 0 rfl rfl rfl (allc rfl) rfl (l_nilH [1] rfl (by decide) (fun w' hw hS => g_tk 8 rfl (v_as) hS (g_done ?_))))))
   refine (?_ : C _ _ _ _ _ _ _ (Own w [] [Res.row b2 47 [Vn s1_, Vn q2_, Vj op3_, .string k4_, Vi am5_, Vi sp6_, Vn le7_], Res.row b5 47 [Vn s1_, Vn q2_, Vj op3_, .string k4_, Vi am5_, Vi sp6_, Vn le7_], Res.row b8 171 [v, Vj a'8_, .bool bad'9_]])) _ hw
   exact c_ret (retc2 (cs := [Vn s1_, Vn q2_, Vj op3_, .string k4_, Vi am5_, Vi sp6_, Vn le7_]) (v := .bool (decide (({ session := s1_, seq := q2_, op := ((op3_ : Nat) : Int), key := k4_, amount := am5_, span := sp6_, lease := le7_ } : CmdD).ok))) rfl rfl rfl (by kernel_rfl) (Own.rowCells (i := 0) rfl) (fun w' hw => ⟨s1_, q2_, ((op3_ : Nat) : Int), k4_, am5_, sp6_, le7_, (decide (({ session := s1_, seq := q2_, op := ((op3_ : Nat) : Int), key := k4_, amount := am5_, span := sp6_, lease := le7_ } : CmdD).ok)), rfl, RefPost.on hf2_1 g3_3 decide_eq_true_iff, hw.drop⟩))
  ·
   refine g_ofg 4 rfl rfl (gF g3_3) rfl hS (g_ofg 5 rfl rfl (gF g3_3) rfl hS (g_tk 6 rfl (v_pickF (gF g3_3)) hS (g_one 7 rfl hw (a_stN 0 rfl rfl rfl (allc rfl) rfl (l_nilH [1] rfl (by decide) (fun w' hw hS => g_tk 8 rfl (v_as) hS (g_done ?_)))))))
   refine (?_ : C _ _ _ _ _ _ _ (Own w [] [Res.row b2 47 [Vn s1_, Vn q2_, Vj op3_, .string k4_, Vi am5_, Vi sp6_, Vn le7_], Res.row b5 47 [Vn s1_, Vn q2_, Vj op3_, .string k4_, Vi am5_, Vi sp6_, Vn le7_], Res.row b8 171 [v, Vj a'8_, .bool bad'9_]])) _ hw
   exact c_ret (retc2 (cs := [Vn s1_, Vn q2_, Vj op3_, .string k4_, Vi am5_, Vi sp6_, Vn le7_]) (v := .bool false) rfl rfl rfl (by kernel_rfl) (Own.rowCells (i := 0) rfl) (fun w' hw => ⟨s1_, q2_, ((op3_ : Nat) : Int), k4_, am5_, sp6_, le7_, false, rfl, RefPost.off hf2_1 g3_3, hw.drop⟩))
end Go.Proofs.YthincafbmpialaaGreat
