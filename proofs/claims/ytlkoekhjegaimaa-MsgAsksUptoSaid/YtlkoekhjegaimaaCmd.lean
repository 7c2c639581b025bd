/-
  THE WALKS OF commands: sound, written, their bytes; and the reference's.
-/
import Derived.Test.YtlkoekhjegaimaaRef1
import Derived.Test.YtlkoekhjegaimaaReply
set_option linter.unusedVariables false
set_option maxRecDepth 10000
namespace Go.Proofs.Ytlkoekhjegaimaa
open Go Go.Sc Go.Proofs

/-- What a writer of the program's does. -/
def PPut (g : FuncId) (args : List Value) (enc : List UInt8) : Prop :=
  ∀ (o : Nat) (sl : Value) (bs : List UInt8) (w : World), (Res.buf o TOut sl bs).φ w → bs.length + enc.length ≤ 10000000000 →
    Rets Try.prog g (.pointer (some ⟨o, 0, none⟩) :: args).toArray w fun u w' => u = .tuple #[] ∧ ∃ sl', Own w (o :: blkS sl) [Res.buf o TOut sl' (bs ++ enc)] w'

structure CmdD where
  session : Nat
  seq : Nat
  op : Int
  key : ByteArray
  amount : Int
  span : Int
  lease : Nat
structure CmdD.wf (x : CmdD) : Prop where
  session : isU x.session
  seq : isU x.seq
  op : isI x.op
  key : x.key.size ≤ 1048576
  amount : isI x.amount
  span : isI x.span
  lease : isU x.lease
def CmdD.cells (x : CmdD) : List Value := [vu x.session, vu x.seq, .int .i64 x.op, .string x.key, .int .i64 x.amount, .int .i64 x.span, vu x.lease]
def CmdD.ok (x : CmdD) : Prop := (1 ≤ x.op ∧ x.op ≤ 5) ∧ x.key.size ≤ 64
instance (x : CmdD) : Decidable x.ok := inferInstanceAs (Decidable ((_ ∧ _) ∧ _))
def strB (s : ByteArray) : List UInt8 := s.data.toList
theorem strB_length (s : ByteArray) : (strB s).length = s.size := by unfold strB; rw [Array.length_toList]; rfl
theorem bsl_str {w : World} {v : Value} {s : ByteArray} (h : (Res.sl v s.size (s.data.toList.map vb)).φ w) : BSl w v (strB s) := by
  show Sl w v (strB s).length ((strB s).map vb)
  rw [strB_length]
  exact h
def CmdD.enc (x : CmdD) : List UInt8 := numsB [x.session, x.seq, u64 x.op] ++ dat (strB x.key) ++ numsB [u64 x.amount, u64 x.span, x.lease]
theorem CmdD.enc_le {x : CmdD} (h : x.wf) : x.enc.length ≤ x.key.size + 72 := by
  have h1 := numsB_length (ns := [x.session, x.seq, u64 x.op]) (by have := h.session; have := h.seq; simp only [isU] at *; simp [u64_lt, *])
  have h2 := numsB_length (ns := [u64 x.amount, u64 x.span, x.lease]) (by have := h.lease; simp only [isU] at *; simp [u64_lt, *])
  have h3 := dat_length (strB x.key) (by rw [strB_length]; have := h.key; omega)
  rw [strB_length] at h3
  simp only [CmdD.enc, List.length_append, List.length_cons, List.length_nil] at *
  omega

theorem cmdSound_spec (x : CmdD) (w : World) : Rets Try.prog 97 #[.agg x.cells.toArray] w fun v w' => v = .bool (decide x.ok) ∧ Own w [] [] w' := by
  refine fn_enter (args := [.agg x.cells.toArray]) Try.func97 rfl Try.ntmps97 rfl (Own.start w) ?_
  refine c_reg ?_
  refine l_box rfl rfl (fun b1 => ?_)
  refine l_as rfl ?_
  refine l_end ?_
  refine c_reg ?_
  refine l_fld (o := 2) rfl (by kernel_rfl) rfl ?_
  refine l_ldo 0 rfl rfl rfl (by kernel_rfl) rfl ?_
  refine l_geq rfl rfl rfl ?_
  refine l_mv rfl ?_
  refine l_band 3 3 [9, 8, 7] ((x.op ≤ 5)) rfl rfl rfl rfl rfl rfl trivial rfl (fun h1_3 => ?_) (fun g1_7 => ?_)
  ·
    refine l_on rfl (gT h1_3) ?_
    refine l_fld (o := 2) rfl (by kernel_rfl) rfl ?_
    refine l_on rfl (gT h1_3) ?_
    refine l_ldo 0 rfl rfl rfl (by kernel_rfl) rfl ?_
    refine l_on rfl (gT h1_3) ?_
    refine l_leq rfl rfl rfl ?_
    exact l_nil (fun w' hw => ⟨(by repeat (first | exact Out.refl _ _ | refine Out.upd rfl ?_ | refine Out.msk rfl ?_)), rfl, hw⟩)
  refine l_mv rfl ?_
  refine l_band 4 8 [15, 14, 13, 12] (((x.key.size : Int) ≤ 64)) rfl rfl rfl rfl rfl rfl trivial rfl (fun h1_8 => ?_) (fun g1_13 => ?_)
  ·
    refine l_on rfl (gT h1_8) ?_
    refine l_fld (o := 3) rfl (by kernel_rfl) rfl ?_
    refine l_on rfl (gT h1_8) ?_
    refine l_ldo 0 rfl rfl rfl (by kernel_rfl) rfl ?_
    refine l_on rfl (gT h1_8) ?_
    refine l_lens (by kernel_rfl) rfl rfl ?_
    refine l_on rfl (gT h1_8) ?_
    refine l_leq rfl rfl rfl ?_
    exact l_nil (fun w' hw => ⟨(by repeat (first | exact Out.refl _ _ | refine Out.upd rfl ?_ | refine Out.msk rfl ?_)), rfl, hw⟩)
  refine l_as rfl ?_
  refine l_end ?_
  exact c_ret (ret1 (v := .bool (decide ((1 ≤ x.op ∧ x.op ≤ 5) ∧ (x.key.size : Int) ≤ 64))) rfl rfl (fun w' hw => ⟨by congr 1; exact decide_eq_decide.2 (by unfold CmdD.ok; omega), hw.drop⟩))
theorem rcmdOK_spec (x : CmdD) (w : World) : Rets Try.prog 16 #[.agg x.cells.toArray] w fun v w' => v = .bool (decide x.ok) ∧ Own w [] [] w' := by
  refine fn_enter (args := [.agg x.cells.toArray]) Try.func16 rfl Try.ntmps16 rfl (Own.start w) ?_
  refine c_reg ?_
  refine l_box rfl rfl (fun b1 => ?_)
  refine l_as rfl ?_
  refine l_end ?_
  refine c_reg ?_
  refine l_fld (o := 2) rfl (by kernel_rfl) rfl ?_
  refine l_ldo 0 rfl rfl rfl (by kernel_rfl) rfl ?_
  refine l_geq rfl rfl rfl ?_
  refine l_mv rfl ?_
  refine l_band 3 3 [9, 8, 7] ((x.op ≤ 5)) rfl rfl rfl rfl rfl rfl trivial rfl (fun h1_3 => ?_) (fun g1_7 => ?_)
  ·
    refine l_on rfl (gT h1_3) ?_
    refine l_fld (o := 2) rfl (by kernel_rfl) rfl ?_
    refine l_on rfl (gT h1_3) ?_
    refine l_ldo 0 rfl rfl rfl (by kernel_rfl) rfl ?_
    refine l_on rfl (gT h1_3) ?_
    refine l_leq rfl rfl rfl ?_
    exact l_nil (fun w' hw => ⟨(by repeat (first | exact Out.refl _ _ | refine Out.upd rfl ?_ | refine Out.msk rfl ?_)), rfl, hw⟩)
  refine l_mv rfl ?_
  refine l_band 4 8 [15, 14, 13, 12] (((x.key.size : Int) ≤ 64)) rfl rfl rfl rfl rfl rfl trivial rfl (fun h1_8 => ?_) (fun g1_13 => ?_)
  ·
    refine l_on rfl (gT h1_8) ?_
    refine l_fld (o := 3) rfl (by kernel_rfl) rfl ?_
    refine l_on rfl (gT h1_8) ?_
    refine l_ldo 0 rfl rfl rfl (by kernel_rfl) rfl ?_
    refine l_on rfl (gT h1_8) ?_
    refine l_lens (by kernel_rfl) rfl rfl ?_
    refine l_on rfl (gT h1_8) ?_
    refine l_leq rfl rfl rfl ?_
    exact l_nil (fun w' hw => ⟨(by repeat (first | exact Out.refl _ _ | refine Out.upd rfl ?_ | refine Out.msk rfl ?_)), rfl, hw⟩)
  refine l_as rfl ?_
  refine l_end ?_
  exact c_ret (ret1 (v := .bool (decide ((1 ≤ x.op ∧ x.op ≤ 5) ∧ (x.key.size : Int) ≤ 64))) rfl rfl (fun w' hw => ⟨by congr 1; exact decide_eq_decide.2 (by unfold CmdD.ok; omega), hw.drop⟩))

set_option maxHeartbeats 1000000 in
theorem cmdWrite_spec (x : CmdD) (hx : x.wf) : PPut 98 [.agg x.cells.toArray] x.enc := by
  intro o sl bs w hbuf hb
  have h1 := numsB_length (ns := [x.session, x.seq, u64 x.op]) (by have := hx.session; have := hx.seq; simp only [isU] at *; simp [u64_lt, *])
  have h3 := dat_length (strB x.key) (by rw [strB_length]; have := hx.key; omega)
  have h4 := hx.key
  rw [strB_length] at h3
  simp only [List.length_cons, List.length_nil] at h1
  refine fn_enter (args := [.pointer (some ⟨o, 0, none⟩), .agg x.cells.toArray]) Try.func98 rfl Try.ntmps98 rfl (show Own w (o :: blkS sl) [Res.buf o TOut sl bs] w from Own.start1 hbuf) ?_
  refine c_reg ?_
  refine l_box rfl rfl (fun b3 => ?_)
  refine l_end ?_
  refine c_reg ?_
  refine l_mv rfl ?_
  refine l_fld (o := 0) rfl (by kernel_rfl) rfl ?_
  refine l_ldo 1 rfl rfl rfl (by kernel_rfl) rfl ?_
  refine l_fld (o := 1) rfl (by kernel_rfl) rfl ?_
  refine l_ldo 1 rfl rfl rfl (by kernel_rfl) rfl ?_
  refine l_fld (o := 2) rfl (by kernel_rfl) rfl ?_
  refine l_ldo 1 rfl rfl rfl (by kernel_rfl) rfl ?_
  refine l_cvt (by kernel_rfl) rfl (wrap_u64 _) rfl ?_ (by kernel_rfl)
  refine l_bsl (e := 22) (sz := 1) (vs := [.int .u64 x.session, .int .u64 x.seq, .int .u64 (u64 x.op : Nat)]) (by kernel_rfl) rfl rfl (by simp [Value.cells]) (by decide) rfl (fun b12 => ?_)
  refine l_call (by kernel_rfl) rfl rfl (fun w' hw => ?_)
  refine (nums_spec o sl bs _ [x.session, x.seq, u64 x.op] w' (hw.holds 0 _ rfl) (Vec.sl (hw.holds 2 _ rfl)) (fun b hb => hw.apart 2 0 _ _ (by decide) rfl rfl b hb) (by have := hx.session; have := hx.seq; simp only [isU] at *; simp [u64_lt, *]) (by simp; omega)).mono ?_
  rintro _ w1 ⟨rfl, s1, hO⟩
  refine (?_ : CL _ _ _ _ _ _ (Own w (o :: blkS sl) _)) w1 (hw.frame1 (i := 0) rfl hO)
  refine l_end ?_
  refine c_reg ?_
  refine l_mv rfl ?_
  refine l_fld (o := 3) rfl (by kernel_rfl) rfl ?_
  refine l_ldo 1 rfl rfl rfl (by kernel_rfl) rfl ?_
  refine l_s2b (by kernel_rfl) (by kernel_rfl) rfl (by rw [maxLen_eq]; omega) rfl (fun v17 => ?_)
  intro w1 hw1
  obtain ⟨a17, c17, e17, -⟩ := Sl.shape (hw1.holds 3 _ rfl)
  subst e17
  refine (?_ : CL _ _ _ _ _ _ (Own w (o :: blkS sl) _)) w1 hw1
  refine l_bsl (e := 32) (sz := 1) (vs := [.slice a17 x.key.size c17]) (by kernel_rfl) rfl rfl (by simp [Value.cells]) (by decide) rfl (fun b18 => ?_)
  refine l_call (by kernel_rfl) rfl rfl (fun w' hw => ?_)
  refine (data_spec o s1 (bs ++ numsB [x.session, x.seq, u64 x.op]) _ [(.slice a17 x.key.size c17, strB x.key)] w' (hw.holds 0 _ rfl) (Vec.sl (hw.holds 4 _ rfl)) (fun p hp => by simp at hp; subst hp; exact bsl_str (hw.holds 3 _ rfl)) (by simp [datsB]; omega)).mono ?_
  rintro _ w1 ⟨rfl, s2, hO⟩
  refine (?_ : CL _ _ _ _ _ _ (Own w (o :: blkS sl) _)) w1 (hw.frame1 (i := 0) rfl hO)
  refine l_end ?_
  refine c_last ?_
  refine l_mv rfl ?_
  refine l_fld (o := 4) rfl (by kernel_rfl) rfl ?_
  refine l_ldo 1 rfl rfl rfl (by kernel_rfl) rfl ?_
  refine l_cvt (by kernel_rfl) rfl (wrap_u64 _) rfl ?_ (by kernel_rfl)
  refine l_fld (o := 5) rfl (by kernel_rfl) rfl ?_
  refine l_ldo 1 rfl rfl rfl (by kernel_rfl) rfl ?_
  refine l_cvt (by kernel_rfl) rfl (wrap_u64 _) rfl ?_ (by kernel_rfl)
  refine l_fld (o := 6) rfl (by kernel_rfl) rfl ?_
  refine l_ldo 1 rfl rfl rfl (by kernel_rfl) rfl ?_
  refine l_bsl (e := 22) (sz := 1) (vs := [.int .u64 (u64 x.amount : Nat), .int .u64 (u64 x.span : Nat), .int .u64 x.lease]) (by kernel_rfl) rfl rfl (by simp [Value.cells]) (by decide) rfl (fun b29 => ?_)
  refine l_call (by kernel_rfl) rfl rfl (fun w' hw => ?_)
  refine (nums_spec o s2 _ _ [u64 x.amount, u64 x.span, x.lease] w' (hw.holds 0 _ rfl) (Vec.sl (hw.holds 5 _ rfl)) (fun b hb => hw.apart 5 0 _ _ (by decide) rfl rfl b hb) (by have := hx.lease; simp only [isU] at *; simp [u64_lt, *]) (by simp [datsB]; omega)).mono ?_
  rintro _ w1 ⟨rfl, s3, hO⟩
  refine (?_ : CL _ _ _ _ _ _ (Own w (o :: blkS sl) _)) w1 (hw.frame1 (i := 0) rfl hO)
  exact l_nil (ret0 rfl (fun w' hw => ⟨rfl, s3, by have h : Own w (o :: blkS sl) [Res.buf o TOut s3 (((bs ++ numsB [x.session, x.seq, u64 x.op]) ++ datsB [((.slice a17 x.key.size c17 : Value), strB x.key)]) ++ numsB [u64 x.amount, u64 x.span, x.lease])] w' := hw.one 0 rfl; simpa [CmdD.enc, datsB, List.append_assoc] using h⟩))

def cmdKindV : Value := .agg #[.func (.func 97) #[] #[], .func (.func 98) #[] #[], .func (.func 101) #[] #[]]
theorem cmdKind_spec (w : World) : Rets Try.prog 57 #[] w fun v w' => v = cmdKindV ∧ Own w [] [] w' := by
  refine fn_enter (args := []) Try.func57 rfl Try.ntmps57 rfl (Own.start w) ?_
  refine c_reg ?_
  refine l_new (v := .agg #[.nilFunc, .nilFunc, .nilFunc]) (by kernel_rfl) rfl (fun b0 => ?_)
  refine l_end ?_
  refine c_reg ?_
  refine l_bld (cs := [.func (.func 97) #[] #[], .func (.func 98) #[] #[], .func (.func 101) #[] #[]]) (z := [.nilFunc, .nilFunc, .nilFunc]) (pl := [(0, 1), (1, 1), (2, 1)]) (by kernel_rfl) rfl rfl ?_
  refine l_stN (vs := [.func (.func 97) #[] #[], .func (.func 98) #[] #[], .func (.func 101) #[] #[]]) 0 rfl rfl rfl (by kernel_rfl) (by simp [cell1]) (by simp [Value.cells]) ?_
  refine l_end ?_
  exact c_ret (retc (cs := [.func (.func 97) #[] #[], .func (.func 98) #[] #[], .func (.func 101) #[] #[]]) rfl rfl (by kernel_rfl) (Own.rowCells (i := 0) rfl) (fun w hw => ⟨rfl, hw.drop⟩))
theorem cmdBytes_spec (x : CmdD) (hx : x.wf) (w : World) : Rets Try.prog 58 #[cmdKindV, .agg (x.cells).toArray] w (EncPost (x.ok) (x.enc) w) := by
  refine fn_enter (args := [cmdKindV, .agg (x.cells).toArray]) Try.func58 rfl Try.ntmps58 rfl (Own.start w) ?_
  have hlen := CmdD.enc_le hx
  have hkey := hx.key
  refine c_reg ?_
  refine l_box rfl rfl (fun b2 => ?_)
  refine l_box rfl rfl (fun b3 => ?_)
  refine l_as rfl ?_
  refine l_as rfl ?_
  refine l_end ?_
  refine c_seq ?_
  refine c_reg ?_
  refine l_fld (o := 0) rfl (by kernel_rfl) rfl ?_
  refine l_ldo 0 rfl rfl rfl (by kernel_rfl) rfl ?_
  refine l_ldr (cs := x.cells) 1 rfl rfl (by kernel_rfl) rfl ?_
  refine l_callv (fst := []) (cap := []) rfl (by kernel_rfl) rfl rfl (fun w' hw => ?_)
  refine (cmdSound_spec x w').mono ?_
  rintro _ w1 ⟨rfl, hO⟩
  refine (?_ : CL _ _ _ _ _ _ (Own w [] _)) w1 (hw.frame0 hO)
  refine l_notp rfl rfl ?_
  refine l_end ?_
  refine c_dec rfl (fun c1 => ?_) (fun c1 => ?_)
  ·
    refine c_reg ?_
    refine l_as rfl ?_
    refine l_as rfl ?_
    refine l_end ?_
    exact c_ret (ret2 (v := .slice none 0 0) rfl rfl rfl (fun w' hw => ⟨.slice none 0 0, 2, [], rfl, (own_nil hw.drop T8 1).vecSl (i := 0) rfl, fun h => (c1 h).elim, fun _ => ⟨rfl, rfl, rfl⟩⟩))
  ·
    refine c_skipC ?_
    refine c_reg ?_
    refine l_bld (z := [.slice none 0 0]) (pl := [(0, 1)]) (by kernel_rfl) rfl rfl ?_
    refine l_box rfl rfl (fun b13 => ?_)
    refine l_as rfl ?_
    refine l_end ?_
    refine c_reg ?_
    refine l_fld (o := 1) rfl (by kernel_rfl) rfl ?_
    refine l_ldo 0 rfl rfl rfl (by kernel_rfl) rfl ?_
    refine l_mv rfl ?_
    refine l_ldr (cs := x.cells) 1 rfl rfl (by kernel_rfl) rfl ?_
    refine l_callv (fst := []) (cap := []) rfl (by kernel_rfl) rfl rfl (fun w' hw => ?_)
    have hbuf : Own w [] [Res.buf b13 TOut (.slice none 0 0) []] w' := ((own_nil (hw.one 2 rfl) T8 1).vecSl (i := 1) rfl).joinBuf (i := 0) (j := 1) (by decide) rfl rfl
    refine (cmdWrite_spec x hx b13 (.slice none 0 0) [] w' (hbuf.holds 0 _ rfl) ?_).mono ?_
    · have := hlen; simp; omega
    rintro _ w1 ⟨rfl, sl', hO⟩
    have h2 := (hbuf.frame1 (i := 0) rfl hO).splitBuf (i := 0) rfl
    refine (?_ : CL _ _ _ _ _ _ (Own w [] [Res.row b13 TOut [sl'], Res.sl sl' (x.enc).length ((x.enc).map vb)])) w1 h2
    refine l_end ?_
    refine c_reg ?_
    refine l_mv rfl ?_
    refine l_nck rfl rfl ?_
    refine l_fld (o := 0) rfl (by kernel_rfl) rfl ?_
    refine l_ldo 0 rfl rfl rfl (by kernel_rfl) rfl ?_
    refine l_as rfl ?_
    refine l_as rfl ?_
    refine l_end ?_
    exact c_ret (ret2 (v := sl') rfl rfl rfl (fun w' hw => ⟨sl', 0, x.enc, rfl, hw.one 1 rfl, fun _ => ⟨rfl, rfl⟩, fun h => (h (Decidable.not_not.1 c1)).elim⟩))
theorem cmdMsg_spec (x : CmdD) (hx : x.wf) (w : World) : Rets Try.prog 10 #[.agg (x.cells).toArray] w (EncPost (x.ok) (x.enc) w) := by
  refine fn_enter (args := [.agg (x.cells).toArray]) Try.func10 rfl Try.ntmps10 rfl (Own.start w) ?_
  refine c_reg ?_
  refine l_box rfl rfl (fun b1 => ?_)
  refine l_as rfl ?_
  refine l_as rfl ?_
  refine l_end ?_
  refine c_seq ?_
  refine c_held (fun w' => (∀ i u, (x.cells)[i]? = some u → w'.cell? ⟨b1, 0 + i, none⟩ = some u)) (by kernel_rfl) (fun w' hw => (fun (hw : Own w [] _ _) => Own.rowCells (cs := x.cells) (i := 0) rfl _ hw) hw.drawn) (fun w' hw => ?_)
  replace hw := hw.drawn
  have hS := Own.rowCells (cs := x.cells) (i := 0) rfl _ hw
  refine h_take 1 rfl (by kernel_rfl) (by kernel_rfl) (by kernel_rfl) (v_ldN (cs := x.cells) rfl (by kernel_rfl) (fun w h => h)) rfl hS ?_
  refine h_call 0 (by kernel_rfl) rfl (by kernel_rfl) rfl rfl ?_
  refine (cmdKind_spec _).mono ?_
  rintro _ w1 ⟨rfl, hO⟩
  replace hw := hw.frame0 hO
  replace hS := Own.rowCells (cs := x.cells) (i := 0) rfl _ hw
  refine ⟨hS, ?_⟩
  refine h_call 2 (by kernel_rfl) rfl (by kernel_rfl) rfl rfl ?_
  refine (cmdBytes_spec x hx _).mono ?_
  rintro _ w1 ⟨sl, e, bs, rfl, hO, h1, h2⟩
  replace hw := hw.frame0 hO
  replace hS := Own.rowCells (cs := x.cells) (i := 0) rfl _ hw
  refine ⟨hS, ?_⟩
  refine h_take 3 rfl (by kernel_rfl) (by kernel_rfl) (by kernel_rfl) (v_ext (vs := [sl, .int .i64 e]) rfl rfl) rfl hS ?_
  refine h_take 4 rfl (by kernel_rfl) (by kernel_rfl) (by kernel_rfl) (v_ext (vs := [sl, .int .i64 e]) rfl rfl) rfl hS ?_
  refine h_take 5 rfl (by kernel_rfl) (by kernel_rfl) (by kernel_rfl) (v_as) rfl hS ?_
  refine h_take 6 rfl (by kernel_rfl) (by kernel_rfl) (by kernel_rfl) (v_as) rfl hS ?_
  refine h_done (by kernel_rfl) ?_
  refine (?_ : C _ _ _ _ _ _ _ (Own w [] _)) _ hw
  exact c_ret (ret2 rfl rfl rfl (fun w' hw => ⟨sl, e, bs, rfl, hw.one 1 rfl, h1, h2⟩))

set_option maxHeartbeats 1000000 in
theorem rcmd_spec (x : CmdD) (hx : x.wf) : RPut 65 [.agg x.cells.toArray] x.enc := by
  intro o v bs w hbuf hb
  have h0 : bs.length + (num x.session ++ (num x.seq ++ (num (u64 x.op) ++ (dat (strB x.key) ++ (num (u64 x.amount) ++ (num (u64 x.span) ++ num x.lease)))))).length ≤ 10000000000 := by simpa [CmdD.enc, numsB] using hb
  simp only [List.length_append] at h0
  have h4 := hx.key
  refine fn_enter (args := [.pointer (some ⟨o, 0, none⟩), .agg x.cells.toArray]) Try.func65 rfl Try.ntmps65 rfl (show Own w ([o] ++ blkOf v) [Res.rbuf o v bs] w from Own.start1 hbuf) ?_
  refine c_reg ?_
  refine l_box rfl rfl (fun b3 => ?_)
  refine l_end ?_
  refine c_reg ?_
  refine l_mv rfl ?_
  refine l_fld (o := 0) rfl (by kernel_rfl) rfl ?_
  refine l_ldo 1 rfl rfl rfl (by kernel_rfl) rfl ?_
  refine l_call (by kernel_rfl) rfl rfl (fun w' hw => ?_)
  refine (rnum_spec x.session hx.session o v bs w' (hw.holds 0 _ rfl) (by omega)).mono ?_
  rintro _ w1 ⟨rfl, y1, hO⟩
  refine (?_ : CL _ _ _ _ _ _ (Own w ([o] ++ blkOf v) _)) w1 (hw.frame1 (i := 0) rfl hO)
  refine l_end ?_
  refine c_reg ?_
  refine l_mv rfl ?_
  refine l_fld (o := 1) rfl (by kernel_rfl) rfl ?_
  refine l_ldo 1 rfl rfl rfl (by kernel_rfl) rfl ?_
  refine l_call (by kernel_rfl) rfl rfl (fun w' hw => ?_)
  refine (rnum_spec x.seq hx.seq o y1 _ w' (hw.holds 0 _ rfl) (by simp; omega)).mono ?_
  rintro _ w1 ⟨rfl, y2, hO⟩
  refine (?_ : CL _ _ _ _ _ _ (Own w ([o] ++ blkOf v) _)) w1 (hw.frame1 (i := 0) rfl hO)
  refine l_end ?_
  refine c_reg ?_
  refine l_mv rfl ?_
  refine l_fld (o := 2) rfl (by kernel_rfl) rfl ?_
  refine l_ldo 1 rfl rfl rfl (by kernel_rfl) rfl ?_
  refine l_cvt (by kernel_rfl) rfl (wrap_u64 _) rfl ?_ (by kernel_rfl)
  refine l_call (by kernel_rfl) rfl rfl (fun w' hw => ?_)
  refine (rnum_spec (u64 x.op) (u64_lt _) o y2 _ w' (hw.holds 0 _ rfl) (by simp; omega)).mono ?_
  rintro _ w1 ⟨rfl, y3, hO⟩
  refine (?_ : CL _ _ _ _ _ _ (Own w ([o] ++ blkOf v) _)) w1 (hw.frame1 (i := 0) rfl hO)
  refine l_end ?_
  refine c_reg ?_
  refine l_mv rfl ?_
  refine l_fld (o := 3) rfl (by kernel_rfl) rfl ?_
  refine l_ldo 1 rfl rfl rfl (by kernel_rfl) rfl ?_
  refine l_s2b (by kernel_rfl) (by kernel_rfl) rfl (by rw [maxLen_eq]; omega) rfl (fun v20 => ?_)
  refine l_call (by kernel_rfl) rfl rfl (fun w' hw => ?_)
  refine (rdata_spec v20 (strB x.key) (by rw [strB_length]; omega) o y3 _ w' (hw.holds 0 _ rfl) (by simp; omega) (bsl_str (hw.holds 2 _ rfl))).mono ?_
  rintro _ w1 ⟨rfl, y4, hO⟩
  refine (?_ : CL _ _ _ _ _ _ (Own w ([o] ++ blkOf v) _)) w1 (hw.frame1 (i := 0) rfl hO)
  refine l_end ?_
  refine c_reg ?_
  refine l_mv rfl ?_
  refine l_fld (o := 4) rfl (by kernel_rfl) rfl ?_
  refine l_ldo 1 rfl rfl rfl (by kernel_rfl) rfl ?_
  refine l_cvt (by kernel_rfl) rfl (wrap_u64 _) rfl ?_ (by kernel_rfl)
  refine l_call (by kernel_rfl) rfl rfl (fun w' hw => ?_)
  refine (rnum_spec (u64 x.amount) (u64_lt _) o y4 _ w' (hw.holds 0 _ rfl) (by simp; omega)).mono ?_
  rintro _ w1 ⟨rfl, y5, hO⟩
  refine (?_ : CL _ _ _ _ _ _ (Own w ([o] ++ blkOf v) _)) w1 (hw.frame1 (i := 0) rfl hO)
  refine l_end ?_
  refine c_reg ?_
  refine l_mv rfl ?_
  refine l_fld (o := 5) rfl (by kernel_rfl) rfl ?_
  refine l_ldo 1 rfl rfl rfl (by kernel_rfl) rfl ?_
  refine l_cvt (by kernel_rfl) rfl (wrap_u64 _) rfl ?_ (by kernel_rfl)
  refine l_call (by kernel_rfl) rfl rfl (fun w' hw => ?_)
  refine (rnum_spec (u64 x.span) (u64_lt _) o y5 _ w' (hw.holds 0 _ rfl) (by simp; omega)).mono ?_
  rintro _ w1 ⟨rfl, y6, hO⟩
  refine (?_ : CL _ _ _ _ _ _ (Own w ([o] ++ blkOf v) _)) w1 (hw.frame1 (i := 0) rfl hO)
  refine l_end ?_
  refine c_last ?_
  refine l_mv rfl ?_
  refine l_fld (o := 6) rfl (by kernel_rfl) rfl ?_
  refine l_ldo 1 rfl rfl rfl (by kernel_rfl) rfl ?_
  refine l_call (by kernel_rfl) rfl rfl (fun w' hw => ?_)
  refine (rnum_spec x.lease hx.lease o y6 _ w' (hw.holds 0 _ rfl) (by simp; omega)).mono ?_
  rintro _ w1 ⟨rfl, y7, hO⟩
  refine (?_ : CL _ _ _ _ _ _ (Own w ([o] ++ blkOf v) _)) w1 (hw.frame1 (i := 0) rfl hO)
  exact l_nil (ret0 rfl (fun w' hw => ⟨rfl, y7, by have h : Own w ([o] ++ blkOf v) [Res.rbuf o y7 (((((((bs ++ num x.session) ++ num x.seq) ++ num (u64 x.op)) ++ dat (strB x.key)) ++ num (u64 x.amount)) ++ num (u64 x.span)) ++ num x.lease)] w' := hw.one 0 rfl; simpa [CmdD.enc, numsB, List.append_assoc] using h⟩))
/-- What comes of a value's bytes in the reference. -/
def REnc (g : FuncId) (v : Value) (enc : List UInt8) : Prop := ∀ w, Rets Try.prog g #[v] w fun u w' => Own w [] [Res.sl u enc.length (enc.map vb)] w'
theorem rcmdEnc_spec (x : CmdD) (hx : x.wf) : REnc 17 (.agg x.cells.toArray) x.enc := by
  intro w
  have hlen := CmdD.enc_le hx
  have hkey := hx.key
  refine fn_enter (args := [.agg x.cells.toArray]) Try.func17 rfl Try.ntmps17 rfl (Own.start w) ?_
  refine c_reg ?_
  refine l_box rfl rfl (fun b1 => ?_)
  refine l_as rfl ?_
  refine l_end ?_
  refine c_reg ?_
  refine l_bld (z := [.slice none 0 0]) (pl := [(0, 1)]) (by kernel_rfl) rfl rfl ?_
  refine l_box rfl rfl (fun b5 => ?_)
  refine l_as rfl ?_
  refine l_end ?_
  refine c_reg ?_
  refine l_mv rfl ?_
  refine l_ldr (cs := x.cells) 0 rfl rfl (by kernel_rfl) rfl ?_
  refine l_call (by kernel_rfl) rfl rfl (fun w' hw => ?_)
  have hbuf : Own w [] [Res.rbuf b5 (.slice none 0 0) []] w' := (own_nil (hw.one 1 rfl) T8 1).joinBoth (i := 0) (j := 1) (by decide) rfl rfl
  refine (rcmd_spec x hx b5 (.slice none 0 0) [] w' (hbuf.holds 0 _ rfl) (by simp; omega)).mono ?_
  rintro _ w1 ⟨rfl, y, hO⟩
  refine (?_ : CL _ _ _ _ _ _ (Own w [] [Res.row b5 TRO [y], bvec y x.enc])) w1 ((hbuf.frame1 (i := 0) rfl hO).splitBoth (i := 0) rfl)
  refine l_end ?_
  refine c_reg ?_
  refine l_mv rfl ?_
  refine l_nck rfl rfl ?_
  refine l_fld (o := 0) rfl (by kernel_rfl) rfl ?_
  refine l_ldo 0 rfl rfl rfl (by kernel_rfl) rfl ?_
  refine l_as rfl ?_
  refine l_end ?_
  exact c_ret (ret1 (v := y) rfl rfl (fun w' hw => (hw.vecSl (i := 1) rfl).one 1 rfl))

end Go.Proofs.Ytlkoekhjegaimaa
