/-
  THE WALKS OF what edges are told: sound, written, its bytes; and the reference's.
-/
import Derived.Test.YtlkoekhjegaimaaCmd
set_option linter.unusedVariables false
set_option maxRecDepth 10000
namespace Go.Proofs.Ytlkoekhjegaimaa
open Go Go.Sc Go.Proofs

theorem sub_at {pre sub post : List Value} : ∀ (j : Nat) (u : Value), sub[j]? = some u → (pre ++ (sub ++ post))[pre.length + j]? = some u := by
  intro j u h
  rw [List.getElem?_append_right (by omega), Nat.add_sub_cancel_left, List.getElem?_append_left (List.getElem?_eq_some_iff.1 h).1]
  exact h
def repliesC : List Value := [.func (.func 105) #[] #[], .func (.func 106) #[] #[], .func (.func 107) #[] #[]]
structure TldD where
  seq : Nat
  retry : Bool
  lead : Int
  reply : RepD
  cap : Int
  lent : Int
structure TldD.wf (x : TldD) : Prop where
  seq : isU x.seq
  lead : isI x.lead
  reply : x.reply.wf
  cap : isI x.cap
  lent : isI x.lent
def TldD.cells (x : TldD) : List Value := [vu x.seq, .bool x.retry, .int .i64 x.lead] ++ (x.reply.cells ++ [.int .i64 x.cap, .int .i64 x.lent])
def TldD.ok (x : TldD) : Prop := (0 ≤ x.lead ∧ x.lead ≤ 16) ∧ x.reply.ok
instance (x : TldD) : Decidable x.ok := inferInstanceAs (Decidable ((_ ∧ _) ∧ _))
def TldD.enc (x : TldD) : List UInt8 := numsB [x.seq] ++ numsB [fl x.retry] ++ numsB [u64 x.lead] ++ x.reply.enc ++ numsB [u64 x.cap, u64 x.lent]
theorem fl_lt (b : Bool) : fl b < 18446744073709551616 := by cases b <;> simp [fl]
theorem TldD.enc_le {x : TldD} (h : x.wf) : x.enc.length ≤ 200 := by
  have h1 := numsB_length (ns := [x.seq]) (by have := h.seq; simp only [isU] at *; simp [*])
  have h2 := numsB_length (ns := [fl x.retry]) (by simp [fl_lt])
  have h3 := numsB_length (ns := [u64 x.lead]) (by simp [u64_lt])
  have h4 := RepD.enc_le h.reply
  have h5 := numsB_length (ns := [u64 x.cap, u64 x.lent]) (by simp [u64_lt])
  simp only [TldD.enc, List.length_append, List.length_cons, List.length_nil] at *
  omega

theorem tldSound_spec (x : TldD) (cb : Nat) (w : World) (hc : Row w cb 116 repliesC) : Rets Try.prog 113 #[.agg x.cells.toArray, .pointer (some ⟨cb, 0, none⟩)] w fun v w' => v = .bool (decide x.ok) ∧ Own w [] [] w' := by
  refine fn_enter (args := [.agg x.cells.toArray, .pointer (some ⟨cb, 0, none⟩)]) Try.func113 rfl Try.ntmps113 rfl (Own.start w) ?_
  refine c_reg ?_
  refine l_box rfl rfl (fun b2 => ?_)
  refine l_as rfl ?_
  refine l_end ?_
  refine c_reg ?_
  refine l_fld (o := 2) rfl (by kernel_rfl) rfl ?_
  refine l_ldo 0 rfl rfl rfl (by kernel_rfl) rfl ?_
  refine l_geq rfl rfl rfl ?_
  refine l_mv rfl ?_
  refine l_band 3 3 [10, 9, 8] ((x.lead ≤ 16)) rfl rfl rfl rfl rfl rfl trivial rfl (fun h1_3 => ?_) (fun g1_7 => ?_)
  ·
    refine l_on rfl (gT h1_3) ?_
    refine l_fld (o := 2) rfl (by kernel_rfl) rfl ?_
    refine l_on rfl (gT h1_3) ?_
    refine l_ldo 0 rfl rfl rfl (by kernel_rfl) rfl ?_
    refine l_on rfl (gT h1_3) ?_
    refine l_leq rfl rfl rfl ?_
    exact l_nil (fun w' hw => ⟨(by repeat (first | exact Out.refl _ _ | refine Out.upd rfl ?_ | refine Out.msk rfl ?_)), rfl, hw⟩)
  refine l_mv rfl ?_
  refine l_band 5 8 [17, 16, 15, 14, 13] (x.reply.ok) rfl rfl rfl rfl rfl rfl trivial rfl (fun h1_8 => ?_) (fun g1_14 => ?_)
  ·
    refine l_on rfl (gT h1_8) ?_
    refine l_fld (o := 0) rfl (by kernel_rfl) rfl ?_
    refine l_on rfl (gT h1_8) ?_
    refine l_ldq rfl (hc.cell rfl) (by simp) (by kernel_rfl) rfl ?_
    refine l_on rfl (gT h1_8) ?_
    refine l_fld (o := 3) rfl (by kernel_rfl) rfl ?_
    refine l_on rfl (gT h1_8) ?_
    refine l_ldN (cs := x.reply.cells) rfl (by kernel_rfl) (fun w' hw' j u hu => hw'.rowCell (i := 0) rfl (sub_at (pre := [vu x.seq, .bool x.retry, .int .i64 x.lead]) (post := [.int .i64 x.cap, .int .i64 x.lent]) j u hu)) rfl ?_
    refine l_on rfl (gT h1_8) ?_
    refine l_callv (fst := []) (cap := []) rfl (by kernel_rfl) rfl rfl (fun w' hw => ?_)
    refine (replies1_spec x.reply w').mono ?_
    rintro _ w1 ⟨rfl, hO⟩
    refine (?_ : CL _ _ _ _ _ _ (Own w [] _)) w1 (hw.frame0 hO)
    exact l_nil (fun w' hw => ⟨(by repeat (first | exact Out.refl _ _ | refine Out.upd rfl ?_ | refine Out.msk rfl ?_)), rfl, hw⟩)
  refine l_as rfl ?_
  refine l_end ?_
  exact c_ret (ret1 (v := .bool (decide ((0 ≤ x.lead ∧ x.lead ≤ 16) ∧ x.reply.ok))) rfl rfl (fun w' hw => ⟨rfl, hw.drop⟩))
theorem rreplyOK_spec (r : RepD) (w : World) : Rets Try.prog 18 #[.agg r.cells.toArray] w fun v w' => v = .bool (decide r.ok) ∧ Own w [] [] w' := by
  refine fn_enter (args := [.agg r.cells.toArray]) Try.func18 rfl Try.ntmps18 rfl (Own.start w) ?_
  refine c_reg ?_
  refine l_box rfl rfl (fun b1 => ?_)
  refine l_as rfl ?_
  refine l_end ?_
  refine c_reg ?_
  refine l_fld (o := 2) rfl (by kernel_rfl) rfl ?_
  refine l_ldo 0 rfl rfl rfl (by kernel_rfl) rfl ?_
  refine l_geq rfl rfl rfl ?_
  refine l_mv rfl ?_
  refine l_band 3 3 [9, 8, 7] ((r.e ≤ 20)) rfl rfl rfl rfl rfl rfl trivial rfl (fun h1_3 => ?_) (fun g1_7 => ?_)
  ·
    refine l_on rfl (gT h1_3) ?_
    refine l_fld (o := 2) rfl (by kernel_rfl) rfl ?_
    refine l_on rfl (gT h1_3) ?_
    refine l_ldo 0 rfl rfl rfl (by kernel_rfl) rfl ?_
    refine l_on rfl (gT h1_3) ?_
    refine l_leq rfl rfl rfl ?_
    exact l_nil (fun w' hw => ⟨(by repeat (first | exact Out.refl _ _ | refine Out.upd rfl ?_ | refine Out.msk rfl ?_)), rfl, hw⟩)
  refine l_as rfl ?_
  refine l_end ?_
  exact c_ret (ret1 rfl rfl (fun w' hw => ⟨rfl, hw.drop⟩))
theorem rtldOK_spec (x : TldD) (w : World) : Rets Try.prog 22 #[.agg x.cells.toArray] w fun v w' => v = .bool (decide x.ok) ∧ Own w [] [] w' := by
  refine fn_enter (args := [.agg x.cells.toArray]) Try.func22 rfl Try.ntmps22 rfl (Own.start w) ?_
  refine c_reg ?_
  refine l_box rfl rfl (fun b1 => ?_)
  refine l_as rfl ?_
  refine l_end ?_
  refine c_reg ?_
  refine l_fld (o := 2) rfl (by kernel_rfl) rfl ?_
  refine l_ldo 0 rfl rfl rfl (by kernel_rfl) rfl ?_
  refine l_geq rfl rfl rfl ?_
  refine l_mv rfl ?_
  refine l_band 3 3 [9, 8, 7] ((x.lead ≤ 16)) rfl rfl rfl rfl rfl rfl trivial rfl (fun h1_3 => ?_) (fun g1_7 => ?_)
  ·
    refine l_on rfl (gT h1_3) ?_
    refine l_fld (o := 2) rfl (by kernel_rfl) rfl ?_
    refine l_on rfl (gT h1_3) ?_
    refine l_ldo 0 rfl rfl rfl (by kernel_rfl) rfl ?_
    refine l_on rfl (gT h1_3) ?_
    refine l_leq rfl rfl rfl ?_
    exact l_nil (fun w' hw => ⟨(by repeat (first | exact Out.refl _ _ | refine Out.upd rfl ?_ | refine Out.msk rfl ?_)), rfl, hw⟩)
  refine l_mv rfl ?_
  refine l_band 3 8 [14, 13, 12] (x.reply.ok) rfl rfl rfl rfl rfl rfl trivial rfl (fun h1_8 => ?_) (fun g1_12 => ?_)
  ·
    refine l_on rfl (gT h1_8) ?_
    refine l_fld (o := 3) rfl (by kernel_rfl) rfl ?_
    refine l_on rfl (gT h1_8) ?_
    refine l_ldN (cs := x.reply.cells) rfl (by kernel_rfl) (fun w' hw' j u hu => hw'.rowCell (i := 0) rfl (sub_at (pre := [vu x.seq, .bool x.retry, .int .i64 x.lead]) (post := [.int .i64 x.cap, .int .i64 x.lent]) j u hu)) rfl ?_
    refine l_on rfl (gT h1_8) ?_
    refine l_call (by kernel_rfl) rfl rfl (fun w' hw => ?_)
    refine (rreplyOK_spec x.reply w').mono ?_
    rintro _ w1 ⟨rfl, hO⟩
    refine (?_ : CL _ _ _ _ _ _ (Own w [] _)) w1 (hw.frame0 hO)
    exact l_nil (fun w' hw => ⟨(by repeat (first | exact Out.refl _ _ | refine Out.upd rfl ?_ | refine Out.msk rfl ?_)), rfl, hw⟩)
  refine l_as rfl ?_
  refine l_end ?_
  exact c_ret (ret1 (v := .bool (decide ((0 ≤ x.lead ∧ x.lead ≤ 16) ∧ x.reply.ok))) rfl rfl (fun w' hw => ⟨rfl, hw.drop⟩))

set_option maxHeartbeats 1000000 in
theorem tldWrite_spec (x : TldD) (hx : x.wf) (cb : Nat) (o : Nat) (sl : Value) (bs : List UInt8) (w : World) (hc : Row w cb 116 repliesC) (hcb : cb ∉ o :: blkS sl) (hbuf : (Res.buf o TOut sl bs).φ w) (hb : bs.length + x.enc.length ≤ 10000000000) :
    Rets Try.prog 114 #[.pointer (some ⟨o, 0, none⟩), .agg x.cells.toArray, .pointer (some ⟨cb, 0, none⟩)] w fun u w' => u = .tuple #[] ∧ ∃ sl', Own w (o :: blkS sl) [Res.buf o TOut sl' (bs ++ x.enc)] w' := by
  have h0 : bs.length + ((numsB [x.seq]).length + (numsB [fl x.retry]).length + (numsB [u64 x.lead]).length + x.reply.enc.length + (numsB [u64 x.cap, u64 x.lent]).length) ≤ 10000000000 := by simpa [TldD.enc, List.length_append, Nat.add_assoc] using hb
  refine fn_enter (args := [.pointer (some ⟨o, 0, none⟩), .agg x.cells.toArray, .pointer (some ⟨cb, 0, none⟩)]) Try.func114 rfl Try.ntmps114 rfl (show Own w (o :: blkS sl) [Res.buf o TOut sl bs] w from Own.start1 hbuf) ?_
  refine c_reg ?_
  refine l_box rfl rfl (fun b4 => ?_)
  refine l_end ?_
  refine c_reg ?_
  refine l_mv rfl ?_
  refine l_fld (o := 0) rfl (by kernel_rfl) rfl ?_
  refine l_ldo 1 rfl rfl rfl (by kernel_rfl) rfl ?_
  refine l_bsl (e := 22) (sz := 1) (vs := [.int .u64 x.seq]) (by kernel_rfl) rfl rfl (by simp [Value.cells]) (by decide) rfl (fun b8 => ?_)
  refine l_call (by kernel_rfl) rfl rfl (fun w' hw => ?_)
  refine (nums_spec o sl bs _ [x.seq] w' (hw.holds 0 _ rfl) (Vec.sl (hw.holds 2 _ rfl)) (fun b hb => hw.apart 2 0 _ _ (by decide) rfl rfl b hb) (by have := hx.seq; simp only [isU] at *; simp [*]) (by simp; omega)).mono ?_
  rintro _ w1 ⟨rfl, s1, hO⟩
  refine (?_ : CL _ _ _ _ _ _ (Own w (o :: blkS sl) _)) w1 (hw.frame1 (i := 0) rfl hO)
  refine l_end ?_
  refine c_reg ?_
  refine l_mv rfl ?_
  refine l_fld (o := 1) rfl (by kernel_rfl) rfl ?_
  refine l_ldo 1 rfl rfl rfl (by kernel_rfl) rfl ?_
  refine l_bsl (e := 4) (sz := 1) (vs := [.bool x.retry]) (by kernel_rfl) rfl rfl (by simp [Value.cells]) (by decide) rfl (fun b13 => ?_)
  refine l_call (by kernel_rfl) rfl rfl (fun w' hw => ?_)
  refine (flags_spec o s1 _ _ [x.retry] w' (hw.holds 0 _ rfl) (Vec.sl (hw.holds 3 _ rfl)) (fun b hb => hw.apart 3 0 _ _ (by decide) rfl rfl b hb) (by simp; omega)).mono ?_
  rintro _ w1 ⟨rfl, s2, hO⟩
  refine (?_ : CL _ _ _ _ _ _ (Own w (o :: blkS sl) _)) w1 (hw.frame1 (i := 0) rfl hO)
  refine l_end ?_
  refine c_reg ?_
  refine l_mv rfl ?_
  refine l_fld (o := 2) rfl (by kernel_rfl) rfl ?_
  refine l_ldo 1 rfl rfl rfl (by kernel_rfl) rfl ?_
  refine l_bsl (e := 3) (sz := 1) (vs := [.int .i64 x.lead]) (by kernel_rfl) rfl rfl (by simp [Value.cells]) (by decide) rfl (fun b18 => ?_)
  refine l_call (by kernel_rfl) rfl rfl (fun w' hw => ?_)
  refine (ints_spec o s2 _ _ [x.lead] w' (hw.holds 0 _ rfl) (Vec.sl (hw.holds 4 _ rfl)) (fun b hb => hw.apart 4 0 _ _ (by decide) rfl rfl b hb) (by simp; omega)).mono ?_
  rintro _ w1 ⟨rfl, s3, hO⟩
  refine (?_ : CL _ _ _ _ _ _ (Own w (o :: blkS sl) _)) w1 (hw.frame1 (i := 0) rfl hO)
  refine l_end ?_
  refine c_reg ?_
  refine l_fld (o := 1) rfl (by kernel_rfl) rfl ?_
  refine l_ldq rfl (hc.cell rfl) hcb (by kernel_rfl) rfl ?_
  refine l_mv rfl ?_
  refine l_fld (o := 3) rfl (by kernel_rfl) rfl ?_
  refine l_ldN (cs := x.reply.cells) rfl (by kernel_rfl) (fun w' hw' j u hu => hw'.rowCell (i := 1) rfl (sub_at (pre := [vu x.seq, .bool x.retry, .int .i64 x.lead]) (post := [.int .i64 x.cap, .int .i64 x.lent]) j u hu)) rfl ?_
  refine l_callv (fst := []) (cap := []) rfl (by kernel_rfl) rfl rfl (fun w' hw => ?_)
  refine (replies2_spec x.reply hx.reply o s3 _ w' (hw.holds 0 _ rfl) (by simp; omega)).mono ?_
  rintro _ w1 ⟨rfl, s4, hO⟩
  refine (?_ : CL _ _ _ _ _ _ (Own w (o :: blkS sl) _)) w1 (hw.frame1 (i := 0) rfl hO)
  refine l_end ?_
  refine c_last ?_
  refine l_mv rfl ?_
  refine l_fld (o := 9) rfl (by kernel_rfl) rfl ?_
  refine l_ldo 1 rfl rfl rfl (by kernel_rfl) rfl ?_
  refine l_cvt (by kernel_rfl) rfl (wrap_u64 _) rfl ?_ (by kernel_rfl)
  refine l_fld (o := 10) rfl (by kernel_rfl) rfl ?_
  refine l_ldo 1 rfl rfl rfl (by kernel_rfl) rfl ?_
  refine l_cvt (by kernel_rfl) rfl (wrap_u64 _) rfl ?_ (by kernel_rfl)
  refine l_bsl (e := 22) (sz := 1) (vs := [.int .u64 (u64 x.cap : Nat), .int .u64 (u64 x.lent : Nat)]) (by kernel_rfl) rfl rfl (by simp [Value.cells]) (by decide) rfl (fun b33 => ?_)
  refine l_call (by kernel_rfl) rfl rfl (fun w' hw => ?_)
  refine (nums_spec o s4 _ _ [u64 x.cap, u64 x.lent] w' (hw.holds 0 _ rfl) (Vec.sl (hw.holds 5 _ rfl)) (fun b hb => hw.apart 5 0 _ _ (by decide) rfl rfl b hb) (by simp [u64_lt]) (by simp; omega)).mono ?_
  rintro _ w1 ⟨rfl, s5, hO⟩
  refine (?_ : CL _ _ _ _ _ _ (Own w (o :: blkS sl) _)) w1 (hw.frame1 (i := 0) rfl hO)
  exact l_nil (ret0 rfl (fun w' hw => ⟨rfl, s5, by have h : Own w (o :: blkS sl) [Res.buf o TOut s5 (((((bs ++ numsB [x.seq]) ++ numsB ([x.retry].map fl)) ++ numsB ([x.lead].map u64)) ++ x.reply.enc) ++ numsB [u64 x.cap, u64 x.lent])] w' := hw.one 0 rfl; simpa [TldD.enc, List.append_assoc] using h⟩))

def tldKindV (cb : Nat) : Value := .agg #[.func (.func 113) #[] #[.pointer (some ⟨cb, 0, none⟩)], .func (.func 114) #[] #[.pointer (some ⟨cb, 0, none⟩)], .func (.func 116) #[] #[.pointer (some ⟨cb, 0, none⟩)]]
theorem tldKind_spec (w : World) : Rets Try.prog 63 #[] w fun v w' => ∃ cb, v = tldKindV cb ∧ Own w [] [Res.row cb 116 repliesC] w' := by
  refine fn_enter (args := []) Try.func63 rfl Try.ntmps63 rfl (Own.start w) ?_
  refine c_reg ?_
  refine l_new (v := .agg #[.nilFunc, .nilFunc, .nilFunc]) (by kernel_rfl) rfl (fun b0 => ?_)
  refine l_end ?_
  refine c_reg ?_
  refine l_call (by kernel_rfl) rfl rfl (fun w' hw => ?_)
  refine (replies_spec w').mono ?_
  rintro _ w1 ⟨rfl, hO⟩
  refine (?_ : CL _ _ _ _ _ _ (Own w [] _)) w1 (hw.frame0 hO)
  refine l_new (v := .agg #[.nilFunc, .nilFunc, .nilFunc]) (by kernel_rfl) rfl (fun b1 => ?_)
  refine l_stN (vs := repliesC) 1 rfl rfl rfl (by kernel_rfl) (by simp [repliesC, cell1]) (by simp [repliesC, Value.cells]) ?_
  refine l_end ?_
  refine c_reg ?_
  refine l_fn rfl rfl rfl ?_
  refine l_fn rfl rfl rfl ?_
  refine l_fn rfl rfl rfl ?_
  refine l_bld (cs := [.func (.func 113) #[] #[.pointer (some ⟨b1, 0, none⟩)], .func (.func 114) #[] #[.pointer (some ⟨b1, 0, none⟩)], .func (.func 116) #[] #[.pointer (some ⟨b1, 0, none⟩)]]) (z := [.nilFunc, .nilFunc, .nilFunc]) (pl := [(0, 1), (1, 1), (2, 1)]) (by kernel_rfl) rfl rfl ?_
  refine l_stN (vs := [.func (.func 113) #[] #[.pointer (some ⟨b1, 0, none⟩)], .func (.func 114) #[] #[.pointer (some ⟨b1, 0, none⟩)], .func (.func 116) #[] #[.pointer (some ⟨b1, 0, none⟩)]]) 0 rfl rfl rfl (by kernel_rfl) (by simp [cell1]) (by simp [Value.cells]) ?_
  refine l_end ?_
  exact c_ret (retc (cs := [.func (.func 113) #[] #[.pointer (some ⟨b1, 0, none⟩)], .func (.func 114) #[] #[.pointer (some ⟨b1, 0, none⟩)], .func (.func 116) #[] #[.pointer (some ⟨b1, 0, none⟩)]]) rfl rfl (by kernel_rfl) (Own.rowCells (i := 0) rfl) (fun w hw => ⟨b1, rfl, hw.one 1 rfl⟩))
theorem tldBytes_spec (x : TldD) (hx : x.wf) (cb : Nat) (w : World) (hc : Row w cb 116 repliesC) : Rets Try.prog 64 #[tldKindV cb, .agg (x.cells).toArray] w (EncPost (x.ok) (x.enc) w) := by
  have hcl : cb < w.heap.size := (Res.row cb 116 repliesC).lt w hc cb (by simp [Res.row])
  refine fn_enter (args := [tldKindV cb, .agg (x.cells).toArray]) Try.func64 rfl Try.ntmps64 rfl (Own.start w) ?_
  have hlen := TldD.enc_le hx
  refine c_reg ?_
  refine l_box rfl rfl (fun b2 => ?_)
  refine l_box rfl rfl (fun b3 => ?_)
  refine l_as rfl ?_
  refine l_as rfl ?_
  refine l_end ?_
  refine c_seq ?_
  refine c_reg ?_
  refine l_fld (o := 0) rfl (by kernel_rfl) rfl ?_
  refine l_ldo 0 rfl rfl rfl (by kernel_rfl) rfl ?_
  refine l_ldr (cs := x.cells) 1 rfl rfl (by kernel_rfl) rfl ?_
  refine l_callv (fst := []) (cap := [.pointer (some ⟨cb, 0, none⟩)]) rfl (by kernel_rfl) rfl rfl (fun w' hw => ?_)
  refine (tldSound_spec x cb w' (hw.old (Res.row cb 116 repliesC) hc (by simp))).mono ?_
  rintro _ w1 ⟨rfl, hO⟩
  refine (?_ : CL _ _ _ _ _ _ (Own w [] _)) w1 (hw.frame0 hO)
  refine l_notp rfl rfl ?_
  refine l_end ?_
  refine c_dec rfl (fun c1 => ?_) (fun c1 => ?_)
  ·
    refine c_reg ?_
    refine l_as rfl ?_
    refine l_as rfl ?_
    refine l_end ?_
    exact c_ret (ret2 (v := .slice none 0 0) rfl rfl rfl (fun w' hw => ⟨.slice none 0 0, 2, [], rfl, (own_nil hw.drop T8 1).vecSl (i := 0) rfl, fun h => (c1 h).elim, fun _ => ⟨rfl, rfl, rfl⟩⟩))
  ·
    refine c_skipC ?_
    refine c_reg ?_
    refine l_bld (z := [.slice none 0 0]) (pl := [(0, 1)]) (by kernel_rfl) rfl rfl ?_
    refine l_box rfl rfl (fun b13 => ?_)
    refine l_as rfl ?_
    refine l_end ?_
    refine c_reg ?_
    refine l_fld (o := 1) rfl (by kernel_rfl) rfl ?_
    refine l_ldo 0 rfl rfl rfl (by kernel_rfl) rfl ?_
    refine l_mv rfl ?_
    refine l_ldr (cs := x.cells) 1 rfl rfl (by kernel_rfl) rfl ?_
    refine l_callv (fst := []) (cap := [.pointer (some ⟨cb, 0, none⟩)]) rfl (by kernel_rfl) rfl rfl (fun w' hw => ?_)
    have hbuf : Own w [] [Res.buf b13 TOut (.slice none 0 0) []] w' := ((own_nil (hw.one 2 rfl) T8 1).vecSl (i := 1) rfl).joinBuf (i := 0) (j := 1) (by decide) rfl rfl
    have hfr : w.heap.size ≤ b13 := (hbuf.fresh 0 _ rfl b13 (by simp [Res.buf])).resolve_left (by simp)
    refine (tldWrite_spec x hx cb b13 (.slice none 0 0) [] w' (hw.old (Res.row cb 116 repliesC) hc (by simp)) (by simp [blkS]; omega) (hbuf.holds 0 _ rfl) ?_).mono ?_
    · have := hlen; simp; omega
    rintro _ w1 ⟨rfl, sl', hO⟩
    have h2 := (hbuf.frame1 (i := 0) rfl hO).splitBuf (i := 0) rfl
    refine (?_ : CL _ _ _ _ _ _ (Own w [] [Res.row b13 TOut [sl'], Res.sl sl' (x.enc).length ((x.enc).map vb)])) w1 h2
    refine l_end ?_
    refine c_reg ?_
    refine l_mv rfl ?_
    refine l_nck rfl rfl ?_
    refine l_fld (o := 0) rfl (by kernel_rfl) rfl ?_
    refine l_ldo 0 rfl rfl rfl (by kernel_rfl) rfl ?_
    refine l_as rfl ?_
    refine l_as rfl ?_
    refine l_end ?_
    exact c_ret (ret2 (v := sl') rfl rfl rfl (fun w' hw => ⟨sl', 0, x.enc, rfl, hw.one 1 rfl, fun _ => ⟨rfl, rfl⟩, fun h => (h (Decidable.not_not.1 c1)).elim⟩))
theorem tldMsg_spec (x : TldD) (hx : x.wf) (w : World) : Rets Try.prog 13 #[.agg (x.cells).toArray] w (EncPost (x.ok) (x.enc) w) := by
  refine fn_enter (args := [.agg (x.cells).toArray]) Try.func13 rfl Try.ntmps13 rfl (Own.start w) ?_
  refine c_reg ?_
  refine l_box rfl rfl (fun b1 => ?_)
  refine l_as rfl ?_
  refine l_as rfl ?_
  refine l_end ?_
  refine c_seq ?_
  refine c_held (fun w' => (∀ i u, (x.cells)[i]? = some u → w'.cell? ⟨b1, 0 + i, none⟩ = some u)) (by kernel_rfl) (fun w' hw => (fun (hw : Own w [] _ _) => Own.rowCells (cs := x.cells) (i := 0) rfl _ hw) hw.drawn) (fun w' hw => ?_)
  replace hw := hw.drawn
  have hS := Own.rowCells (cs := x.cells) (i := 0) rfl _ hw
  refine h_take 1 rfl (by kernel_rfl) (by kernel_rfl) (by kernel_rfl) (v_ldN (cs := x.cells) rfl (by kernel_rfl) (fun w h => h)) rfl hS ?_
  refine h_call 0 (by kernel_rfl) rfl (by kernel_rfl) rfl rfl ?_
  refine (tldKind_spec _).mono ?_
  rintro _ w1 ⟨cb, rfl, hO⟩
  replace hw := hw.frame0 hO
  replace hS := Own.rowCells (cs := x.cells) (i := 0) rfl _ hw
  refine ⟨hS, ?_⟩
  refine h_call 2 (by kernel_rfl) rfl (by kernel_rfl) rfl rfl ?_
  refine (tldBytes_spec x hx cb _ (hw.holds 1 _ rfl)).mono ?_
  rintro _ w1 ⟨sl, e, bs, rfl, hO, h1, h2⟩
  replace hw := hw.frame0 hO
  replace hS := Own.rowCells (cs := x.cells) (i := 0) rfl _ hw
  refine ⟨hS, ?_⟩
  refine h_take 3 rfl (by kernel_rfl) (by kernel_rfl) (by kernel_rfl) (v_ext (vs := [sl, .int .i64 e]) rfl rfl) rfl hS ?_
  refine h_take 4 rfl (by kernel_rfl) (by kernel_rfl) (by kernel_rfl) (v_ext (vs := [sl, .int .i64 e]) rfl rfl) rfl hS ?_
  refine h_take 5 rfl (by kernel_rfl) (by kernel_rfl) (by kernel_rfl) (v_as) rfl hS ?_
  refine h_take 6 rfl (by kernel_rfl) (by kernel_rfl) (by kernel_rfl) (v_as) rfl hS ?_
  refine h_done (by kernel_rfl) ?_
  refine (?_ : C _ _ _ _ _ _ _ (Own w [] _)) _ hw
  exact c_ret (ret2 rfl rfl rfl (fun w' hw => ⟨sl, e, bs, rfl, hw.one 2 rfl, h1, h2⟩))

theorem rrep_spec (x : RepD) (hx : x.wf) : RPut 66 [.agg x.cells.toArray] x.enc := by
  intro o v bs w hbuf hb
  have h0 : bs.length + (num x.session ++ (num x.seq ++ (num (u64 x.e) ++ (num x.lease ++ (num (u64 x.amount) ++ num (u64 x.until_)))))).length ≤ 10000000000 := by simpa [RepD.enc, numsB] using hb
  simp only [List.length_append] at h0
  refine fn_enter (args := [.pointer (some ⟨o, 0, none⟩), .agg x.cells.toArray]) Try.func66 rfl Try.ntmps66 rfl (show Own w ([o] ++ blkOf v) [Res.rbuf o v bs] w from Own.start1 hbuf) ?_
  refine c_reg ?_
  refine l_box rfl rfl (fun b3 => ?_)
  refine l_end ?_
  refine c_reg ?_
  refine l_mv rfl ?_
  refine l_fld (o := 0) rfl (by kernel_rfl) rfl ?_
  refine l_ldo 1 rfl rfl rfl (by kernel_rfl) rfl ?_
  refine l_call (by kernel_rfl) rfl rfl (fun w' hw => ?_)
  refine (rnum_spec x.session hx.session o v bs w' (hw.holds 0 _ rfl) (by omega)).mono ?_
  rintro _ w1 ⟨rfl, y1, hO⟩
  refine (?_ : CL _ _ _ _ _ _ (Own w ([o] ++ blkOf v) _)) w1 (hw.frame1 (i := 0) rfl hO)
  refine l_end ?_
  refine c_reg ?_
  refine l_mv rfl ?_
  refine l_fld (o := 1) rfl (by kernel_rfl) rfl ?_
  refine l_ldo 1 rfl rfl rfl (by kernel_rfl) rfl ?_
  refine l_call (by kernel_rfl) rfl rfl (fun w' hw => ?_)
  refine (rnum_spec x.seq hx.seq o y1 _ w' (hw.holds 0 _ rfl) (by simp; omega)).mono ?_
  rintro _ w1 ⟨rfl, y2, hO⟩
  refine (?_ : CL _ _ _ _ _ _ (Own w ([o] ++ blkOf v) _)) w1 (hw.frame1 (i := 0) rfl hO)
  refine l_end ?_
  refine c_reg ?_
  refine l_mv rfl ?_
  refine l_fld (o := 2) rfl (by kernel_rfl) rfl ?_
  refine l_ldo 1 rfl rfl rfl (by kernel_rfl) rfl ?_
  refine l_cvt (by kernel_rfl) rfl (wrap_u64 _) rfl ?_ (by kernel_rfl)
  refine l_call (by kernel_rfl) rfl rfl (fun w' hw => ?_)
  refine (rnum_spec (u64 x.e) (u64_lt _) o y2 _ w' (hw.holds 0 _ rfl) (by simp; omega)).mono ?_
  rintro _ w1 ⟨rfl, y3, hO⟩
  refine (?_ : CL _ _ _ _ _ _ (Own w ([o] ++ blkOf v) _)) w1 (hw.frame1 (i := 0) rfl hO)
  refine l_end ?_
  refine c_reg ?_
  refine l_mv rfl ?_
  refine l_fld (o := 3) rfl (by kernel_rfl) rfl ?_
  refine l_ldo 1 rfl rfl rfl (by kernel_rfl) rfl ?_
  refine l_call (by kernel_rfl) rfl rfl (fun w' hw => ?_)
  refine (rnum_spec x.lease hx.lease o y3 _ w' (hw.holds 0 _ rfl) (by simp; omega)).mono ?_
  rintro _ w1 ⟨rfl, y4, hO⟩
  refine (?_ : CL _ _ _ _ _ _ (Own w ([o] ++ blkOf v) _)) w1 (hw.frame1 (i := 0) rfl hO)
  refine l_end ?_
  refine c_reg ?_
  refine l_mv rfl ?_
  refine l_fld (o := 4) rfl (by kernel_rfl) rfl ?_
  refine l_ldo 1 rfl rfl rfl (by kernel_rfl) rfl ?_
  refine l_cvt (by kernel_rfl) rfl (wrap_u64 _) rfl ?_ (by kernel_rfl)
  refine l_call (by kernel_rfl) rfl rfl (fun w' hw => ?_)
  refine (rnum_spec (u64 x.amount) (u64_lt _) o y4 _ w' (hw.holds 0 _ rfl) (by simp; omega)).mono ?_
  rintro _ w1 ⟨rfl, y5, hO⟩
  refine (?_ : CL _ _ _ _ _ _ (Own w ([o] ++ blkOf v) _)) w1 (hw.frame1 (i := 0) rfl hO)
  refine l_end ?_
  refine c_last ?_
  refine l_mv rfl ?_
  refine l_fld (o := 5) rfl (by kernel_rfl) rfl ?_
  refine l_ldo 1 rfl rfl rfl (by kernel_rfl) rfl ?_
  refine l_cvt (by kernel_rfl) rfl (wrap_u64 _) rfl ?_ (by kernel_rfl)
  refine l_call (by kernel_rfl) rfl rfl (fun w' hw => ?_)
  refine (rnum_spec (u64 x.until_) (u64_lt _) o y5 _ w' (hw.holds 0 _ rfl) (by simp; omega)).mono ?_
  rintro _ w1 ⟨rfl, y6, hO⟩
  refine (?_ : CL _ _ _ _ _ _ (Own w ([o] ++ blkOf v) _)) w1 (hw.frame1 (i := 0) rfl hO)
  exact l_nil (ret0 rfl (fun w' hw => ⟨rfl, y6, by have h : Own w ([o] ++ blkOf v) [Res.rbuf o y6 ((((((bs ++ num x.session) ++ num x.seq) ++ num (u64 x.e)) ++ num x.lease) ++ num (u64 x.amount)) ++ num (u64 x.until_))] w' := hw.one 0 rfl; simpa [RepD.enc, numsB, List.append_assoc] using h⟩))
theorem rrepEnc_spec (x : RepD) (hx : x.wf) : REnc 19 (.agg x.cells.toArray) x.enc := by
  intro w
  have hlen := RepD.enc_le hx
  refine fn_enter (args := [.agg x.cells.toArray]) Try.func19 rfl Try.ntmps19 rfl (Own.start w) ?_
  refine c_reg ?_
  refine l_box rfl rfl (fun b1 => ?_)
  refine l_as rfl ?_
  refine l_end ?_
  refine c_reg ?_
  refine l_bld (z := [.slice none 0 0]) (pl := [(0, 1)]) (by kernel_rfl) rfl rfl ?_
  refine l_box rfl rfl (fun b5 => ?_)
  refine l_as rfl ?_
  refine l_end ?_
  refine c_reg ?_
  refine l_mv rfl ?_
  refine l_ldr (cs := x.cells) 0 rfl rfl (by kernel_rfl) rfl ?_
  refine l_call (by kernel_rfl) rfl rfl (fun w' hw => ?_)
  have hbuf : Own w [] [Res.rbuf b5 (.slice none 0 0) []] w' := (own_nil (hw.one 1 rfl) T8 1).joinBoth (i := 0) (j := 1) (by decide) rfl rfl
  refine (rrep_spec x hx b5 (.slice none 0 0) [] w' (hbuf.holds 0 _ rfl) (by simp; omega)).mono ?_
  rintro _ w1 ⟨rfl, y, hO⟩
  refine (?_ : CL _ _ _ _ _ _ (Own w [] [Res.row b5 TRO [y], bvec y x.enc])) w1 ((hbuf.frame1 (i := 0) rfl hO).splitBoth (i := 0) rfl)
  refine l_end ?_
  refine c_reg ?_
  refine l_mv rfl ?_
  refine l_nck rfl rfl ?_
  refine l_fld (o := 0) rfl (by kernel_rfl) rfl ?_
  refine l_ldo 0 rfl rfl rfl (by kernel_rfl) rfl ?_
  refine l_as rfl ?_
  refine l_end ?_
  exact c_ret (ret1 (v := y) rfl rfl (fun w' hw => (hw.vecSl (i := 1) rfl).one 1 rfl))

end Go.Proofs.Ytlkoekhjegaimaa
