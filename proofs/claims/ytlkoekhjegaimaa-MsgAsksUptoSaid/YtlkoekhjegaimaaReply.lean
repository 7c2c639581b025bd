/-
  THE WALKS OF msg.Reply: a reply's bytes.
-/
import Derived.Test.YtlkoekhjegaimaaNums
import Derived.Test.YtlkoekhjegaimaaFwB
set_option linter.unusedVariables false
set_option maxRecDepth 10000
namespace Go.Proofs.Ytlkoekhjegaimaa
open Go Go.Sc Go.Proofs

/-- A reply. -/
structure RepD where
  session : Nat
  seq : Nat
  e : Int
  lease : Nat
  amount : Int
  until_ : Int
  deriving DecidableEq
structure RepD.wf (r : RepD) : Prop where
  session : isU r.session
  seq : isU r.seq
  e : isI r.e
  lease : isU r.lease
  amount : isI r.amount
  until_ : isI r.until_
def RepD.cells (r : RepD) : List Value := [vu r.session, vu r.seq, .int .i64 r.e, vu r.lease, .int .i64 r.amount, .int .i64 r.until_]
def RepD.ok (r : RepD) : Prop := 0 ≤ r.e ∧ r.e ≤ 20
instance (r : RepD) : Decidable r.ok := inferInstanceAs (Decidable (_ ∧ _))
def RepD.enc (r : RepD) : List UInt8 := numsB [r.session, r.seq, u64 r.e, r.lease, u64 r.amount, u64 r.until_]
theorem RepD.enc_le {r : RepD} (h : r.wf) : r.enc.length ≤ 54 := by
  refine numsB_length (ns := [r.session, r.seq, u64 r.e, r.lease, u64 r.amount, u64 r.until_]) ?_
  have := h.session; have := h.seq; have := h.lease
  simp only [isU] at *
  simp [u64_lt, *]

/-- What comes of a value's bytes: the bytes, or the error. -/
def EncPost (ok : Prop) (enc : List UInt8) (w : World) : Value → World → Prop := fun v w' =>
  ∃ (sl : Value) (e : Int) (bs : List UInt8), v = .tuple #[sl, .int .i64 e] ∧ Own w [] [Res.sl sl bs.length (bs.map vb)] w' ∧ (ok → e = 0 ∧ bs = enc) ∧ (¬ ok → e = 2 ∧ sl = .slice none 0 0 ∧ bs = [])

theorem replies1_spec (r : RepD) (w : World) : Rets Try.prog 105 #[.agg r.cells.toArray] w fun v w' => v = .bool (decide r.ok) ∧ Own w [] [] w' := by
  refine fn_enter (args := [.agg r.cells.toArray]) Try.func105 rfl Try.ntmps105 rfl (Own.start w) ?_
  refine c_reg ?_
  refine l_box rfl rfl (fun b1 => ?_)
  refine l_as rfl ?_
  refine l_end ?_
  refine c_reg ?_
  refine l_fld (o := 2) rfl (by kernel_rfl) rfl ?_
  refine l_ldo 0 rfl rfl rfl (by kernel_rfl) rfl ?_
  refine l_geq rfl rfl rfl ?_
  refine l_mv rfl ?_
  refine l_band 3 3 [9, 8, 7] (r.e ≤ 20) rfl rfl rfl rfl rfl rfl trivial rfl (fun h1_3 => ?_) (fun g1_7 => ?_)
  · refine l_on rfl (gT h1_3) ?_
    refine l_fld (o := 2) rfl (by kernel_rfl) rfl ?_
    refine l_on rfl (gT h1_3) ?_
    refine l_ldo 0 rfl rfl rfl (by kernel_rfl) rfl ?_
    refine l_on rfl (gT h1_3) ?_
    refine l_leq rfl rfl rfl ?_
    exact l_nil (fun w hw => ⟨by repeat (first | exact Out.refl _ _ | refine Out.upd rfl ?_ | refine Out.msk rfl ?_), rfl, hw⟩)
  refine l_as rfl ?_
  refine l_end ?_
  exact c_ret (ret1 rfl rfl (fun w hw => ⟨rfl, hw.drop⟩))

theorem replies2_spec (r : RepD) (hr : r.wf) (o : Nat) (sl : Value) (bs : List UInt8) (w : World) (hbuf : (Res.buf o TOut sl bs).φ w) (hb : bs.length ≤ 10000000000) :
    Rets Try.prog 106 #[.pointer (some ⟨o, 0, none⟩), .agg r.cells.toArray] w fun v w' => v = .tuple #[] ∧ ∃ sl', Own w (o :: blkS sl) [Res.buf o TOut sl' (bs ++ r.enc)] w' := by
  refine fn_enter (args := [.pointer (some ⟨o, 0, none⟩), .agg r.cells.toArray]) Try.func106 rfl Try.ntmps106 rfl (Own.start1 hbuf) ?_
  refine c_reg ?_
  refine l_box rfl rfl (fun b3 => ?_)
  refine l_end ?_
  refine c_last ?_
  refine l_mv rfl ?_
  refine l_fld (o := 0) rfl (by kernel_rfl) rfl ?_
  refine l_ldo 1 rfl rfl rfl (by kernel_rfl) rfl ?_
  refine l_fld (o := 1) rfl (by kernel_rfl) rfl ?_
  refine l_ldo 1 rfl rfl rfl (by kernel_rfl) rfl ?_
  refine l_fld (o := 2) rfl (by kernel_rfl) rfl ?_
  refine l_ldo 1 rfl rfl rfl (by kernel_rfl) rfl ?_
  refine l_cvt (by kernel_rfl) rfl (wrap_u64 _) rfl ?_ (by kernel_rfl)
  refine l_fld (o := 3) rfl (by kernel_rfl) rfl ?_
  refine l_ldo 1 rfl rfl rfl (by kernel_rfl) rfl ?_
  refine l_fld (o := 4) rfl (by kernel_rfl) rfl ?_
  refine l_ldo 1 rfl rfl rfl (by kernel_rfl) rfl ?_
  refine l_cvt (by kernel_rfl) rfl (wrap_u64 _) rfl ?_ (by kernel_rfl)
  refine l_fld (o := 5) rfl (by kernel_rfl) rfl ?_
  refine l_ldo 1 rfl rfl rfl (by kernel_rfl) rfl ?_
  refine l_cvt (by kernel_rfl) rfl (wrap_u64 _) rfl ?_ (by kernel_rfl)
  refine l_bsl (e := 22) (sz := 1) (vs := [r.session, r.seq, u64 r.e, r.lease, u64 r.amount, u64 r.until_].map vu) (by kernel_rfl) rfl rfl (by simp [Value.cells, vu]) (by decide) rfl (fun b20 => ?_)
  refine l_call (by kernel_rfl) rfl rfl (fun w' hw => ?_)
  refine (nums_spec o sl bs _ [r.session, r.seq, u64 r.e, r.lease, u64 r.amount, u64 r.until_] w' (hw.holds 0 _ rfl) (Vec.sl (hw.holds 2 _ rfl)) (fun b hb => hw.apart 2 0 _ _ (by decide) rfl rfl b hb) ?_ (by simp; omega)).mono ?_
  · have := hr.session; have := hr.seq; have := hr.lease
    simp only [isU] at *
    simp [u64_lt, *]
  rintro _ w1 ⟨rfl, sl', hO⟩
  refine (?_ : CL _ _ _ _ _ _ (Own w (o :: blkS sl) _)) w1 (hw.frame1 (i := 0) rfl hO)
  exact l_nil (ret0 rfl (fun w' hw => ⟨rfl, sl', hw.one 0 rfl⟩))

def repliesV : Value := .agg #[.func (.func 105) #[] #[], .func (.func 106) #[] #[], .func (.func 107) #[] #[]]
theorem replies_spec (w : World) : Rets Try.prog 59 #[] w fun v w' => v = repliesV ∧ Own w [] [] w' := by
  refine fn_enter (args := []) Try.func59 rfl Try.ntmps59 rfl (Own.start w) ?_
  refine c_reg ?_
  refine l_new (v := .agg #[.nilFunc, .nilFunc, .nilFunc]) (by kernel_rfl) rfl (fun b0 => ?_)
  refine l_end ?_
  refine c_reg ?_
  refine l_bld (z := [.nilFunc, .nilFunc, .nilFunc]) (pl := [(0, 1), (1, 1), (2, 1)]) (by kernel_rfl) rfl rfl ?_
  refine l_stN (vs := [.func (.func 105) #[] #[], .func (.func 106) #[] #[], .func (.func 107) #[] #[]]) 0 rfl rfl rfl (by kernel_rfl) (by simp [cell1]) (by simp [Value.cells]) ?_
  refine l_end ?_
  exact c_ret (retc (cs := [.func (.func 105) #[] #[], .func (.func 106) #[] #[], .func (.func 107) #[] #[]]) rfl rfl (by kernel_rfl) (Own.rowCells (i := 0) rfl) (fun w hw => ⟨rfl, hw.drop⟩))

theorem repBytes_spec (r : RepD) (hr : r.wf) (w : World) : Rets Try.prog 60 #[repliesV, .agg r.cells.toArray] w (EncPost r.ok r.enc w) := by
  refine fn_enter (args := [repliesV, .agg r.cells.toArray]) Try.func60 rfl Try.ntmps60 rfl (Own.start w) ?_
  refine c_reg ?_
  refine l_box rfl rfl (fun b2 => ?_)
  refine l_box rfl rfl (fun b3 => ?_)
  refine l_as rfl ?_
  refine l_as rfl ?_
  refine l_end ?_
  refine c_seq ?_
  refine c_reg ?_
  refine l_fld (o := 0) rfl (by kernel_rfl) rfl ?_
  refine l_ldo 0 rfl rfl rfl (by kernel_rfl) rfl ?_
  refine l_ldr 1 (cs := r.cells) rfl rfl (by kernel_rfl) rfl ?_
  refine l_callv (fst := []) (cap := []) rfl (by kernel_rfl) rfl rfl (fun w' hw => ?_)
  refine (replies1_spec r w').mono ?_
  rintro _ w1 ⟨rfl, hO⟩
  refine (?_ : CL _ _ _ _ _ _ (Own w [] _)) w1 (hw.frame0 hO)
  refine l_notp rfl rfl ?_
  refine l_end ?_
  refine c_dec rfl (fun c1 => ?_) (fun c1 => ?_)
  · refine c_reg ?_
    refine l_as rfl ?_
    refine l_as rfl ?_
    refine l_end ?_
    refine c_ret (ret2 rfl rfl rfl (fun w hw => ⟨.slice none 0 0, 2, [], rfl, ?_, fun h => (c1 h).elim, fun _ => ⟨rfl, rfl, rfl⟩⟩))
    exact (own_nil hw.drop T8 1).vecSl (i := 0) rfl
  · refine c_skipC ?_
    refine c_reg ?_
    refine l_bld (z := [.slice none 0 0]) (pl := [(0, 1)]) (by kernel_rfl) rfl rfl ?_
    refine l_box rfl rfl (fun b13 => ?_)
    refine l_as rfl ?_
    refine l_end ?_
    refine c_reg ?_
    refine l_fld (o := 1) rfl (by kernel_rfl) rfl ?_
    refine l_ldo 0 rfl rfl rfl (by kernel_rfl) rfl ?_
    refine l_mv rfl ?_
    refine l_ldr 1 (cs := r.cells) rfl rfl (by kernel_rfl) rfl ?_
    refine l_callv (fst := []) (cap := []) rfl (by kernel_rfl) rfl rfl (fun w' hw => ?_)
    have hbuf : Own w [] [Res.buf b13 TOut (.slice none 0 0) []] w' := ((own_nil (hw.one 2 rfl) T8 1).vecSl (i := 1) rfl).joinBuf (i := 0) (j := 1) (by decide) rfl rfl
    refine (replies2_spec r hr b13 (.slice none 0 0) [] w' (hbuf.holds 0 _ rfl) (by simp)).mono ?_
    rintro _ w1 ⟨rfl, sl', hO⟩
    have h2 := (hbuf.frame1 (i := 0) rfl hO).splitBuf (i := 0) rfl
    refine (?_ : CL _ _ _ _ _ _ (Own w [] [Res.row b13 TOut [sl'], Res.sl sl' r.enc.length (r.enc.map vb)])) w1 h2
    refine l_end ?_
    refine c_reg ?_
    refine l_mv rfl ?_
    refine l_nck rfl rfl ?_
    refine l_fld (o := 0) rfl (by kernel_rfl) rfl ?_
    refine l_ldo 0 rfl rfl rfl (by kernel_rfl) rfl ?_
    refine l_as rfl ?_
    refine l_as rfl ?_
    refine l_end ?_
    exact c_ret (ret2 (v := sl') rfl rfl rfl (fun w hw => ⟨sl', 0, r.enc, rfl, hw.one 1 rfl, fun _ => ⟨rfl, rfl⟩, fun h => (h (Decidable.not_not.1 c1)).elim⟩))

theorem msgReply_spec (r : RepD) (hr : r.wf) (w : World) : Rets Try.prog 11 #[.agg r.cells.toArray] w (EncPost r.ok r.enc w) := by
  refine fn_enter (args := [.agg r.cells.toArray]) Try.func11 rfl Try.ntmps11 rfl (Own.start w) ?_
  refine c_reg ?_
  refine l_box rfl rfl (fun b1 => ?_)
  refine l_as rfl ?_
  refine l_as rfl ?_
  refine l_end ?_
  refine c_seq ?_
  refine c_held (fun w => ∀ i u, r.cells[i]? = some u → w.cell? ⟨b1, 0 + i, none⟩ = some u) (by kernel_rfl) (fun w hw => Own.rowCells (i := 0) rfl _ hw.drawn) (fun w' hw => ?_)
  replace hw := hw.drawn
  have hS := Own.rowCells (i := 0) rfl _ hw
  refine h_take 1 rfl (by kernel_rfl) (by kernel_rfl) (by kernel_rfl) (v_ldN (cs := r.cells) rfl (by kernel_rfl) (fun w h => h)) rfl hS ?_
  refine h_call 0 (by kernel_rfl) rfl (by kernel_rfl) rfl rfl ?_
  refine (replies_spec _).mono ?_
  rintro _ w1 ⟨rfl, hO⟩
  replace hw := hw.frame0 hO
  have hS := Own.rowCells (i := 0) rfl _ hw
  refine ⟨hS, ?_⟩
  refine h_call 2 (by kernel_rfl) rfl (by kernel_rfl) rfl rfl ?_
  refine (repBytes_spec r hr w1).mono ?_
  rintro _ w2 ⟨sl, e, bs, rfl, hO, h1, h2⟩
  replace hw := hw.frame0 hO
  have hS := Own.rowCells (i := 0) rfl _ hw
  refine ⟨hS, ?_⟩
  refine h_take 3 rfl (by kernel_rfl) (by kernel_rfl) (by kernel_rfl) (v_ext (vs := [sl, .int .i64 e]) rfl rfl) rfl hS ?_
  refine h_take 4 rfl (by kernel_rfl) (by kernel_rfl) (by kernel_rfl) (v_ext (vs := [sl, .int .i64 e]) rfl rfl) rfl hS ?_
  refine h_take 5 rfl (by kernel_rfl) (by kernel_rfl) (by kernel_rfl) (v_as) rfl hS ?_
  refine h_take 6 rfl (by kernel_rfl) (by kernel_rfl) (by kernel_rfl) (v_as) rfl hS ?_
  refine h_done (by kernel_rfl) ?_
  refine (?_ : C _ _ _ _ _ _ _ (Own w [] _)) w2 hw
  exact c_ret (ret2 (v := sl) rfl rfl rfl (fun w hw => ⟨sl, e, bs, rfl, hw.one 1 rfl, h1, h2⟩))

end Go.Proofs.Ytlkoekhjegaimaa
