/-
  THE WALKS OF hards, of the laws' answers and fits, and of MsgAsks.
-/
import Derived.Test.YtlkoekhjegaimaaAsk
set_option linter.unusedVariables false
set_option maxRecDepth 10000
namespace Go.Proofs.Ytlkoekhjegaimaa
open Go Go.Sc Go.Proofs

structure HrdD where
  term : Nat
  vote : Int
structure HrdD.wf (x : HrdD) : Prop where
  term : isU x.term
  vote : isI x.vote
def HrdD.cells (x : HrdD) : List Value := [vu x.term, .int .i64 x.vote]
def HrdD.ok (x : HrdD) : Prop := 0 ≤ x.vote ∧ x.vote ≤ 16
instance (x : HrdD) : Decidable x.ok := inferInstanceAs (Decidable (_ ∧ _))
def HrdD.enc (x : HrdD) : List UInt8 := numsB [x.term, u64 x.vote]
theorem HrdD.enc_le {x : HrdD} (h : x.wf) : x.enc.length ≤ 18 := by
  have := numsB_length (ns := [x.term, u64 x.vote]) (by have := h.term; simp only [isU] at *; simp [u64_lt, *])
  simpa [HrdD.enc] using this
theorem hrdSound_spec (x : HrdD) (w : World) : Rets Try.prog 134 #[.agg x.cells.toArray] w fun v w' => v = .bool (decide x.ok) ∧ Own w [] [] w' := by
  refine fn_enter (args := [.agg x.cells.toArray]) Try.func134 rfl Try.ntmps134 rfl (Own.start w) ?_
  refine c_reg ?_
  refine l_box rfl rfl (fun b1 => ?_)
  refine l_as rfl ?_
  refine l_end ?_
  refine c_reg ?_
  refine l_fld (o := 1) rfl (by kernel_rfl) rfl ?_
  refine l_ldo 0 rfl rfl rfl (by kernel_rfl) rfl ?_
  refine l_geq rfl rfl rfl ?_
  refine l_mv rfl ?_
  refine l_band 3 3 [9, 8, 7] ((x.vote ≤ 16)) rfl rfl rfl rfl rfl rfl trivial rfl (fun h1_3 => ?_) (fun g1_7 => ?_)
  ·
    refine l_on rfl (gT h1_3) ?_
    refine l_fld (o := 1) rfl (by kernel_rfl) rfl ?_
    refine l_on rfl (gT h1_3) ?_
    refine l_ldo 0 rfl rfl rfl (by kernel_rfl) rfl ?_
    refine l_on rfl (gT h1_3) ?_
    refine l_leq rfl rfl rfl ?_
    exact l_nil (fun w' hw => ⟨(by repeat (first | exact Out.refl _ _ | refine Out.upd rfl ?_ | refine Out.msk rfl ?_)), rfl, hw⟩)
  refine l_as rfl ?_
  refine l_end ?_
  exact c_ret (ret1 rfl rfl (fun w' hw => ⟨rfl, hw.drop⟩))
theorem hrdWrite_spec (x : HrdD) (hx : x.wf) : PPut 135 [.agg x.cells.toArray] x.enc := by
  intro o sl bs w hbuf hb
  refine fn_enter (args := [.pointer (some ⟨o, 0, none⟩), .agg x.cells.toArray]) Try.func135 rfl Try.ntmps135 rfl (show Own w (o :: blkS sl) [Res.buf o TOut sl bs] w from Own.start1 hbuf) ?_
  refine c_reg ?_
  refine l_box rfl rfl (fun b3 => ?_)
  refine l_end ?_
  refine c_last ?_
  refine l_mv rfl ?_
  refine l_fld (o := 0) rfl (by kernel_rfl) rfl ?_
  refine l_ldo 1 rfl rfl rfl (by kernel_rfl) rfl ?_
  refine l_fld (o := 1) rfl (by kernel_rfl) rfl ?_
  refine l_ldo 1 rfl rfl rfl (by kernel_rfl) rfl ?_
  refine l_cvt (by kernel_rfl) rfl (wrap_u64 _) rfl ?_ (by kernel_rfl)
  refine l_bsl (e := 22) (sz := 1) (vs := [.int .u64 x.term, .int .u64 (u64 x.vote : Nat)]) (by kernel_rfl) rfl rfl (by simp [Value.cells]) (by decide) rfl (fun b10 => ?_)
  refine l_call (by kernel_rfl) rfl rfl (fun w' hw => ?_)
  refine (nums_spec o sl bs _ [x.term, u64 x.vote] w' (hw.holds 0 _ rfl) (Vec.sl (hw.holds 2 _ rfl)) (fun b hb => hw.apart 2 0 _ _ (by decide) rfl rfl b hb) (by have := hx.term; simp only [isU] at *; simp [u64_lt, *]) (by simp; omega)).mono ?_
  rintro _ w1 ⟨rfl, s1, hO⟩
  refine (?_ : CL _ _ _ _ _ _ (Own w (o :: blkS sl) _)) w1 (hw.frame1 (i := 0) rfl hO)
  exact l_nil (ret0 rfl (fun w' hw => ⟨rfl, s1, hw.one 0 rfl⟩))

def hrdKindV : Value := .agg #[.func (.func 134) #[] #[], .func (.func 135) #[] #[], .func (.func 136) #[] #[]]
theorem hrdKind_spec (w : World) : Rets Try.prog 76 #[] w fun v w' => v = hrdKindV ∧ Own w [] [] w' := by
  refine fn_enter (args := []) Try.func76 rfl Try.ntmps76 rfl (Own.start w) ?_
  refine c_reg ?_
  refine l_new (v := .agg #[.nilFunc, .nilFunc, .nilFunc]) (by kernel_rfl) rfl (fun b0 => ?_)
  refine l_end ?_
  refine c_reg ?_
  refine l_bld (cs := [.func (.func 134) #[] #[], .func (.func 135) #[] #[], .func (.func 136) #[] #[]]) (z := [.nilFunc, .nilFunc, .nilFunc]) (pl := [(0, 1), (1, 1), (2, 1)]) (by kernel_rfl) rfl rfl ?_
  refine l_stN (vs := [.func (.func 134) #[] #[], .func (.func 135) #[] #[], .func (.func 136) #[] #[]]) 0 rfl rfl rfl (by kernel_rfl) (by simp [cell1]) (by simp [Value.cells]) ?_
  refine l_end ?_
  exact c_ret (retc (cs := [.func (.func 134) #[] #[], .func (.func 135) #[] #[], .func (.func 136) #[] #[]]) rfl rfl (by kernel_rfl) (Own.rowCells (i := 0) rfl) (fun w hw => ⟨rfl, hw.drop⟩))
theorem hrdBytes_spec (x : HrdD) (hx : x.wf) (w : World) : Rets Try.prog 77 #[hrdKindV, .agg (x.cells).toArray] w (EncPost (x.ok) (x.enc) w) := by
  refine fn_enter (args := [hrdKindV, .agg (x.cells).toArray]) Try.func77 rfl Try.ntmps77 rfl (Own.start w) ?_
  have hlen := HrdD.enc_le hx
  refine c_reg ?_
  refine l_box rfl rfl (fun b2 => ?_)
  refine l_box rfl rfl (fun b3 => ?_)
  refine l_as rfl ?_
  refine l_as rfl ?_
  refine l_end ?_
  refine c_seq ?_
  refine c_reg ?_
  refine l_fld (o := 0) rfl (by kernel_rfl) rfl ?_
  refine l_ldo 0 rfl rfl rfl (by kernel_rfl) rfl ?_
  refine l_ldr (cs := x.cells) 1 rfl rfl (by kernel_rfl) rfl ?_
  refine l_callv (fst := []) (cap := []) rfl (by kernel_rfl) rfl rfl (fun w' hw => ?_)
  refine (hrdSound_spec x w').mono ?_
  rintro _ w1 ⟨rfl, hO⟩
  refine (?_ : CL _ _ _ _ _ _ (Own w [] _)) w1 (hw.frame0 hO)
  refine l_notp rfl rfl ?_
  refine l_end ?_
  refine c_dec rfl (fun c1 => ?_) (fun c1 => ?_)
  ·
    refine c_reg ?_
    refine l_as rfl ?_
    refine l_as rfl ?_
    refine l_end ?_
    exact c_ret (ret2 (v := .slice none 0 0) rfl rfl rfl (fun w' hw => ⟨.slice none 0 0, 2, [], rfl, (own_nil hw.drop T8 1).vecSl (i := 0) rfl, fun h => (c1 h).elim, fun _ => ⟨rfl, rfl, rfl⟩⟩))
  ·
    refine c_skipC ?_
    refine c_reg ?_
    refine l_bld (z := [.slice none 0 0]) (pl := [(0, 1)]) (by kernel_rfl) rfl rfl ?_
    refine l_box rfl rfl (fun b13 => ?_)
    refine l_as rfl ?_
    refine l_end ?_
    refine c_reg ?_
    refine l_fld (o := 1) rfl (by kernel_rfl) rfl ?_
    refine l_ldo 0 rfl rfl rfl (by kernel_rfl) rfl ?_
    refine l_mv rfl ?_
    refine l_ldr (cs := x.cells) 1 rfl rfl (by kernel_rfl) rfl ?_
    refine l_callv (fst := []) (cap := []) rfl (by kernel_rfl) rfl rfl (fun w' hw => ?_)
    have hbuf : Own w [] [Res.buf b13 TOut (.slice none 0 0) []] w' := ((own_nil (hw.one 2 rfl) T8 1).vecSl (i := 1) rfl).joinBuf (i := 0) (j := 1) (by decide) rfl rfl
    refine (hrdWrite_spec x hx b13 (.slice none 0 0) [] w' (hbuf.holds 0 _ rfl) ?_).mono ?_
    · have := hlen; simp; omega
    rintro _ w1 ⟨rfl, sl', hO⟩
    have h2 := (hbuf.frame1 (i := 0) rfl hO).splitBuf (i := 0) rfl
    refine (?_ : CL _ _ _ _ _ _ (Own w [] [Res.row b13 TOut [sl'], Res.sl sl' (x.enc).length ((x.enc).map vb)])) w1 h2
    refine l_end ?_
    refine c_reg ?_
    refine l_mv rfl ?_
    refine l_nck rfl rfl ?_
    refine l_fld (o := 0) rfl (by kernel_rfl) rfl ?_
    refine l_ldo 0 rfl rfl rfl (by kernel_rfl) rfl ?_
    refine l_as rfl ?_
    refine l_as rfl ?_
    refine l_end ?_
    exact c_ret (ret2 (v := sl') rfl rfl rfl (fun w' hw => ⟨sl', 0, x.enc, rfl, hw.one 1 rfl, fun _ => ⟨rfl, rfl⟩, fun h => (h (Decidable.not_not.1 c1)).elim⟩))
theorem hrdMsg_spec (x : HrdD) (hx : x.wf) (w : World) : Rets Try.prog 30 #[.agg (x.cells).toArray] w (EncPost (x.ok) (x.enc) w) := by
  refine fn_enter (args := [.agg (x.cells).toArray]) Try.func30 rfl Try.ntmps30 rfl (Own.start w) ?_
  refine c_reg ?_
  refine l_box rfl rfl (fun b1 => ?_)
  refine l_as rfl ?_
  refine l_as rfl ?_
  refine l_end ?_
  refine c_seq ?_
  refine c_held (fun w' => (∀ i u, (x.cells)[i]? = some u → w'.cell? ⟨b1, 0 + i, none⟩ = some u)) (by kernel_rfl) (fun w' hw => (fun (hw : Own w [] _ _) => Own.rowCells (cs := x.cells) (i := 0) rfl _ hw) hw.drawn) (fun w' hw => ?_)
  replace hw := hw.drawn
  have hS := Own.rowCells (cs := x.cells) (i := 0) rfl _ hw
  refine h_take 1 rfl (by kernel_rfl) (by kernel_rfl) (by kernel_rfl) (v_ldN (cs := x.cells) rfl (by kernel_rfl) (fun w h => h)) rfl hS ?_
  refine h_call 0 (by kernel_rfl) rfl (by kernel_rfl) rfl rfl ?_
  refine (hrdKind_spec _).mono ?_
  rintro _ w1 ⟨rfl, hO⟩
  replace hw := hw.frame0 hO
  replace hS := Own.rowCells (cs := x.cells) (i := 0) rfl _ hw
  refine ⟨hS, ?_⟩
  refine h_call 2 (by kernel_rfl) rfl (by kernel_rfl) rfl rfl ?_
  refine (hrdBytes_spec x hx _).mono ?_
  rintro _ w1 ⟨sl, e, bs, rfl, hO, h1, h2⟩
  replace hw := hw.frame0 hO
  replace hS := Own.rowCells (cs := x.cells) (i := 0) rfl _ hw
  refine ⟨hS, ?_⟩
  refine h_take 3 rfl (by kernel_rfl) (by kernel_rfl) (by kernel_rfl) (v_ext (vs := [sl, .int .i64 e]) rfl rfl) rfl hS ?_
  refine h_take 4 rfl (by kernel_rfl) (by kernel_rfl) (by kernel_rfl) (v_ext (vs := [sl, .int .i64 e]) rfl rfl) rfl hS ?_
  refine h_take 5 rfl (by kernel_rfl) (by kernel_rfl) (by kernel_rfl) (v_as) rfl hS ?_
  refine h_take 6 rfl (by kernel_rfl) (by kernel_rfl) (by kernel_rfl) (v_as) rfl hS ?_
  refine h_done (by kernel_rfl) ?_
  refine (?_ : C _ _ _ _ _ _ _ (Own w [] _)) _ hw
  exact c_ret (ret2 rfl rfl rfl (fun w' hw => ⟨sl, e, bs, rfl, hw.one 1 rfl, h1, h2⟩))

def hrdA : HrdD := ⟨5, 2⟩
theorem hrdA_enc : hrdA.enc = [1, 5, 1, 2] := by decide +kernel
theorem answers_spec (w : World) : Rets Try.prog 14 #[] w fun v w' => v = .bool true ∧ Own w [] [] w' := by
  refine fn_enter (args := []) Try.func14 rfl Try.ntmps14 rfl (Own.start w) ?_
  refine c_reg ?_
  refine l_as rfl ?_
  refine l_end ?_
  refine c_reg ?_
  refine l_bld (cs := hrdA.cells) (z := [.int .u64 0, .int .i64 0]) (pl := [(0, 1), (1, 1)]) (by kernel_rfl) rfl rfl ?_
  refine l_call (by kernel_rfl) rfl rfl (fun w' hw => ?_)
  refine (hrdMsg_spec hrdA (by constructor <;> simp [isU, isI, hrdA]) w').mono ?_
  rintro _ w1 ⟨sl, e, bs, rfl, hO, h1, h2⟩
  obtain ⟨rfl, rfl⟩ := h1 (by decide)
  refine (?_ : CL _ _ _ _ _ _ (Own w [] _)) w1 (hw.frame0 hO)
  refine l_mv rfl ?_
  refine l_ext (vs := [sl, .int .i64 0]) rfl rfl rfl ?_
  refine l_ext (vs := [sl, .int .i64 0]) rfl rfl rfl ?_
  refine l_as rfl ?_
  refine l_as rfl ?_
  refine l_end ?_
  refine c_reg ?_
  refine l_mv rfl ?_
  refine l_eq rfl rfl rfl ?_
  refine l_mv rfl ?_
  refine l_on rfl (rfl) ?_
  refine l_mv rfl ?_
  refine l_on rfl (rfl) ?_
  refine l_b2s (by kernel_rfl) (by kernel_rfl) rfl (bs := hrdA.enc) (fun w' hw' => hw'.holds 0 _ rfl) rfl ?_
  refine l_on rfl (rfl) ?_
  refine l_seq rfl rfl rfl ?_
  refine l_pick rfl rfl ?_
  refine l_as rfl ?_
  refine l_end ?_
  exact c_ret (ret1 (v := .bool (decide ((⟨hrdA.enc.toArray⟩ : ByteArray) = ⟨#[1, 5, 1, 2]⟩))) rfl rfl (fun w' hw => ⟨by rw [hrdA_enc]; rfl, hw.drop⟩))

/-- What the law's 'fits' is told of a value's bytes. -/
theorem fits_spec (slv wantv : Value) (e : Int) (ok : Prop) [Decidable ok] (bs ws : List UInt8) (h1 : ok → e = 0 ∧ bs = ws) (h2 : ¬ ok → e = 2 ∧ bs = []) (w : World) (hs : BSl w slv bs) (hw' : BSl w wantv ws) :
    Rets Try.prog 15 #[slv, .int .i64 e, .bool (decide ok), wantv] w fun v w' => v = .bool true ∧ Own w [] [] w' := by
  obtain ⟨a, cap, rfl, -, -, -⟩ := Sl.shape hs
  refine fn_enter (args := [.slice a bs.length cap, .int .i64 e, .bool (decide ok), wantv]) Try.func15 rfl Try.ntmps15 rfl (Own.start w) ?_
  refine c_reg ?_
  refine l_as rfl ?_
  refine l_end ?_
  refine c_seq ?_
  refine c_reg ?_
  refine l_mv rfl ?_
  refine l_notp rfl rfl ?_
  refine l_end ?_
  refine c_dec rfl (fun c1 => ?_) (fun c1 => ?_)
  ·
    obtain ⟨rfl, rfl⟩ := h2 c1
    refine c_reg ?_
    refine l_mv rfl ?_
    refine l_eq rfl rfl rfl ?_
    refine l_mv rfl ?_
    refine l_on rfl (rfl) ?_
    refine l_mv rfl ?_
    refine l_on rfl (rfl) ?_
    refine l_len (by kernel_rfl) rfl rfl ?_
    refine l_on rfl (rfl) ?_
    refine l_eq rfl rfl rfl ?_
    refine l_pick rfl rfl ?_
    refine l_as rfl ?_
    refine l_end ?_
    exact c_ret (ret1 (v := .bool true) rfl rfl (fun w' hw => ⟨rfl, hw.drop⟩))
  ·
    obtain ⟨rfl, rfl⟩ := h1 (Decidable.not_not.1 c1)
    refine c_skipC ?_
    refine c_reg ?_
    refine l_mv rfl ?_
    refine l_eq rfl rfl rfl ?_
    refine l_mv rfl ?_
    refine l_on rfl (rfl) ?_
    refine l_mv rfl ?_
    refine l_on rfl (rfl) ?_
    refine l_b2s (by kernel_rfl) (by kernel_rfl) rfl (bs := bs) (fun w2 hw2 => hw2.old (Res.sl _ bs.length (bs.map vb)) hs (by simp)) rfl ?_
    refine l_on rfl (rfl) ?_
    refine l_mv rfl ?_
    refine l_on rfl (rfl) ?_
    refine l_b2s (by kernel_rfl) (by kernel_rfl) rfl (bs := bs) (fun w2 hw2 => hw2.old (Res.sl _ bs.length (bs.map vb)) hw' (by simp)) rfl ?_
    refine l_on rfl (rfl) ?_
    refine l_seq rfl rfl rfl ?_
    refine l_pick rfl rfl ?_
    refine l_as rfl ?_
    refine l_end ?_
    exact c_ret (ret1 (v := .bool (decide ((⟨bs.toArray⟩ : ByteArray) = ⟨bs.toArray⟩))) rfl rfl (fun w' hw => ⟨by simp, hw.drop⟩))

set_option maxHeartbeats 2000000 in
theorem msgAsks_spec (c : CmdD) (r : RepD) (a : AskD) (t : TldD) (hc : c.wf) (hr : r.wf) (ha : a.wf) (ht : t.wf) (w : World) :
    Rets Try.prog 3 #[.agg c.cells.toArray, .agg r.cells.toArray, .agg a.cells.toArray, .agg t.cells.toArray] w fun v w' => v = .bool true ∧ Own w [] [] w' := by
  refine fn_enter (args := [.agg c.cells.toArray, .agg r.cells.toArray, .agg a.cells.toArray, .agg t.cells.toArray]) Try.func3 rfl Try.ntmps3 rfl (Own.start w) ?_
  refine c_reg ?_
  refine l_box rfl rfl (fun b4 => ?_)
  refine l_box rfl rfl (fun b5 => ?_)
  refine l_box rfl rfl (fun b6 => ?_)
  refine l_box rfl rfl (fun b7 => ?_)
  refine l_as rfl ?_
  refine l_end ?_
  refine c_reg ?_
  refine l_ldr (cs := c.cells) 0 rfl rfl (by kernel_rfl) rfl ?_
  refine l_call (by kernel_rfl) rfl rfl (fun w' hw => ?_)
  refine (cmdMsg_spec c hc w').mono ?_
  rintro _ w1 ⟨s1, e1, z1, rfl, hO, g1, k1⟩
  refine (?_ : CL _ _ _ _ _ _ (Own w [] _)) w1 (hw.frame0 hO)
  refine l_mv rfl ?_
  refine l_ext (vs := [s1, .int .i64 e1]) rfl rfl rfl ?_
  refine l_ext (vs := [s1, .int .i64 e1]) rfl rfl rfl ?_
  refine l_as rfl ?_
  refine l_as rfl ?_
  refine l_end ?_
  refine c_reg ?_
  refine l_ldr (cs := r.cells) 1 rfl rfl (by kernel_rfl) rfl ?_
  refine l_call (by kernel_rfl) rfl rfl (fun w' hw => ?_)
  refine (msgReply_spec r hr w').mono ?_
  rintro _ w1 ⟨s2, e2, z2, rfl, hO, g2, k2⟩
  refine (?_ : CL _ _ _ _ _ _ (Own w [] _)) w1 (hw.frame0 hO)
  refine l_mv rfl ?_
  refine l_ext (vs := [s2, .int .i64 e2]) rfl rfl rfl ?_
  refine l_ext (vs := [s2, .int .i64 e2]) rfl rfl rfl ?_
  refine l_as rfl ?_
  refine l_as rfl ?_
  refine l_end ?_
  refine c_reg ?_
  refine l_ldr (cs := a.cells) 2 rfl rfl (by kernel_rfl) rfl ?_
  refine l_call (by kernel_rfl) rfl rfl (fun w' hw => ?_)
  refine (askMsg_spec a ha w').mono ?_
  rintro _ w1 ⟨s3, e3, z3, rfl, hO, g3, k3⟩
  refine (?_ : CL _ _ _ _ _ _ (Own w [] _)) w1 (hw.frame0 hO)
  refine l_mv rfl ?_
  refine l_ext (vs := [s3, .int .i64 e3]) rfl rfl rfl ?_
  refine l_ext (vs := [s3, .int .i64 e3]) rfl rfl rfl ?_
  refine l_as rfl ?_
  refine l_as rfl ?_
  refine l_end ?_
  refine c_cut3 (fun (s4 : Value) (e4 : Int) (z4 : List UInt8) => [(4, .pointer (some ⟨b4, 0, none⟩)), (5, .pointer (some ⟨b5, 0, none⟩)), (6, .pointer (some ⟨b6, 0, none⟩)), (7, .pointer (some ⟨b7, 0, none⟩)), (9, s1), (10, .int .i64 e1), (11, s2), (12, .int .i64 e2), (13, s3), (14, .int .i64 e3), (15, s4), (16, .int .i64 e4)]) (fun (s4 : Value) (e4 : Int) (z4 : List UInt8) => (t.ok → e4 = 0 ∧ z4 = t.enc) ∧ (¬ t.ok → e4 = 2 ∧ s4 = .slice none 0 0 ∧ z4 = [])) (fun (s4 : Value) (e4 : Int) (z4 : List UInt8) => [Res.row b4 24 c.cells, Res.row b5 27 r.cells, Res.row b6 29 a.cells, Res.row b7 31 t.cells, Res.sl s1 z1.length (z1.map vb), Res.sl s2 z2.length (z2.map vb), Res.sl s3 z3.length (z3.map vb), Res.sl s4 z4.length (z4.map vb)]) ?_ (fun s4 e4 z4 g hΦ => ?_)
  ·
    refine c_last ?_
    refine l_ldr (cs := t.cells) 3 rfl rfl (by kernel_rfl) rfl ?_
    refine l_call (by kernel_rfl) rfl rfl (fun w' hw => ?_)
    refine (tldMsg_spec t ht w').mono ?_
    rintro _ w1 ⟨s4, e4, z4, rfl, hO, g4, k4⟩
    refine (?_ : CL _ _ _ _ _ _ (Own w [] _)) w1 (hw.frame0 hO)
    refine l_mv rfl ?_
    refine l_ext (vs := [s4, .int .i64 e4]) rfl rfl rfl ?_
    refine l_ext (vs := [s4, .int .i64 e4]) rfl rfl rfl ?_
    refine l_as rfl ?_
    refine l_as rfl ?_
    exact l_nil (fun w' hw => ⟨s4, e4, z4, ⟨rfl, rfl, rfl, rfl, rfl, rfl, rfl, rfl, rfl, rfl, rfl, rfl, trivial⟩, ⟨g4, k4⟩, hw⟩)
  obtain ⟨g4, k4⟩ := hΦ
  refine c_seq ?_
  refine c_held (fun w' => (∀ i u, c.cells[i]? = some u → w'.cell? ⟨b4, 0 + i, none⟩ = some u) ∧ (∀ i u, r.cells[i]? = some u → w'.cell? ⟨b5, 0 + i, none⟩ = some u) ∧ (∀ i u, a.cells[i]? = some u → w'.cell? ⟨b6, 0 + i, none⟩ = some u) ∧ (∀ i u, t.cells[i]? = some u → w'.cell? ⟨b7, 0 + i, none⟩ = some u)) (by kernel_rfl) (fun w' hw => (fun (hw : Own w [] _ _) => And.intro (Own.rowCells (cs := c.cells) (i := 0) rfl _ hw) (And.intro (Own.rowCells (cs := r.cells) (i := 1) rfl _ hw) (And.intro (Own.rowCells (cs := a.cells) (i := 2) rfl _ hw) (Own.rowCells (cs := t.cells) (i := 3) rfl _ hw)))) hw.drawn) (fun w' hw => ?_)
  replace hw := hw.drawn
  have hS := And.intro (Own.rowCells (cs := c.cells) (i := 0) rfl _ hw) (And.intro (Own.rowCells (cs := r.cells) (i := 1) rfl _ hw) (And.intro (Own.rowCells (cs := a.cells) (i := 2) rfl _ hw) (Own.rowCells (cs := t.cells) (i := 3) rfl _ hw)))
  refine h_call 0 (by kernel_rfl) rfl (by kernel_rfl) rfl rfl ?_
  refine (answers_spec _).mono ?_
  rintro _ w1 ⟨rfl, hO⟩
  replace hw := hw.frame0 hO
  replace hS := And.intro (Own.rowCells (cs := c.cells) (i := 0) rfl _ hw) (And.intro (Own.rowCells (cs := r.cells) (i := 1) rfl _ hw) (And.intro (Own.rowCells (cs := a.cells) (i := 2) rfl _ hw) (Own.rowCells (cs := t.cells) (i := 3) rfl _ hw)))
  refine ⟨hS, ?_⟩
  refine h_take 1 rfl (by kernel_rfl) (by kernel_rfl) (by kernel_rfl) (v_mv) rfl hS ?_
  refine h_takeg 2 rfl rfl rfl (by kernel_rfl) (by kernel_rfl) (by kernel_rfl) (v_mv) rfl hS ?_
  refine h_takeg 3 rfl rfl rfl (by kernel_rfl) (by kernel_rfl) (by kernel_rfl) (v_mv) rfl hS ?_
  refine h_takeg 4 rfl rfl rfl (by kernel_rfl) (by kernel_rfl) (by kernel_rfl) (v_ldN (cs := c.cells) rfl (by kernel_rfl) (fun w h => h.1)) rfl hS ?_
  refine h_takeg 6 rfl rfl rfl (by kernel_rfl) (by kernel_rfl) (by kernel_rfl) (v_ldN (cs := c.cells) rfl (by kernel_rfl) (fun w h => h.1)) rfl hS ?_
  refine h_callg 5 (by kernel_rfl) rfl rfl rfl (by kernel_rfl) rfl rfl ?_
  refine (rcmdOK_spec c _).mono ?_
  rintro _ w1 ⟨rfl, hO⟩
  replace hw := hw.frame0 hO
  replace hS := And.intro (Own.rowCells (cs := c.cells) (i := 0) rfl _ hw) (And.intro (Own.rowCells (cs := r.cells) (i := 1) rfl _ hw) (And.intro (Own.rowCells (cs := a.cells) (i := 2) rfl _ hw) (Own.rowCells (cs := t.cells) (i := 3) rfl _ hw)))
  refine ⟨hS, ?_⟩
  refine h_callg 7 (by kernel_rfl) rfl rfl rfl (by kernel_rfl) rfl rfl ?_
  refine (rcmdEnc_spec c hc _).mono ?_
  rintro u1 w1 hO
  replace hw := hw.frame0 hO
  replace hS := And.intro (Own.rowCells (cs := c.cells) (i := 0) rfl _ hw) (And.intro (Own.rowCells (cs := r.cells) (i := 1) rfl _ hw) (And.intro (Own.rowCells (cs := a.cells) (i := 2) rfl _ hw) (Own.rowCells (cs := t.cells) (i := 3) rfl _ hw)))
  refine ⟨hS, ?_⟩
  refine h_callg 8 (by kernel_rfl) rfl rfl rfl (by kernel_rfl) rfl rfl ?_
  refine (fits_spec s1 u1 e1 c.ok z1 c.enc g1 (fun h => ⟨(k1 h).1, (k1 h).2.2⟩) _ (hw.holds 4 _ rfl) (hw.holds 8 _ rfl)).mono ?_
  rintro _ w1 ⟨rfl, hO⟩
  replace hw := hw.frame0 hO
  replace hS := And.intro (Own.rowCells (cs := c.cells) (i := 0) rfl _ hw) (And.intro (Own.rowCells (cs := r.cells) (i := 1) rfl _ hw) (And.intro (Own.rowCells (cs := a.cells) (i := 2) rfl _ hw) (Own.rowCells (cs := t.cells) (i := 3) rfl _ hw)))
  refine ⟨hS, ?_⟩
  refine h_take 9 rfl (by kernel_rfl) (by kernel_rfl) (by kernel_rfl) (v_pick rfl) rfl hS ?_
  refine h_take 10 rfl (by kernel_rfl) (by kernel_rfl) (by kernel_rfl) (v_mv) rfl hS ?_
  refine h_takeg 11 rfl rfl rfl (by kernel_rfl) (by kernel_rfl) (by kernel_rfl) (v_mv) rfl hS ?_
  refine h_takeg 12 rfl rfl rfl (by kernel_rfl) (by kernel_rfl) (by kernel_rfl) (v_mv) rfl hS ?_
  refine h_takeg 13 rfl rfl rfl (by kernel_rfl) (by kernel_rfl) (by kernel_rfl) (v_ldN (cs := r.cells) rfl (by kernel_rfl) (fun w h => h.2.1)) rfl hS ?_
  refine h_takeg 15 rfl rfl rfl (by kernel_rfl) (by kernel_rfl) (by kernel_rfl) (v_ldN (cs := r.cells) rfl (by kernel_rfl) (fun w h => h.2.1)) rfl hS ?_
  refine h_callg 14 (by kernel_rfl) rfl rfl rfl (by kernel_rfl) rfl rfl ?_
  refine (rreplyOK_spec r _).mono ?_
  rintro _ w1 ⟨rfl, hO⟩
  replace hw := hw.frame0 hO
  replace hS := And.intro (Own.rowCells (cs := c.cells) (i := 0) rfl _ hw) (And.intro (Own.rowCells (cs := r.cells) (i := 1) rfl _ hw) (And.intro (Own.rowCells (cs := a.cells) (i := 2) rfl _ hw) (Own.rowCells (cs := t.cells) (i := 3) rfl _ hw)))
  refine ⟨hS, ?_⟩
  refine h_callg 16 (by kernel_rfl) rfl rfl rfl (by kernel_rfl) rfl rfl ?_
  refine (rrepEnc_spec r hr _).mono ?_
  rintro u2 w1 hO
  replace hw := hw.frame0 hO
  replace hS := And.intro (Own.rowCells (cs := c.cells) (i := 0) rfl _ hw) (And.intro (Own.rowCells (cs := r.cells) (i := 1) rfl _ hw) (And.intro (Own.rowCells (cs := a.cells) (i := 2) rfl _ hw) (Own.rowCells (cs := t.cells) (i := 3) rfl _ hw)))
  refine ⟨hS, ?_⟩
  refine h_callg 17 (by kernel_rfl) rfl rfl rfl (by kernel_rfl) rfl rfl ?_
  refine (fits_spec s2 u2 e2 r.ok z2 r.enc g2 (fun h => ⟨(k2 h).1, (k2 h).2.2⟩) _ (hw.holds 5 _ rfl) (hw.holds 9 _ rfl)).mono ?_
  rintro _ w1 ⟨rfl, hO⟩
  replace hw := hw.frame0 hO
  replace hS := And.intro (Own.rowCells (cs := c.cells) (i := 0) rfl _ hw) (And.intro (Own.rowCells (cs := r.cells) (i := 1) rfl _ hw) (And.intro (Own.rowCells (cs := a.cells) (i := 2) rfl _ hw) (Own.rowCells (cs := t.cells) (i := 3) rfl _ hw)))
  refine ⟨hS, ?_⟩
  refine h_take 18 rfl (by kernel_rfl) (by kernel_rfl) (by kernel_rfl) (v_pick rfl) rfl hS ?_
  refine h_take 19 rfl (by kernel_rfl) (by kernel_rfl) (by kernel_rfl) (v_mv) rfl hS ?_
  refine h_takeg 20 rfl rfl rfl (by kernel_rfl) (by kernel_rfl) (by kernel_rfl) (v_mv) rfl hS ?_
  refine h_takeg 21 rfl rfl rfl (by kernel_rfl) (by kernel_rfl) (by kernel_rfl) (v_mv) rfl hS ?_
  refine h_takeg 22 rfl rfl rfl (by kernel_rfl) (by kernel_rfl) (by kernel_rfl) (v_ldN (cs := a.cells) rfl (by kernel_rfl) (fun w h => h.2.2.1)) rfl hS ?_
  refine h_takeg 24 rfl rfl rfl (by kernel_rfl) (by kernel_rfl) (by kernel_rfl) (v_ldN (cs := a.cells) rfl (by kernel_rfl) (fun w h => h.2.2.1)) rfl hS ?_
  refine h_callg 23 (by kernel_rfl) rfl rfl rfl (by kernel_rfl) rfl rfl ?_
  refine (raskOK_spec a _).mono ?_
  rintro _ w1 ⟨rfl, hO⟩
  replace hw := hw.frame0 hO
  replace hS := And.intro (Own.rowCells (cs := c.cells) (i := 0) rfl _ hw) (And.intro (Own.rowCells (cs := r.cells) (i := 1) rfl _ hw) (And.intro (Own.rowCells (cs := a.cells) (i := 2) rfl _ hw) (Own.rowCells (cs := t.cells) (i := 3) rfl _ hw)))
  refine ⟨hS, ?_⟩
  refine h_callg 25 (by kernel_rfl) rfl rfl rfl (by kernel_rfl) rfl rfl ?_
  refine (raskEnc_spec a ha _).mono ?_
  rintro u3 w1 hO
  replace hw := hw.frame0 hO
  replace hS := And.intro (Own.rowCells (cs := c.cells) (i := 0) rfl _ hw) (And.intro (Own.rowCells (cs := r.cells) (i := 1) rfl _ hw) (And.intro (Own.rowCells (cs := a.cells) (i := 2) rfl _ hw) (Own.rowCells (cs := t.cells) (i := 3) rfl _ hw)))
  refine ⟨hS, ?_⟩
  refine h_callg 26 (by kernel_rfl) rfl rfl rfl (by kernel_rfl) rfl rfl ?_
  refine (fits_spec s3 u3 e3 a.ok z3 a.enc g3 (fun h => ⟨(k3 h).1, (k3 h).2.2⟩) _ (hw.holds 6 _ rfl) (hw.holds 10 _ rfl)).mono ?_
  rintro _ w1 ⟨rfl, hO⟩
  replace hw := hw.frame0 hO
  replace hS := And.intro (Own.rowCells (cs := c.cells) (i := 0) rfl _ hw) (And.intro (Own.rowCells (cs := r.cells) (i := 1) rfl _ hw) (And.intro (Own.rowCells (cs := a.cells) (i := 2) rfl _ hw) (Own.rowCells (cs := t.cells) (i := 3) rfl _ hw)))
  refine ⟨hS, ?_⟩
  refine h_take 27 rfl (by kernel_rfl) (by kernel_rfl) (by kernel_rfl) (v_pick rfl) rfl hS ?_
  refine h_take 28 rfl (by kernel_rfl) (by kernel_rfl) (by kernel_rfl) (v_mv) rfl hS ?_
  refine h_takeg 29 rfl rfl rfl (by kernel_rfl) (by kernel_rfl) (by kernel_rfl) (v_mv) rfl hS ?_
  refine h_takeg 30 rfl rfl rfl (by kernel_rfl) (by kernel_rfl) (by kernel_rfl) (v_mv) rfl hS ?_
  refine h_takeg 31 rfl rfl rfl (by kernel_rfl) (by kernel_rfl) (by kernel_rfl) (v_ldN (cs := t.cells) rfl (by kernel_rfl) (fun w h => h.2.2.2)) rfl hS ?_
  refine h_takeg 33 rfl rfl rfl (by kernel_rfl) (by kernel_rfl) (by kernel_rfl) (v_ldN (cs := t.cells) rfl (by kernel_rfl) (fun w h => h.2.2.2)) rfl hS ?_
  refine h_callg 32 (by kernel_rfl) rfl rfl rfl (by kernel_rfl) rfl rfl ?_
  refine (rtldOK_spec t _).mono ?_
  rintro _ w1 ⟨rfl, hO⟩
  replace hw := hw.frame0 hO
  replace hS := And.intro (Own.rowCells (cs := c.cells) (i := 0) rfl _ hw) (And.intro (Own.rowCells (cs := r.cells) (i := 1) rfl _ hw) (And.intro (Own.rowCells (cs := a.cells) (i := 2) rfl _ hw) (Own.rowCells (cs := t.cells) (i := 3) rfl _ hw)))
  refine ⟨hS, ?_⟩
  refine h_callg 34 (by kernel_rfl) rfl rfl rfl (by kernel_rfl) rfl rfl ?_
  refine (rtldEnc_spec t ht _).mono ?_
  rintro u4 w1 hO
  replace hw := hw.frame0 hO
  replace hS := And.intro (Own.rowCells (cs := c.cells) (i := 0) rfl _ hw) (And.intro (Own.rowCells (cs := r.cells) (i := 1) rfl _ hw) (And.intro (Own.rowCells (cs := a.cells) (i := 2) rfl _ hw) (Own.rowCells (cs := t.cells) (i := 3) rfl _ hw)))
  refine ⟨hS, ?_⟩
  refine h_callg 35 (by kernel_rfl) rfl rfl rfl (by kernel_rfl) rfl rfl ?_
  refine (fits_spec s4 u4 e4 t.ok z4 t.enc g4 (fun h => ⟨(k4 h).1, (k4 h).2.2⟩) _ (hw.holds 7 _ rfl) (hw.holds 11 _ rfl)).mono ?_
  rintro _ w1 ⟨rfl, hO⟩
  replace hw := hw.frame0 hO
  replace hS := And.intro (Own.rowCells (cs := c.cells) (i := 0) rfl _ hw) (And.intro (Own.rowCells (cs := r.cells) (i := 1) rfl _ hw) (And.intro (Own.rowCells (cs := a.cells) (i := 2) rfl _ hw) (Own.rowCells (cs := t.cells) (i := 3) rfl _ hw)))
  refine ⟨hS, ?_⟩
  refine h_take 36 rfl (by kernel_rfl) (by kernel_rfl) (by kernel_rfl) (v_pick rfl) rfl hS ?_
  refine h_take 37 rfl (by kernel_rfl) (by kernel_rfl) (by kernel_rfl) (v_as) rfl hS ?_
  refine h_done (by kernel_rfl) ?_
  refine (?_ : C _ _ _ _ _ _ _ (Own w [] _)) _ hw
  exact c_ret (ret1 (v := .bool true) rfl rfl (fun w' hw => ⟨rfl, hw.drop⟩))

end Go.Proofs.Ytlkoekhjegaimaa
