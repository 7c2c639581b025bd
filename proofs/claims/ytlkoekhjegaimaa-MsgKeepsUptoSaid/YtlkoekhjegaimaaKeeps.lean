/-
  THE WALK OF MsgKeeps.
-/
import Derived.Test.YtlkoekhjegaimaaBack
import Derived.Test.YtlkoekhjegaimaaFwU
set_option linter.unusedVariables false
set_option maxRecDepth 10000
namespace Go.Proofs.Ytlkoekhjegaimaa
open Go Go.Sc Go.Proofs

set_option maxHeartbeats 2000000 in
theorem msgKeeps_s (x : MsgD) (w : World) (hx : x.wf) (rd_x : MsgD.rd x w []) : Rets Try.prog 8 #[.agg (MsgD.cells x).toArray] w fun u_ w' => u_ = .bool true ∧ Own w [] [] w' := by
  refine fn_enter (args := [.agg (MsgD.cells x).toArray]) Try.func8 rfl Try.ntmps8 rfl (Own.start w) ?_
  refine c_reg ?_
  refine l_box rfl rfl (fun b1 => ?_)
  refine l_as rfl ?_
  refine l_end ?_
  refine c_reg ?_
  refine l_ldr (cs := (MsgD.cells x)) 0 rfl rfl (by kernel_rfl) rfl ?_
  refine l_call (by kernel_rfl) rfl rfl (fun w' hw => ?_)
  refine (ownMsg_s x w' (by first | assumption | omega | (simp <;> omega) | (constructor <;> (first | omega | (simp only [LenOk]; omega) | (simp <;> omega)))) (rd_x.at0 hw)).mono ?_
  rintro _ w1 ⟨r1_, es2_, a3_, b4_, c5_, rfl, hf1_1, hO⟩
  refine (?_ : CL _ _ _ _ _ _ (Own w [] [Res.row b1 97 (MsgD.cells x), Res.vec 50 5 r1_ es2_.length (es2_.flatMap EntD.cells), Res.star (es2_.map EntD.dres), Res.vec 3 1 a3_ x.conf.vs.length (x.conf.vs.flatMap I1), Res.vec 3 1 b4_ x.conf.ls.length (x.conf.ls.flatMap I1), Res.vec 5 1 c5_ x.data.length (x.data.map vb)])) w1 (hw.frame0 hO)
  refine l_new (v := .agg #[.int .i64 0, .int .i64 0, .int .i64 0, .int .u64 (0 : Nat), .int .u64 (0 : Nat), .int .u64 (0 : Nat), .int .u64 (0 : Nat), .int .u64 (0 : Nat), .bool false, .slice none 0 0, .slice none 0 0, .slice none 0 0, .int .i64 0, .slice none 0 0]) (by kernel_rfl) rfl (fun b3 => ?_)
  refine l_haveO (fun w' hw => Own.cell1Vec (i := 1) rfl hw) (fun hc1_ => ?_)
  refine l_haveO (fun w' hw => Own.cell1Vec (i := 3) rfl hw) (fun hc2_ => ?_)
  refine l_haveO (fun w' hw => Own.cell1Vec (i := 4) rfl hw) (fun hc3_ => ?_)
  refine l_haveO (fun w' hw => Own.cell1Vec (i := 5) rfl hw) (fun hc4_ => ?_)
  refine l_stN (cs := [.int .i64 0, .int .i64 0, .int .i64 0, .int .u64 (0 : Nat), .int .u64 (0 : Nat), .int .u64 (0 : Nat), .int .u64 (0 : Nat), .int .u64 (0 : Nat), .bool false, .slice none 0 0, .slice none 0 0, .slice none 0 0, .int .i64 0, .slice none 0 0]) (vs := [.int .i64 x.kind, .int .i64 x.src, .int .i64 x.dst, .int .u64 (x.term : Nat), .int .u64 (x.index : Nat), .int .u64 (x.logTerm : Nat), .int .u64 (x.commit : Nat), .int .u64 (x.round : Nat), .bool x.flag, r1_, a3_, b4_, .int .i64 x.off, c5_]) 6 rfl rfl rfl (by kernel_rfl) (allc_cons rfl (allc_cons rfl (allc_cons rfl (allc_cons rfl (allc_cons rfl (allc_cons rfl (allc_cons rfl (allc_cons rfl (allc_cons rfl (allc_cons hc1_ (allc_cons hc2_ (allc_cons hc3_ (allc_cons rfl (allc_cons hc4_ allc_nil)))))))))))))) (Nat.le_of_ble_eq_true rfl) ?_
  refine l_end ?_
  refine c_reg ?_
  refine l_ldr (cs := [.int .i64 x.kind, .int .i64 x.src, .int .i64 x.dst, .int .u64 (x.term : Nat), .int .u64 (x.index : Nat), .int .u64 (x.logTerm : Nat), .int .u64 (x.commit : Nat), .int .u64 (x.round : Nat), .bool x.flag, r1_, a3_, b4_, .int .i64 x.off, c5_]) 6 rfl rfl (by kernel_rfl) rfl ?_
  refine l_call (by kernel_rfl) rfl rfl (fun w' hw => ?_)
  refine (msgMsg_s ({ x with ev := r1_, ents := es2_, conf := ({ vv := a3_, vs := x.conf.vs, lv := b4_, ls := x.conf.ls } : ConfD), dv := c5_ } : MsgD) w' (MsgD.own_wf hx hf1_1 _ _ _ _) ⟨(hw.rdVec0 1 rfl), (EntD.rd.star0 2 rfl hw), ⟨(hw.rdVec0 3 rfl), (hw.rdVec0 4 rfl)⟩, (hw.rdVec0 5 rfl)⟩).mono ?_
  rintro _ w1 ⟨r6_, rfl, hO⟩
  refine (?_ : CL _ _ _ _ _ _ (Own w [] [Res.row b1 97 (MsgD.cells x), Res.vec 50 5 r1_ es2_.length (es2_.flatMap EntD.cells), Res.star (es2_.map EntD.dres), Res.vec 3 1 a3_ x.conf.vs.length (x.conf.vs.flatMap I1), Res.vec 3 1 b4_ x.conf.ls.length (x.conf.ls.flatMap I1), Res.vec 5 1 c5_ x.data.length (x.data.map vb), Res.row b3 97 [.int .i64 x.kind, .int .i64 x.src, .int .i64 x.dst, .int .u64 (x.term : Nat), .int .u64 (x.index : Nat), .int .u64 (x.logTerm : Nat), .int .u64 (x.commit : Nat), .int .u64 (x.round : Nat), .bool x.flag, r1_, a3_, b4_, .int .i64 x.off, c5_], Res.vec 5 1 r6_ (if ({ x with ev := r1_, ents := es2_, conf := ({ vv := a3_, vs := x.conf.vs, lv := b4_, ls := x.conf.ls } : ConfD), dv := c5_ } : MsgD).a.ok then ({ x with ev := r1_, ents := es2_, conf := ({ vv := a3_, vs := x.conf.vs, lv := b4_, ls := x.conf.ls } : ConfD), dv := c5_ } : MsgD).a.enc else []).length ((if ({ x with ev := r1_, ents := es2_, conf := ({ vv := a3_, vs := x.conf.vs, lv := b4_, ls := x.conf.ls } : ConfD), dv := c5_ } : MsgD).a.ok then ({ x with ev := r1_, ents := es2_, conf := ({ vv := a3_, vs := x.conf.vs, lv := b4_, ls := x.conf.ls } : ConfD), dv := c5_ } : MsgD).a.enc else []).map vb)])) w1 (hw.frame0 hO)
  refine l_mv rfl ?_
  refine l_ext (vs := [r6_, .int .i64 (errOf ({ x with ev := r1_, ents := es2_, conf := ({ vv := a3_, vs := x.conf.vs, lv := b4_, ls := x.conf.ls } : ConfD), dv := c5_ } : MsgD).a.ok)]) rfl rfl rfl ?_
  refine l_ext (vs := [r6_, .int .i64 (errOf ({ x with ev := r1_, ents := es2_, conf := ({ vv := a3_, vs := x.conf.vs, lv := b4_, ls := x.conf.ls } : ConfD), dv := c5_ } : MsgD).a.ok)]) rfl rfl rfl ?_
  refine l_as rfl ?_
  refine l_as rfl ?_
  refine l_end ?_
  refine c_seq ?_
  refine c_reg ?_
  refine l_call (by kernel_rfl) rfl rfl (fun w' hw => ?_)
  refine (answers_s w').mono ?_
  rintro _ w1 ⟨rfl, hO⟩
  refine (?_ : CL _ _ _ _ _ _ (Own w [] [Res.row b1 97 (MsgD.cells x), Res.vec 50 5 r1_ es2_.length (es2_.flatMap EntD.cells), Res.star (es2_.map EntD.dres), Res.vec 3 1 a3_ x.conf.vs.length (x.conf.vs.flatMap I1), Res.vec 3 1 b4_ x.conf.ls.length (x.conf.ls.flatMap I1), Res.vec 5 1 c5_ x.data.length (x.data.map vb), Res.row b3 97 [.int .i64 x.kind, .int .i64 x.src, .int .i64 x.dst, .int .u64 (x.term : Nat), .int .u64 (x.index : Nat), .int .u64 (x.logTerm : Nat), .int .u64 (x.commit : Nat), .int .u64 (x.round : Nat), .bool x.flag, r1_, a3_, b4_, .int .i64 x.off, c5_], Res.vec 5 1 r6_ (if ({ x with ev := r1_, ents := es2_, conf := ({ vv := a3_, vs := x.conf.vs, lv := b4_, ls := x.conf.ls } : ConfD), dv := c5_ } : MsgD).a.ok then ({ x with ev := r1_, ents := es2_, conf := ({ vv := a3_, vs := x.conf.vs, lv := b4_, ls := x.conf.ls } : ConfD), dv := c5_ } : MsgD).a.enc else []).length ((if ({ x with ev := r1_, ents := es2_, conf := ({ vv := a3_, vs := x.conf.vs, lv := b4_, ls := x.conf.ls } : ConfD), dv := c5_ } : MsgD).a.ok then ({ x with ev := r1_, ents := es2_, conf := ({ vv := a3_, vs := x.conf.vs, lv := b4_, ls := x.conf.ls } : ConfD), dv := c5_ } : MsgD).a.enc else []).map vb)])) w1 (hw.frame0 hO)
  refine l_not (b := true) rfl rfl ?_
  refine l_mv rfl ?_
  refine l_on rfl rfl ?_
  refine l_ldr (cs := [.int .i64 x.kind, .int .i64 x.src, .int .i64 x.dst, .int .u64 (x.term : Nat), .int .u64 (x.index : Nat), .int .u64 (x.logTerm : Nat), .int .u64 (x.commit : Nat), .int .u64 (x.round : Nat), .bool x.flag, r1_, a3_, b4_, .int .i64 x.off, c5_]) 6 rfl rfl (by kernel_rfl) rfl ?_
  refine l_on rfl rfl ?_
  refine l_ldr (cs := (MsgD.cells x)) 0 rfl rfl (by kernel_rfl) rfl ?_
  refine l_on rfl rfl ?_
  refine l_call (by kernel_rfl) rfl rfl (fun w' hw => ?_)
  refine (sameMsg_s ({ x with ev := r1_, ents := es2_, conf := ({ vv := a3_, vs := x.conf.vs, lv := b4_, ls := x.conf.ls } : ConfD), dv := c5_ } : MsgD) x w' (MsgD.own_wf hx hf1_1 _ _ _ _) hx ⟨(hw.rdVec0 1 rfl), (EntD.rd.star0 2 rfl hw), ⟨(hw.rdVec0 3 rfl), (hw.rdVec0 4 rfl)⟩, (hw.rdVec0 5 rfl)⟩ (rd_x.at0 hw)).mono ?_
  rintro _ w1 ⟨rfl, hO⟩
  refine (?_ : CL _ _ _ _ _ _ (Own w [] [Res.row b1 97 (MsgD.cells x), Res.vec 50 5 r1_ es2_.length (es2_.flatMap EntD.cells), Res.star (es2_.map EntD.dres), Res.vec 3 1 a3_ x.conf.vs.length (x.conf.vs.flatMap I1), Res.vec 3 1 b4_ x.conf.ls.length (x.conf.ls.flatMap I1), Res.vec 5 1 c5_ x.data.length (x.data.map vb), Res.row b3 97 [.int .i64 x.kind, .int .i64 x.src, .int .i64 x.dst, .int .u64 (x.term : Nat), .int .u64 (x.index : Nat), .int .u64 (x.logTerm : Nat), .int .u64 (x.commit : Nat), .int .u64 (x.round : Nat), .bool x.flag, r1_, a3_, b4_, .int .i64 x.off, c5_], Res.vec 5 1 r6_ (if ({ x with ev := r1_, ents := es2_, conf := ({ vv := a3_, vs := x.conf.vs, lv := b4_, ls := x.conf.ls } : ConfD), dv := c5_ } : MsgD).a.ok then ({ x with ev := r1_, ents := es2_, conf := ({ vv := a3_, vs := x.conf.vs, lv := b4_, ls := x.conf.ls } : ConfD), dv := c5_ } : MsgD).a.enc else []).length ((if ({ x with ev := r1_, ents := es2_, conf := ({ vv := a3_, vs := x.conf.vs, lv := b4_, ls := x.conf.ls } : ConfD), dv := c5_ } : MsgD).a.ok then ({ x with ev := r1_, ents := es2_, conf := ({ vv := a3_, vs := x.conf.vs, lv := b4_, ls := x.conf.ls } : ConfD), dv := c5_ } : MsgD).a.enc else []).map vb)])) w1 (hw.frame0 hO)
  refine l_on rfl rfl ?_
  refine l_notp (q := ({ x with ev := r1_, ents := es2_, conf := ({ vv := a3_, vs := x.conf.vs, lv := b4_, ls := x.conf.ls } : ConfD), dv := c5_ } : MsgD).a = x.a) rfl rfl ?_
  refine l_pickF rfl rfl ?_
  refine l_mv rfl ?_
  refine l_bor (q := ¬ (({ x with ev := r1_, ents := es2_, conf := ({ vv := a3_, vs := x.conf.vs, lv := b4_, ls := x.conf.ls } : ConfD), dv := c5_ } : MsgD).a = x.a)) 2 8 [31, 30] ((errOf ({ x with ev := r1_, ents := es2_, conf := ({ vv := a3_, vs := x.conf.vs, lv := b4_, ls := x.conf.ls } : ConfD), dv := c5_ } : MsgD).a.ok) ≠ 0) rfl rfl rfl rfl rfl rfl trivial rfl (fun h3_8 => ?_) (fun g3_11 => ?_)
  ·
    refine l_on rfl (gF h3_8) ?_
    refine l_mv rfl ?_
    refine l_on rfl (gF h3_8) ?_
    refine l_ne rfl rfl rfl ?_
    exact l_nil (fun w' hw => ⟨(by repeat (first | exact Out.refl _ _ | refine Out.upd rfl ?_ | refine Out.msk rfl ?_)), rfl, hw⟩)
  refine l_end ?_
  refine c_dec rfl (fun c1 => ?_) (fun c1 => ?_)
  ·
    refine c_reg ?_
    refine l_call (by kernel_rfl) rfl rfl (fun w' hw => ?_)
    refine (answers_s w').mono ?_
    rintro _ w1 ⟨rfl, hO⟩
    refine (?_ : CL _ _ _ _ _ _ (Own w [] [Res.row b1 97 (MsgD.cells x), Res.vec 50 5 r1_ es2_.length (es2_.flatMap EntD.cells), Res.star (es2_.map EntD.dres), Res.vec 3 1 a3_ x.conf.vs.length (x.conf.vs.flatMap I1), Res.vec 3 1 b4_ x.conf.ls.length (x.conf.ls.flatMap I1), Res.vec 5 1 c5_ x.data.length (x.data.map vb), Res.row b3 97 [.int .i64 x.kind, .int .i64 x.src, .int .i64 x.dst, .int .u64 (x.term : Nat), .int .u64 (x.index : Nat), .int .u64 (x.logTerm : Nat), .int .u64 (x.commit : Nat), .int .u64 (x.round : Nat), .bool x.flag, r1_, a3_, b4_, .int .i64 x.off, c5_], Res.vec 5 1 r6_ (if ({ x with ev := r1_, ents := es2_, conf := ({ vv := a3_, vs := x.conf.vs, lv := b4_, ls := x.conf.ls } : ConfD), dv := c5_ } : MsgD).a.ok then ({ x with ev := r1_, ents := es2_, conf := ({ vv := a3_, vs := x.conf.vs, lv := b4_, ls := x.conf.ls } : ConfD), dv := c5_ } : MsgD).a.enc else []).length ((if ({ x with ev := r1_, ents := es2_, conf := ({ vv := a3_, vs := x.conf.vs, lv := b4_, ls := x.conf.ls } : ConfD), dv := c5_ } : MsgD).a.ok then ({ x with ev := r1_, ents := es2_, conf := ({ vv := a3_, vs := x.conf.vs, lv := b4_, ls := x.conf.ls } : ConfD), dv := c5_ } : MsgD).a.enc else []).map vb)])) w1 (hw.frame0 hO)
    refine l_mv rfl ?_
    refine l_on rfl rfl ?_
    refine l_ldr (cs := [.int .i64 x.kind, .int .i64 x.src, .int .i64 x.dst, .int .u64 (x.term : Nat), .int .u64 (x.index : Nat), .int .u64 (x.logTerm : Nat), .int .u64 (x.commit : Nat), .int .u64 (x.round : Nat), .bool x.flag, r1_, a3_, b4_, .int .i64 x.off, c5_]) 6 rfl rfl (by kernel_rfl) rfl ?_
    refine l_on rfl rfl ?_
    refine l_ldr (cs := (MsgD.cells x)) 0 rfl rfl (by kernel_rfl) rfl ?_
    refine l_on rfl rfl ?_
    refine l_call (by kernel_rfl) rfl rfl (fun w' hw => ?_)
    refine (sameMsg_s ({ x with ev := r1_, ents := es2_, conf := ({ vv := a3_, vs := x.conf.vs, lv := b4_, ls := x.conf.ls } : ConfD), dv := c5_ } : MsgD) x w' (MsgD.own_wf hx hf1_1 _ _ _ _) hx ⟨(hw.rdVec0 1 rfl), (EntD.rd.star0 2 rfl hw), ⟨(hw.rdVec0 3 rfl), (hw.rdVec0 4 rfl)⟩, (hw.rdVec0 5 rfl)⟩ (rd_x.at0 hw)).mono ?_
    rintro _ w1 ⟨rfl, hO⟩
    refine (?_ : CL _ _ _ _ _ _ (Own w [] [Res.row b1 97 (MsgD.cells x), Res.vec 50 5 r1_ es2_.length (es2_.flatMap EntD.cells), Res.star (es2_.map EntD.dres), Res.vec 3 1 a3_ x.conf.vs.length (x.conf.vs.flatMap I1), Res.vec 3 1 b4_ x.conf.ls.length (x.conf.ls.flatMap I1), Res.vec 5 1 c5_ x.data.length (x.data.map vb), Res.row b3 97 [.int .i64 x.kind, .int .i64 x.src, .int .i64 x.dst, .int .u64 (x.term : Nat), .int .u64 (x.index : Nat), .int .u64 (x.logTerm : Nat), .int .u64 (x.commit : Nat), .int .u64 (x.round : Nat), .bool x.flag, r1_, a3_, b4_, .int .i64 x.off, c5_], Res.vec 5 1 r6_ (if ({ x with ev := r1_, ents := es2_, conf := ({ vv := a3_, vs := x.conf.vs, lv := b4_, ls := x.conf.ls } : ConfD), dv := c5_ } : MsgD).a.ok then ({ x with ev := r1_, ents := es2_, conf := ({ vv := a3_, vs := x.conf.vs, lv := b4_, ls := x.conf.ls } : ConfD), dv := c5_ } : MsgD).a.enc else []).length ((if ({ x with ev := r1_, ents := es2_, conf := ({ vv := a3_, vs := x.conf.vs, lv := b4_, ls := x.conf.ls } : ConfD), dv := c5_ } : MsgD).a.ok then ({ x with ev := r1_, ents := es2_, conf := ({ vv := a3_, vs := x.conf.vs, lv := b4_, ls := x.conf.ls } : ConfD), dv := c5_ } : MsgD).a.enc else []).map vb)])) w1 (hw.frame0 hO)
    refine l_pickT rfl rfl ?_
    refine l_as rfl ?_
    refine l_end ?_
    exact c_ret (ret1 (v := .bool (decide (({ x with ev := r1_, ents := es2_, conf := ({ vv := a3_, vs := x.conf.vs, lv := b4_, ls := x.conf.ls } : ConfD), dv := c5_ } : MsgD).a = x.a))) rfl rfl (fun w' hw => ⟨(by rw [MsgD.own_a hf1_1]; congr 1; exact decide_eq_true rfl), hw.drop⟩))
  ·
    have hok := errOf_zero.1 (Decidable.not_not.1 fun h => c1 (.inr h))
    rw [MsgD.own_a hf1_1] at hok
    have hsm := x.enc_small hx hok
    have hrt := rt_msg hok (x.a_nums hx)
    refine c_skipC ?_
    refine c_reg ?_
    refine l_mv rfl ?_
    refine l_call (by kernel_rfl) rfl rfl (fun w' hw => ?_)
    refine (toMsg_s r6_ (if ({ x with ev := r1_, ents := es2_, conf := ({ vv := a3_, vs := x.conf.vs, lv := b4_, ls := x.conf.ls } : ConfD), dv := c5_ } : MsgD).a.ok then ({ x with ev := r1_, ents := es2_, conf := ({ vv := a3_, vs := x.conf.vs, lv := b4_, ls := x.conf.ls } : ConfD), dv := c5_ } : MsgD).a.enc else []) w' (by rw [MsgD.own_a hf1_1, if_pos hok]; omega) (hw.rdVec0 7 rfl)).mono ?_
    rintro _ w1 ⟨kd7_, sr8_, ds9_, tm10_, ix11_, lt12_, cm13_, rn14_, f15_, ev16_, es17_, r118_, l119_, r220_, l221_, of22_, dv23_, dl24_, e25_, rfl, hf5_1, hf5_1_1, hf5_1_2, hO⟩
    have hv1 := hf5_1
    rw [MsgD.own_a hf1_1, if_pos hok] at hv1
    have k1 := hv1.some (whole_enc hrt hok)
    have hwf1 := hf5_1_2.wf hf5_1_1 (by rw [MsgD.own_a hf1_1, if_pos hok]; omega)
    have hes := hf5_1_2.1.1
    refine (?_ : CL _ _ _ _ _ _ (Own w [] [Res.row b1 97 (MsgD.cells x), Res.vec 50 5 r1_ es2_.length (es2_.flatMap EntD.cells), Res.star (es2_.map EntD.dres), Res.vec 3 1 a3_ x.conf.vs.length (x.conf.vs.flatMap I1), Res.vec 3 1 b4_ x.conf.ls.length (x.conf.ls.flatMap I1), Res.vec 5 1 c5_ x.data.length (x.data.map vb), Res.row b3 97 [.int .i64 x.kind, .int .i64 x.src, .int .i64 x.dst, .int .u64 (x.term : Nat), .int .u64 (x.index : Nat), .int .u64 (x.logTerm : Nat), .int .u64 (x.commit : Nat), .int .u64 (x.round : Nat), .bool x.flag, r1_, a3_, b4_, .int .i64 x.off, c5_], Res.vec 5 1 r6_ (if ({ x with ev := r1_, ents := es2_, conf := ({ vv := a3_, vs := x.conf.vs, lv := b4_, ls := x.conf.ls } : ConfD), dv := c5_ } : MsgD).a.ok then ({ x with ev := r1_, ents := es2_, conf := ({ vv := a3_, vs := x.conf.vs, lv := b4_, ls := x.conf.ls } : ConfD), dv := c5_ } : MsgD).a.enc else []).length ((if ({ x with ev := r1_, ents := es2_, conf := ({ vv := a3_, vs := x.conf.vs, lv := b4_, ls := x.conf.ls } : ConfD), dv := c5_ } : MsgD).a.ok then ({ x with ev := r1_, ents := es2_, conf := ({ vv := a3_, vs := x.conf.vs, lv := b4_, ls := x.conf.ls } : ConfD), dv := c5_ } : MsgD).a.enc else []).map vb), Res.vec 50 5 ev16_ es17_.length (es17_.flatMap EntD.cells), Res.star (es17_.map EntD.dres), Res.vec 3 1 r118_ l119_.length (l119_.flatMap I1), Res.vec 3 1 r220_ l221_.length (l221_.flatMap I1), Res.vec 5 1 dv23_ dl24_.length (dl24_.map vb)])) w1 (hw.frame0 hO)
    refine l_mv rfl ?_
    refine l_ext (vs := [.agg #[.int .i64 kd7_, .int .i64 sr8_, .int .i64 ds9_, .int .u64 (tm10_ : Nat), .int .u64 (ix11_ : Nat), .int .u64 (lt12_ : Nat), .int .u64 (cm13_ : Nat), .int .u64 (rn14_ : Nat), .bool f15_, ev16_, r118_, r220_, .int .i64 of22_, dv23_], .int .i64 e25_]) rfl rfl rfl ?_
    refine l_ext (vs := [.agg #[.int .i64 kd7_, .int .i64 sr8_, .int .i64 ds9_, .int .u64 (tm10_ : Nat), .int .u64 (ix11_ : Nat), .int .u64 (lt12_ : Nat), .int .u64 (cm13_ : Nat), .int .u64 (rn14_ : Nat), .bool f15_, ev16_, r118_, r220_, .int .i64 of22_, dv23_], .int .i64 e25_]) rfl rfl rfl ?_
    refine l_new (v := .agg #[.int .i64 0, .int .i64 0, .int .i64 0, .int .u64 (0 : Nat), .int .u64 (0 : Nat), .int .u64 (0 : Nat), .int .u64 (0 : Nat), .int .u64 (0 : Nat), .bool false, .slice none 0 0, .slice none 0 0, .slice none 0 0, .int .i64 0, .slice none 0 0]) (by kernel_rfl) rfl (fun b6 => ?_)
    refine l_haveO (fun w' hw => Own.cell1Vec (i := 8) rfl hw) (fun hc5_ => ?_)
    refine l_haveO (fun w' hw => Own.cell1Vec (i := 10) rfl hw) (fun hc6_ => ?_)
    refine l_haveO (fun w' hw => Own.cell1Vec (i := 11) rfl hw) (fun hc7_ => ?_)
    refine l_haveO (fun w' hw => Own.cell1Vec (i := 12) rfl hw) (fun hc8_ => ?_)
    refine l_stN (cs := [.int .i64 0, .int .i64 0, .int .i64 0, .int .u64 (0 : Nat), .int .u64 (0 : Nat), .int .u64 (0 : Nat), .int .u64 (0 : Nat), .int .u64 (0 : Nat), .bool false, .slice none 0 0, .slice none 0 0, .slice none 0 0, .int .i64 0, .slice none 0 0]) (vs := [.int .i64 kd7_, .int .i64 sr8_, .int .i64 ds9_, .int .u64 (tm10_ : Nat), .int .u64 (ix11_ : Nat), .int .u64 (lt12_ : Nat), .int .u64 (cm13_ : Nat), .int .u64 (rn14_ : Nat), .bool f15_, ev16_, r118_, r220_, .int .i64 of22_, dv23_]) 13 rfl rfl rfl (by kernel_rfl) (allc_cons rfl (allc_cons rfl (allc_cons rfl (allc_cons rfl (allc_cons rfl (allc_cons rfl (allc_cons rfl (allc_cons rfl (allc_cons rfl (allc_cons hc5_ (allc_cons hc6_ (allc_cons hc7_ (allc_cons rfl (allc_cons hc8_ allc_nil)))))))))))))) (Nat.le_of_ble_eq_true rfl) ?_
    refine l_as rfl ?_
    refine l_end ?_
    refine c_seq ?_
    refine c_reg ?_
    refine l_as rfl ?_
    refine l_end ?_
    refine c_block ?_
    refine c_loop2 (fun (k : Nat) (bl : List UInt8) => [(1, .pointer (some ⟨b1, 0, none⟩)), (3, .pointer (some ⟨b3, 0, none⟩)), (4, r6_), (6, .pointer (some ⟨b6, 0, none⟩)), (7, .int .i64 e25_), (8, .int .i64 (k : Nat))]) (fun (k : Nat) (bl : List UInt8) => k ≤ bl.length ∧ bl.length ≤ 100000) (fun (k : Nat) (bl : List UInt8) => [Res.row b1 97 (MsgD.cells x), Res.vec 50 5 r1_ es2_.length (es2_.flatMap EntD.cells), Res.star (es2_.map EntD.dres), Res.vec 3 1 a3_ x.conf.vs.length (x.conf.vs.flatMap I1), Res.vec 3 1 b4_ x.conf.ls.length (x.conf.ls.flatMap I1), Res.vec 5 1 c5_ x.data.length (x.data.map vb), Res.row b3 97 [.int .i64 x.kind, .int .i64 x.src, .int .i64 x.dst, .int .u64 (x.term : Nat), .int .u64 (x.index : Nat), .int .u64 (x.logTerm : Nat), .int .u64 (x.commit : Nat), .int .u64 (x.round : Nat), .bool x.flag, r1_, a3_, b4_, .int .i64 x.off, c5_], Res.vec 5 1 r6_ bl.length (bl.map vb), Res.vec 50 5 ev16_ es17_.length (es17_.flatMap EntD.cells), Res.star (es17_.map EntD.dres), Res.vec 3 1 r118_ l119_.length (l119_.flatMap I1), Res.vec 3 1 r220_ l221_.length (l221_.flatMap I1), Res.vec 5 1 dv23_ dl24_.length (dl24_.map vb), Res.row b6 97 [.int .i64 kd7_, .int .i64 sr8_, .int .i64 ds9_, .int .u64 (tm10_ : Nat), .int .u64 (ix11_ : Nat), .int .u64 (lt12_ : Nat), .int .u64 (cm13_ : Nat), .int .u64 (rn14_ : Nat), .bool f15_, ev16_, r118_, r220_, .int .i64 of22_, dv23_]]) (fun (k : Nat) (bl : List UInt8) => bl.length - k) (fun w' hw => ⟨0, _, ⟨rfl, rfl, rfl, rfl, rfl, rfl, trivial⟩, ⟨Nat.zero_le _, by rw [MsgD.own_a hf1_1, if_pos hok]; omega⟩, hw⟩) (fun k bl g hΦ => ?_)
    refine c_seq ?_
    refine c_reg ?_
    refine l_mv rfl ?_
    refine l_mv rfl ?_
    refine l_lenS (len := bl.length) (cs := (bl.map vb)) (by kernel_rfl) rfl (fun w' hw' => Vec.sl (Own.holds hw' 7 _ rfl)) rfl ?_
    refine l_lss rfl rfl rfl ?_
    refine l_end ?_
    refine c_dec rfl (fun c2 => ?_) (fun c2 => ?_)
    ·
      refine c_skipC ?_
      refine c_seq ?_
      refine c_block ?_
      refine c_last ?_
      refine l_mv rfl ?_
      refine l_mv rfl ?_
      refine l_idxS (j := k) (sz := 1) (len := bl.length) (cs := (bl.map vb)) rfl rfl (by kernel_rfl) (fun w' hw' => Vec.sl (Own.holds hw' 7 _ rfl)) rfl (by omega) rfl ?_
      refine l_stV 7 k (v := r6_) (off := offV r6_ + k * 1) (cs := (bl.map vb)) rfl (by omega) rfl rfl (by kernel_rfl) rfl (by simp; omega) ?_
      refine l_own [Res.row b1 97 (MsgD.cells x), Res.vec 50 5 r1_ es2_.length (es2_.flatMap EntD.cells), Res.star (es2_.map EntD.dres), Res.vec 3 1 a3_ x.conf.vs.length (x.conf.vs.flatMap I1), Res.vec 3 1 b4_ x.conf.ls.length (x.conf.ls.flatMap I1), Res.vec 5 1 c5_ x.data.length (x.data.map vb), Res.row b3 97 [.int .i64 x.kind, .int .i64 x.src, .int .i64 x.dst, .int .u64 (x.term : Nat), .int .u64 (x.index : Nat), .int .u64 (x.logTerm : Nat), .int .u64 (x.commit : Nat), .int .u64 (x.round : Nat), .bool x.flag, r1_, a3_, b4_, .int .i64 x.off, c5_], Res.vec 5 1 r6_ (bl.set k 99).length ((bl.set k 99).map vb), Res.vec 50 5 ev16_ es17_.length (es17_.flatMap EntD.cells), Res.star (es17_.map EntD.dres), Res.vec 3 1 r118_ l119_.length (l119_.flatMap I1), Res.vec 3 1 r220_ l221_.length (l221_.flatMap I1), Res.vec 5 1 dv23_ dl24_.length (dl24_.map vb), Res.row b6 97 [.int .i64 kd7_, .int .i64 sr8_, .int .i64 ds9_, .int .u64 (tm10_ : Nat), .int .u64 (ix11_ : Nat), .int .u64 (lt12_ : Nat), .int .u64 (cm13_ : Nat), .int .u64 (rn14_ : Nat), .bool f15_, ev16_, r118_, r220_, .int .i64 of22_, dv23_]] (fun w' hw => by rw [List.map_set, List.length_set]; exact hw) ?_
      refine l_end ?_
      refine c_last ?_
      refine l_mv rfl ?_
      refine l_add rfl rfl (wi64 (by omega)) rfl ?_
      refine l_as rfl ?_
      exact l_nil (fun w' hw => ⟨k + 1, bl.set k 99, ⟨rfl, rfl, rfl, rfl, rfl, rfl, trivial⟩, ⟨by rw [List.length_set]; omega, by rw [List.length_set]; omega⟩, hw, by rw [List.length_set]; omega⟩)
    ·
      refine c_exitC rfl ?_
      refine c_seq ?_
      refine c_reg ?_
      refine l_mv rfl ?_
      refine l_ne rfl rfl rfl ?_
      refine l_mv rfl ?_
      refine l_bor (q := e25_ ≠ 0) 4 2 [59, 58, 57, 56] (¬ (({ kind := kd7_, src := sr8_, dst := ds9_, term := tm10_, index := ix11_, logTerm := lt12_, commit := cm13_, round := rn14_, flag := f15_, ev := ev16_, ents := es17_, conf := ({ vv := r118_, vs := l119_, lv := r220_, ls := l221_ } : ConfD), off := of22_, dv := dv23_, data := dl24_ } : MsgD).a = x.a)) rfl rfl rfl rfl rfl rfl trivial rfl (fun h10_2 => ?_) (fun g10_7 => ?_)
      ·
        refine l_on rfl (gF h10_2) ?_
        refine l_ldr (cs := [.int .i64 kd7_, .int .i64 sr8_, .int .i64 ds9_, .int .u64 (tm10_ : Nat), .int .u64 (ix11_ : Nat), .int .u64 (lt12_ : Nat), .int .u64 (cm13_ : Nat), .int .u64 (rn14_ : Nat), .bool f15_, ev16_, r118_, r220_, .int .i64 of22_, dv23_]) 13 rfl rfl (by kernel_rfl) rfl ?_
        refine l_on rfl (gF h10_2) ?_
        refine l_ldr (cs := (MsgD.cells x)) 0 rfl rfl (by kernel_rfl) rfl ?_
        refine l_on rfl (gF h10_2) ?_
        refine l_call (by kernel_rfl) rfl rfl (fun w' hw => ?_)
        refine (sameMsg_s ({ kind := kd7_, src := sr8_, dst := ds9_, term := tm10_, index := ix11_, logTerm := lt12_, commit := cm13_, round := rn14_, flag := f15_, ev := ev16_, ents := es17_, conf := ({ vv := r118_, vs := l119_, lv := r220_, ls := l221_ } : ConfD), off := of22_, dv := dv23_, data := dl24_ } : MsgD) x w' hwf1 hx ⟨(hw.rdVec0 8 rfl), (EntD.rd.star0 9 rfl hw), ⟨(hw.rdVec0 10 rfl), (hw.rdVec0 11 rfl)⟩, (hw.rdVec0 12 rfl)⟩ (rd_x.at0 hw)).mono ?_
        rintro _ w1 ⟨rfl, hO⟩
        refine (?_ : CL _ _ _ _ _ _ (Own w [] [Res.row b1 97 (MsgD.cells x), Res.vec 50 5 r1_ es2_.length (es2_.flatMap EntD.cells), Res.star (es2_.map EntD.dres), Res.vec 3 1 a3_ x.conf.vs.length (x.conf.vs.flatMap I1), Res.vec 3 1 b4_ x.conf.ls.length (x.conf.ls.flatMap I1), Res.vec 5 1 c5_ x.data.length (x.data.map vb), Res.row b3 97 [.int .i64 x.kind, .int .i64 x.src, .int .i64 x.dst, .int .u64 (x.term : Nat), .int .u64 (x.index : Nat), .int .u64 (x.logTerm : Nat), .int .u64 (x.commit : Nat), .int .u64 (x.round : Nat), .bool x.flag, r1_, a3_, b4_, .int .i64 x.off, c5_], Res.vec 5 1 r6_ bl.length (bl.map vb), Res.vec 50 5 ev16_ es17_.length (es17_.flatMap EntD.cells), Res.star (es17_.map EntD.dres), Res.vec 3 1 r118_ l119_.length (l119_.flatMap I1), Res.vec 3 1 r220_ l221_.length (l221_.flatMap I1), Res.vec 5 1 dv23_ dl24_.length (dl24_.map vb), Res.row b6 97 [.int .i64 kd7_, .int .i64 sr8_, .int .i64 ds9_, .int .u64 (tm10_ : Nat), .int .u64 (ix11_ : Nat), .int .u64 (lt12_ : Nat), .int .u64 (cm13_ : Nat), .int .u64 (rn14_ : Nat), .bool f15_, ev16_, r118_, r220_, .int .i64 of22_, dv23_]])) w1 (hw.frame0 hO)
        refine l_on rfl (gF h10_2) ?_
        refine l_notp (q := ({ kind := kd7_, src := sr8_, dst := ds9_, term := tm10_, index := ix11_, logTerm := lt12_, commit := cm13_, round := rn14_, flag := f15_, ev := ev16_, ents := es17_, conf := ({ vv := r118_, vs := l119_, lv := r220_, ls := l221_ } : ConfD), off := of22_, dv := dv23_, data := dl24_ } : MsgD).a = x.a) rfl rfl ?_
        exact l_nil (fun w' hw => ⟨(by repeat (first | exact Out.refl _ _ | refine Out.upd rfl ?_ | refine Out.msk rfl ?_)), rfl, hw⟩)
      refine l_end ?_
      refine c_dec rfl (fun c3 => ?_) (fun c3 => ?_)
      ·
        exact absurd c3 (fun h => h.elim (fun q => q k1.1) (fun q => q k1.2))
      ·
        refine c_skipC ?_
        refine c_reg ?_
        refine l_ldr (cs := [.int .i64 x.kind, .int .i64 x.src, .int .i64 x.dst, .int .u64 (x.term : Nat), .int .u64 (x.index : Nat), .int .u64 (x.logTerm : Nat), .int .u64 (x.commit : Nat), .int .u64 (x.round : Nat), .bool x.flag, r1_, a3_, b4_, .int .i64 x.off, c5_]) 6 rfl rfl (by kernel_rfl) rfl ?_
        refine l_call (by kernel_rfl) rfl rfl (fun w' hw => ?_)
        refine (msgMsg_s ({ x with ev := r1_, ents := es2_, conf := ({ vv := a3_, vs := x.conf.vs, lv := b4_, ls := x.conf.ls } : ConfD), dv := c5_ } : MsgD) w' (MsgD.own_wf hx hf1_1 _ _ _ _) ⟨(hw.rdVec0 1 rfl), (EntD.rd.star0 2 rfl hw), ⟨(hw.rdVec0 3 rfl), (hw.rdVec0 4 rfl)⟩, (hw.rdVec0 5 rfl)⟩).mono ?_
        rintro _ w1 ⟨r26_, rfl, hO⟩
        refine (?_ : CL _ _ _ _ _ _ (Own w [] [Res.row b1 97 (MsgD.cells x), Res.vec 50 5 r1_ es2_.length (es2_.flatMap EntD.cells), Res.star (es2_.map EntD.dres), Res.vec 3 1 a3_ x.conf.vs.length (x.conf.vs.flatMap I1), Res.vec 3 1 b4_ x.conf.ls.length (x.conf.ls.flatMap I1), Res.vec 5 1 c5_ x.data.length (x.data.map vb), Res.row b3 97 [.int .i64 x.kind, .int .i64 x.src, .int .i64 x.dst, .int .u64 (x.term : Nat), .int .u64 (x.index : Nat), .int .u64 (x.logTerm : Nat), .int .u64 (x.commit : Nat), .int .u64 (x.round : Nat), .bool x.flag, r1_, a3_, b4_, .int .i64 x.off, c5_], Res.vec 5 1 r6_ bl.length (bl.map vb), Res.vec 50 5 ev16_ es17_.length (es17_.flatMap EntD.cells), Res.star (es17_.map EntD.dres), Res.vec 3 1 r118_ l119_.length (l119_.flatMap I1), Res.vec 3 1 r220_ l221_.length (l221_.flatMap I1), Res.vec 5 1 dv23_ dl24_.length (dl24_.map vb), Res.row b6 97 [.int .i64 kd7_, .int .i64 sr8_, .int .i64 ds9_, .int .u64 (tm10_ : Nat), .int .u64 (ix11_ : Nat), .int .u64 (lt12_ : Nat), .int .u64 (cm13_ : Nat), .int .u64 (rn14_ : Nat), .bool f15_, ev16_, r118_, r220_, .int .i64 of22_, dv23_], Res.vec 5 1 r26_ (if ({ x with ev := r1_, ents := es2_, conf := ({ vv := a3_, vs := x.conf.vs, lv := b4_, ls := x.conf.ls } : ConfD), dv := c5_ } : MsgD).a.ok then ({ x with ev := r1_, ents := es2_, conf := ({ vv := a3_, vs := x.conf.vs, lv := b4_, ls := x.conf.ls } : ConfD), dv := c5_ } : MsgD).a.enc else []).length ((if ({ x with ev := r1_, ents := es2_, conf := ({ vv := a3_, vs := x.conf.vs, lv := b4_, ls := x.conf.ls } : ConfD), dv := c5_ } : MsgD).a.ok then ({ x with ev := r1_, ents := es2_, conf := ({ vv := a3_, vs := x.conf.vs, lv := b4_, ls := x.conf.ls } : ConfD), dv := c5_ } : MsgD).a.enc else []).map vb)])) w1 (hw.frame0 hO)
        refine l_mv rfl ?_
        refine l_ext (vs := [r26_, .int .i64 (errOf ({ x with ev := r1_, ents := es2_, conf := ({ vv := a3_, vs := x.conf.vs, lv := b4_, ls := x.conf.ls } : ConfD), dv := c5_ } : MsgD).a.ok)]) rfl rfl rfl ?_
        refine l_ext (vs := [r26_, .int .i64 (errOf ({ x with ev := r1_, ents := es2_, conf := ({ vv := a3_, vs := x.conf.vs, lv := b4_, ls := x.conf.ls } : ConfD), dv := c5_ } : MsgD).a.ok)]) rfl rfl rfl ?_
        refine l_as rfl ?_
        refine l_as rfl ?_
        refine l_end ?_
        refine c_seq ?_
        refine c_reg ?_
        refine l_as rfl ?_
        refine l_end ?_
        refine c_block ?_
        refine c_loop2 (fun (k : Nat) (el : List EntD) => [(1, .pointer (some ⟨b1, 0, none⟩)), (6, .pointer (some ⟨b6, 0, none⟩)), (9, r26_), (10, .int .i64 (errOf ({ x with ev := r1_, ents := es2_, conf := ({ vv := a3_, vs := x.conf.vs, lv := b4_, ls := x.conf.ls } : ConfD), dv := c5_ } : MsgD).a.ok)), (11, .int .i64 (k : Nat))]) (fun (k : Nat) (el : List EntD) => k ≤ el.length ∧ el.length ≤ 8) (fun (k : Nat) (el : List EntD) => [Res.row b1 97 (MsgD.cells x), Res.vec 50 5 ev16_ el.length (el.flatMap EntD.cells), Res.row b6 97 [.int .i64 kd7_, .int .i64 sr8_, .int .i64 ds9_, .int .u64 (tm10_ : Nat), .int .u64 (ix11_ : Nat), .int .u64 (lt12_ : Nat), .int .u64 (cm13_ : Nat), .int .u64 (rn14_ : Nat), .bool f15_, ev16_, r118_, r220_, .int .i64 of22_, dv23_], Res.vec 5 1 r26_ (if ({ x with ev := r1_, ents := es2_, conf := ({ vv := a3_, vs := x.conf.vs, lv := b4_, ls := x.conf.ls } : ConfD), dv := c5_ } : MsgD).a.ok then ({ x with ev := r1_, ents := es2_, conf := ({ vv := a3_, vs := x.conf.vs, lv := b4_, ls := x.conf.ls } : ConfD), dv := c5_ } : MsgD).a.enc else []).length ((if ({ x with ev := r1_, ents := es2_, conf := ({ vv := a3_, vs := x.conf.vs, lv := b4_, ls := x.conf.ls } : ConfD), dv := c5_ } : MsgD).a.ok then ({ x with ev := r1_, ents := es2_, conf := ({ vv := a3_, vs := x.conf.vs, lv := b4_, ls := x.conf.ls } : ConfD), dv := c5_ } : MsgD).a.enc else []).map vb)]) (fun (k : Nat) (el : List EntD) => el.length - k) (fun w' hw => ⟨0, es17_, ⟨rfl, rfl, rfl, rfl, rfl, trivial⟩, ⟨Nat.zero_le _, hes⟩, hw.sel [0, 8, 13, 14] rfl (by decide)⟩) (fun k el g hΦ => ?_)
        refine c_seq ?_
        refine c_reg ?_
        refine l_mv rfl ?_
        refine l_fld (o := 9) rfl (by kernel_rfl) rfl ?_
        refine l_ldo 2 (v := ev16_) rfl rfl rfl (by kernel_rfl) rfl ?_
        refine l_lenS (len := el.length) (cs := (el.flatMap EntD.cells)) (by kernel_rfl) rfl (fun w' hw' => Vec.sl (Own.holds hw' 1 _ rfl)) rfl ?_
        refine l_lss rfl rfl rfl ?_
        refine l_end ?_
        refine c_dec rfl (fun c4 => ?_) (fun c4 => ?_)
        ·
          refine c_skipC ?_
          refine c_seq ?_
          refine c_block ?_
          refine c_last ?_
          refine l_fld (o := 9) rfl (by kernel_rfl) rfl ?_
          refine l_ldo 2 (v := ev16_) rfl rfl rfl (by kernel_rfl) rfl ?_
          refine l_mv rfl ?_
          refine l_bld (cs := [.int .u64 (0 : Nat), .int .u64 (0 : Nat), .int .i64 0, .int .i64 0, .slice none 0 0]) (z := [.int .u64 (0 : Nat), .int .u64 (0 : Nat), .int .i64 0, .int .i64 0, .slice none 0 0]) (pl := [(0, 1), (1, 1), (2, 1), (3, 1), (4, 1)]) (by kernel_rfl) (by kernel_rfl) rfl ?_
          refine l_idxS (j := k) (sz := 5) (len := el.length) (cs := (el.flatMap EntD.cells)) rfl rfl (by kernel_rfl) (fun w' hw' => Vec.sl (Own.holds hw' 1 _ rfl)) rfl (by omega) rfl ?_
          refine l_stVN 1 (k * 5) (v := ev16_) (off := offV ev16_ + k * 5) (cs := (el.flatMap EntD.cells)) (vs := [.int .u64 (0 : Nat), .int .u64 (0 : Nat), .int .i64 0, .int .i64 0, .slice none 0 0]) rfl (by omega) rfl rfl (by kernel_rfl) (allc_cons rfl (allc_cons rfl (allc_cons rfl (allc_cons rfl (allc_cons rfl allc_nil))))) (by rw [flat_len (g := EntD.cells) (sz := 5) (fun _ => rfl)]; simp only [List.length_cons, List.length_nil]; omega) ?_
          refine l_own [Res.row b1 97 (MsgD.cells x), Res.vec 50 5 ev16_ (el.set k ({ index := 0, term := 0, kind := 0, delta := 0, dv := .slice none 0 0, data := [] } : EntD)).length ((el.set k ({ index := 0, term := 0, kind := 0, delta := 0, dv := .slice none 0 0, data := [] } : EntD)).flatMap EntD.cells), Res.row b6 97 [.int .i64 kd7_, .int .i64 sr8_, .int .i64 ds9_, .int .u64 (tm10_ : Nat), .int .u64 (ix11_ : Nat), .int .u64 (lt12_ : Nat), .int .u64 (cm13_ : Nat), .int .u64 (rn14_ : Nat), .bool f15_, ev16_, r118_, r220_, .int .i64 of22_, dv23_], Res.vec 5 1 r26_ (if ({ x with ev := r1_, ents := es2_, conf := ({ vv := a3_, vs := x.conf.vs, lv := b4_, ls := x.conf.ls } : ConfD), dv := c5_ } : MsgD).a.ok then ({ x with ev := r1_, ents := es2_, conf := ({ vv := a3_, vs := x.conf.vs, lv := b4_, ls := x.conf.ls } : ConfD), dv := c5_ } : MsgD).a.enc else []).length ((if ({ x with ev := r1_, ents := es2_, conf := ({ vv := a3_, vs := x.conf.vs, lv := b4_, ls := x.conf.ls } : ConfD), dv := c5_ } : MsgD).a.ok then ({ x with ev := r1_, ents := es2_, conf := ({ vv := a3_, vs := x.conf.vs, lv := b4_, ls := x.conf.ls } : ConfD), dv := c5_ } : MsgD).a.enc else []).map vb)] (fun w' hw => by rw [flat_setN (sz := 5) (fun _ => rfl) (by omega), List.length_set]; exact hw) ?_
          refine l_end ?_
          refine c_last ?_
          refine l_mv rfl ?_
          refine l_add rfl rfl (wi64 (by omega)) rfl ?_
          refine l_as rfl ?_
          exact l_nil (fun w' hw => ⟨k + 1, el.set k ({ index := 0, term := 0, kind := 0, delta := 0, dv := .slice none 0 0, data := [] } : EntD), ⟨rfl, rfl, rfl, rfl, rfl, trivial⟩, ⟨by rw [List.length_set]; omega, by rw [List.length_set]; omega⟩, hw, by rw [List.length_set]; omega⟩)
        ·
          refine c_exitC rfl ?_
          refine c_reg ?_
          refine l_mv rfl ?_
          refine l_call (by kernel_rfl) rfl rfl (fun w' hw => ?_)
          refine (toMsg_s r26_ (if ({ x with ev := r1_, ents := es2_, conf := ({ vv := a3_, vs := x.conf.vs, lv := b4_, ls := x.conf.ls } : ConfD), dv := c5_ } : MsgD).a.ok then ({ x with ev := r1_, ents := es2_, conf := ({ vv := a3_, vs := x.conf.vs, lv := b4_, ls := x.conf.ls } : ConfD), dv := c5_ } : MsgD).a.enc else []) w' (by rw [MsgD.own_a hf1_1, if_pos hok]; omega) (hw.rdVec0 3 rfl)).mono ?_
          rintro _ w1 ⟨kd27_, sr28_, ds29_, tm30_, ix31_, lt32_, cm33_, rn34_, f35_, ev36_, es37_, r138_, l139_, r240_, l241_, of42_, dv43_, dl44_, e45_, rfl, hf17_1, hf17_1_1, hf17_1_2, hO⟩
          have hv2 := hf17_1
          rw [MsgD.own_a hf1_1, if_pos hok] at hv2
          have k2 := hv2.some (whole_enc hrt hok)
          have hwf2 := hf17_1_2.wf hf17_1_1 (by rw [MsgD.own_a hf1_1, if_pos hok]; omega)
          refine (?_ : CL _ _ _ _ _ _ (Own w [] [Res.row b1 97 (MsgD.cells x), Res.vec 50 5 ev16_ el.length (el.flatMap EntD.cells), Res.row b6 97 [.int .i64 kd7_, .int .i64 sr8_, .int .i64 ds9_, .int .u64 (tm10_ : Nat), .int .u64 (ix11_ : Nat), .int .u64 (lt12_ : Nat), .int .u64 (cm13_ : Nat), .int .u64 (rn14_ : Nat), .bool f15_, ev16_, r118_, r220_, .int .i64 of22_, dv23_], Res.vec 5 1 r26_ (if ({ x with ev := r1_, ents := es2_, conf := ({ vv := a3_, vs := x.conf.vs, lv := b4_, ls := x.conf.ls } : ConfD), dv := c5_ } : MsgD).a.ok then ({ x with ev := r1_, ents := es2_, conf := ({ vv := a3_, vs := x.conf.vs, lv := b4_, ls := x.conf.ls } : ConfD), dv := c5_ } : MsgD).a.enc else []).length ((if ({ x with ev := r1_, ents := es2_, conf := ({ vv := a3_, vs := x.conf.vs, lv := b4_, ls := x.conf.ls } : ConfD), dv := c5_ } : MsgD).a.ok then ({ x with ev := r1_, ents := es2_, conf := ({ vv := a3_, vs := x.conf.vs, lv := b4_, ls := x.conf.ls } : ConfD), dv := c5_ } : MsgD).a.enc else []).map vb), Res.vec 50 5 ev36_ es37_.length (es37_.flatMap EntD.cells), Res.star (es37_.map EntD.dres), Res.vec 3 1 r138_ l139_.length (l139_.flatMap I1), Res.vec 3 1 r240_ l241_.length (l241_.flatMap I1), Res.vec 5 1 dv43_ dl44_.length (dl44_.map vb)])) w1 (hw.frame0 hO)
          refine l_mv rfl ?_
          refine l_ext (vs := [.agg #[.int .i64 kd27_, .int .i64 sr28_, .int .i64 ds29_, .int .u64 (tm30_ : Nat), .int .u64 (ix31_ : Nat), .int .u64 (lt32_ : Nat), .int .u64 (cm33_ : Nat), .int .u64 (rn34_ : Nat), .bool f35_, ev36_, r138_, r240_, .int .i64 of42_, dv43_], .int .i64 e45_]) rfl rfl rfl ?_
          refine l_ext (vs := [.agg #[.int .i64 kd27_, .int .i64 sr28_, .int .i64 ds29_, .int .u64 (tm30_ : Nat), .int .u64 (ix31_ : Nat), .int .u64 (lt32_ : Nat), .int .u64 (cm33_ : Nat), .int .u64 (rn34_ : Nat), .bool f35_, ev36_, r138_, r240_, .int .i64 of42_, dv43_], .int .i64 e45_]) rfl rfl rfl ?_
          refine l_new (v := .agg #[.int .i64 0, .int .i64 0, .int .i64 0, .int .u64 (0 : Nat), .int .u64 (0 : Nat), .int .u64 (0 : Nat), .int .u64 (0 : Nat), .int .u64 (0 : Nat), .bool false, .slice none 0 0, .slice none 0 0, .slice none 0 0, .int .i64 0, .slice none 0 0]) (by kernel_rfl) rfl (fun b12 => ?_)
          refine l_haveO (fun w' hw => Own.cell1Vec (i := 4) rfl hw) (fun hc9_ => ?_)
          refine l_haveO (fun w' hw => Own.cell1Vec (i := 6) rfl hw) (fun hc10_ => ?_)
          refine l_haveO (fun w' hw => Own.cell1Vec (i := 7) rfl hw) (fun hc11_ => ?_)
          refine l_haveO (fun w' hw => Own.cell1Vec (i := 8) rfl hw) (fun hc12_ => ?_)
          refine l_stN (cs := [.int .i64 0, .int .i64 0, .int .i64 0, .int .u64 (0 : Nat), .int .u64 (0 : Nat), .int .u64 (0 : Nat), .int .u64 (0 : Nat), .int .u64 (0 : Nat), .bool false, .slice none 0 0, .slice none 0 0, .slice none 0 0, .int .i64 0, .slice none 0 0]) (vs := [.int .i64 kd27_, .int .i64 sr28_, .int .i64 ds29_, .int .u64 (tm30_ : Nat), .int .u64 (ix31_ : Nat), .int .u64 (lt32_ : Nat), .int .u64 (cm33_ : Nat), .int .u64 (rn34_ : Nat), .bool f35_, ev36_, r138_, r240_, .int .i64 of42_, dv43_]) 9 rfl rfl rfl (by kernel_rfl) (allc_cons rfl (allc_cons rfl (allc_cons rfl (allc_cons rfl (allc_cons rfl (allc_cons rfl (allc_cons rfl (allc_cons rfl (allc_cons rfl (allc_cons hc9_ (allc_cons hc10_ (allc_cons hc11_ (allc_cons rfl (allc_cons hc12_ allc_nil)))))))))))))) (Nat.le_of_ble_eq_true rfl) ?_
          refine l_as rfl ?_
          refine l_end ?_
          refine c_reg ?_
          refine l_mv rfl ?_
          refine l_eq rfl rfl rfl ?_
          refine l_mv rfl ?_
          refine l_band (q := (errOf ({ x with ev := r1_, ents := es2_, conf := ({ vv := a3_, vs := x.conf.vs, lv := b4_, ls := x.conf.ls } : ConfD), dv := c5_ } : MsgD).a.ok) = 0) 2 2 [87, 86] (e45_ = 0) rfl rfl rfl rfl rfl rfl trivial rfl (fun h18_2 => ?_) (fun g18_5 => ?_)
          ·
            refine l_on rfl (gT h18_2) ?_
            refine l_mv rfl ?_
            refine l_on rfl (gT h18_2) ?_
            refine l_eq rfl rfl rfl ?_
            exact l_nil (fun w' hw => ⟨(by repeat (first | exact Out.refl _ _ | refine Out.upd rfl ?_ | refine Out.msk rfl ?_)), rfl, hw⟩)
          refine l_mv rfl ?_
          refine l_band (q := ((errOf ({ x with ev := r1_, ents := es2_, conf := ({ vv := a3_, vs := x.conf.vs, lv := b4_, ls := x.conf.ls } : ConfD), dv := c5_ } : MsgD).a.ok) = 0) ∧ (e45_ = 0)) 3 6 [92, 91, 90] (({ kind := kd27_, src := sr28_, dst := ds29_, term := tm30_, index := ix31_, logTerm := lt32_, commit := cm33_, round := rn34_, flag := f35_, ev := ev36_, ents := es37_, conf := ({ vv := r138_, vs := l139_, lv := r240_, ls := l241_ } : ConfD), off := of42_, dv := dv43_, data := dl44_ } : MsgD).a = x.a) rfl rfl rfl rfl rfl rfl trivial rfl (fun h18_6 => ?_) (fun g18_10 => ?_)
          ·
            refine l_on rfl (gT h18_6) ?_
            refine l_ldr (cs := [.int .i64 kd27_, .int .i64 sr28_, .int .i64 ds29_, .int .u64 (tm30_ : Nat), .int .u64 (ix31_ : Nat), .int .u64 (lt32_ : Nat), .int .u64 (cm33_ : Nat), .int .u64 (rn34_ : Nat), .bool f35_, ev36_, r138_, r240_, .int .i64 of42_, dv43_]) 9 rfl rfl (by kernel_rfl) rfl ?_
            refine l_on rfl (gT h18_6) ?_
            refine l_ldr (cs := (MsgD.cells x)) 0 rfl rfl (by kernel_rfl) rfl ?_
            refine l_on rfl (gT h18_6) ?_
            refine l_call (by kernel_rfl) rfl rfl (fun w' hw => ?_)
            refine (sameMsg_s ({ kind := kd27_, src := sr28_, dst := ds29_, term := tm30_, index := ix31_, logTerm := lt32_, commit := cm33_, round := rn34_, flag := f35_, ev := ev36_, ents := es37_, conf := ({ vv := r138_, vs := l139_, lv := r240_, ls := l241_ } : ConfD), off := of42_, dv := dv43_, data := dl44_ } : MsgD) x w' hwf2 hx ⟨(hw.rdVec0 4 rfl), (EntD.rd.star0 5 rfl hw), ⟨(hw.rdVec0 6 rfl), (hw.rdVec0 7 rfl)⟩, (hw.rdVec0 8 rfl)⟩ (rd_x.at0 hw)).mono ?_
            rintro _ w1 ⟨rfl, hO⟩
            refine (?_ : CL _ _ _ _ _ _ (Own w [] [Res.row b1 97 (MsgD.cells x), Res.vec 50 5 ev16_ el.length (el.flatMap EntD.cells), Res.row b6 97 [.int .i64 kd7_, .int .i64 sr8_, .int .i64 ds9_, .int .u64 (tm10_ : Nat), .int .u64 (ix11_ : Nat), .int .u64 (lt12_ : Nat), .int .u64 (cm13_ : Nat), .int .u64 (rn14_ : Nat), .bool f15_, ev16_, r118_, r220_, .int .i64 of22_, dv23_], Res.vec 5 1 r26_ (if ({ x with ev := r1_, ents := es2_, conf := ({ vv := a3_, vs := x.conf.vs, lv := b4_, ls := x.conf.ls } : ConfD), dv := c5_ } : MsgD).a.ok then ({ x with ev := r1_, ents := es2_, conf := ({ vv := a3_, vs := x.conf.vs, lv := b4_, ls := x.conf.ls } : ConfD), dv := c5_ } : MsgD).a.enc else []).length ((if ({ x with ev := r1_, ents := es2_, conf := ({ vv := a3_, vs := x.conf.vs, lv := b4_, ls := x.conf.ls } : ConfD), dv := c5_ } : MsgD).a.ok then ({ x with ev := r1_, ents := es2_, conf := ({ vv := a3_, vs := x.conf.vs, lv := b4_, ls := x.conf.ls } : ConfD), dv := c5_ } : MsgD).a.enc else []).map vb), Res.vec 50 5 ev36_ es37_.length (es37_.flatMap EntD.cells), Res.star (es37_.map EntD.dres), Res.vec 3 1 r138_ l139_.length (l139_.flatMap I1), Res.vec 3 1 r240_ l241_.length (l241_.flatMap I1), Res.vec 5 1 dv43_ dl44_.length (dl44_.map vb), Res.row b12 97 [.int .i64 kd27_, .int .i64 sr28_, .int .i64 ds29_, .int .u64 (tm30_ : Nat), .int .u64 (ix31_ : Nat), .int .u64 (lt32_ : Nat), .int .u64 (cm33_ : Nat), .int .u64 (rn34_ : Nat), .bool f35_, ev36_, r138_, r240_, .int .i64 of42_, dv43_]])) w1 (hw.frame0 hO)
            exact l_nil (fun w' hw => ⟨(by repeat (first | exact Out.refl _ _ | refine Out.upd rfl ?_ | refine Out.msk rfl ?_)), rfl, hw⟩)
          refine l_as rfl ?_
          refine l_end ?_
          exact c_ret (ret1 (v := .bool (decide ((((errOf ({ x with ev := r1_, ents := es2_, conf := ({ vv := a3_, vs := x.conf.vs, lv := b4_, ls := x.conf.ls } : ConfD), dv := c5_ } : MsgD).a.ok) = 0) ∧ (e45_ = 0)) ∧ (({ kind := kd27_, src := sr28_, dst := ds29_, term := tm30_, index := ix31_, logTerm := lt32_, commit := cm33_, round := rn34_, flag := f35_, ev := ev36_, ents := es37_, conf := ({ vv := r138_, vs := l139_, lv := r240_, ls := l241_ } : ConfD), off := of42_, dv := dv43_, data := dl44_ } : MsgD).a = x.a)))) rfl rfl (fun w' hw => ⟨(by rw [decide_eq_true]; exact ⟨⟨by rw [MsgD.own_a hf1_1]; exact errOf_T hok, k2.1⟩, k2.2⟩), hw.drop⟩))
end Go.Proofs.Ytlkoekhjegaimaa
