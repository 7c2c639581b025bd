/-
  THE WALK OF MsgApart.
-/
import Derived.Test.YtlkoekhjegaimaaCmdN
import Derived.Test.YtlkoekhjegaimaaBack
set_option linter.unusedVariables false
set_option maxRecDepth 10000
namespace Go.Proofs.Ytlkoekhjegaimaa
open Go Go.Sc Go.Proofs

theorem CmdDEq (r s : CmdD) : eqL [(0, some (some .u64)), (1, some (some .u64)), (2, some (some .i64)), (3, some none), (4, some (some .i64)), (5, some (some .i64)), (6, some (some .u64))] r.cells s.cells = decide (r = s) := by
  obtain ⟨a, b, c, d, e, f, g⟩ := r
  obtain ⟨a', b', c', d', e', f', g'⟩ := s
  simp [eqL, CmdD.cells, eqC, CmdD.mk.injEq, Bool.decide_and]
  have h : ∀ m n : Nat, decide ((m : Int) = n) = decide (m = n) := fun m n => decide_eq_decide.2 (by omega)
  simp only [h]
theorem RepDEq (r s : RepD) : eqL [(0, some (some .u64)), (1, some (some .u64)), (2, some (some .i64)), (3, some (some .u64)), (4, some (some .i64)), (5, some (some .i64))] r.cells s.cells = decide (r = s) := by
  obtain ⟨a, b, c, d, e, f⟩ := r
  obtain ⟨a', b', c', d', e', f'⟩ := s
  simp [eqL, RepD.cells, eqC, RepD.mk.injEq, Bool.decide_and]
  have h : ∀ m n : Nat, decide ((m : Int) = n) = decide (m = n) := fun m n => decide_eq_decide.2 (by omega)
  simp only [h]
def strOf (l : List UInt8) : ByteArray := ⟨l.toArray⟩
theorem strOf_strB (s : ByteArray) : strOf (strB s) = s := by obtain ⟨d⟩ := s; simp [strOf, strB]
def pCmd : Parser CmdD := pBind pNum fun s => pBind pNum fun q => pBind (pInt 5) fun o => pBind pBytes fun k => pBind pNum fun a => pBind pNum fun p => pBind pNum fun l => pPure ⟨s, q, o, strOf k, toI a, toI p, l⟩
def pRpl : Parser RepD := pBind pNum fun s => pBind pNum fun q => pBind (pInt 20) fun e => pBind pNum fun l => pBind pNum fun a => pBind pNum fun u => pPure ⟨s, q, e, l, toI a, toI u⟩
theorem rt_cmd {x : CmdD} (h : x.ok) (hw : x.wf) : Rt pCmd x x.enc := by
  have e : x.enc = num x.session ++ (num x.seq ++ (num (u64 x.op) ++ (dat (strB x.key) ++ (num (u64 x.amount) ++ (num (u64 x.span) ++ (num x.lease ++ [])))))) := by simp [CmdD.enc, numsB]
  rw [e]
  have hk := hw.key
  have hl := strB_length x.key
  obtain ⟨⟨a1, a2⟩, a3⟩ := h
  have h7 : Rt (pPure (⟨x.session, x.seq, x.op, strOf (strB x.key), toI (u64 x.amount), toI (u64 x.span), x.lease⟩ : CmdD)) x [] := by
    rw [strOf_strB, toI_u64 hw.amount, toI_u64 hw.span]; exact Rt.pure x
  exact (rt_num hw.session).bind ((rt_num hw.seq).bind ((rt_int (by omega) (by omega) (by decide)).bind ((rt_bytes (by omega)).bind ((rt_num (u64_lt _)).bind ((rt_num (u64_lt _)).bind ((rt_num hw.lease).bind h7))))))
theorem rt_rpl {x : RepD} (h : x.ok) (hw : x.wf) : Rt pRpl x x.enc := by
  have e : x.enc = num x.session ++ (num x.seq ++ (num (u64 x.e) ++ (num x.lease ++ (num (u64 x.amount) ++ (num (u64 x.until_) ++ []))))) := by simp [RepD.enc, numsB]
  rw [e]
  obtain ⟨a1, a2⟩ := h
  have h7 : Rt (pPure (⟨x.session, x.seq, x.e, x.lease, toI (u64 x.amount), toI (u64 x.until_)⟩ : RepD)) x [] := by
    rw [toI_u64 hw.amount, toI_u64 hw.until_]; exact Rt.pure x
  exact (rt_num hw.session).bind ((rt_num hw.seq).bind ((rt_int a1 a2 (by decide)).bind ((rt_num hw.lease).bind ((rt_num (u64_lt _)).bind ((rt_num (u64_lt _)).bind h7)))))
theorem apart {α : Type} {p : Parser α} {a b : α} {oka okb : Prop} [Decidable oka] [Decidable okb] {ea eb : List UInt8} (ha : oka → Rt p a ea) (hb : okb → Rt p b eb) (he : a = b → ea = eb) (h1 : errOf oka = 0) (h2 : errOf okb = 0) :
    ((⟨(if oka then ea else []).toArray⟩ : ByteArray) = ⟨(if okb then eb else []).toArray⟩) ↔ a = b := by
  have k1 := errOf_zero.1 h1
  have k2 := errOf_zero.1 h2
  rw [str_eq, if_pos k1, if_pos k2]
  exact ⟨fun h => enc_inj (ha k1) (h ▸ hb k2), he⟩

set_option maxHeartbeats 2000000 in
theorem msgApart_s (a b : CmdD) (c d : RepD) (m n : MsgD) (w : World) (ha : a.wf) (hb : b.wf) (hc : c.wf) (hd : d.wf) (hm : m.wf) (hn : n.wf) (rd_m : MsgD.rd m w []) (rd_n : MsgD.rd n w []) : Rets Try.prog 9 #[.agg (CmdD.cells a).toArray, .agg (CmdD.cells b).toArray, .agg (RepD.cells c).toArray, .agg (RepD.cells d).toArray, .agg (MsgD.cells m).toArray, .agg (MsgD.cells n).toArray] w fun u_ w' => u_ = .bool true ∧ Own w [] [] w' := by
  refine fn_enter (args := [.agg (CmdD.cells a).toArray, .agg (CmdD.cells b).toArray, .agg (RepD.cells c).toArray, .agg (RepD.cells d).toArray, .agg (MsgD.cells m).toArray, .agg (MsgD.cells n).toArray]) Try.func9 rfl Try.ntmps9 rfl (Own.start w) ?_
  refine c_reg ?_
  refine l_box rfl rfl (fun b6 => ?_)
  refine l_box rfl rfl (fun b7 => ?_)
  refine l_box rfl rfl (fun b8 => ?_)
  refine l_box rfl rfl (fun b9 => ?_)
  refine l_box rfl rfl (fun b10 => ?_)
  refine l_box rfl rfl (fun b11 => ?_)
  refine l_as rfl ?_
  refine l_end ?_
  refine c_reg ?_
  refine l_ldr (cs := (CmdD.cells a)) 0 rfl rfl (by kernel_rfl) rfl ?_
  refine l_call (by kernel_rfl) rfl rfl (fun w' hw => ?_)
  refine (msgCommand_s a w' (by first | assumption | omega | (simp <;> omega) | (constructor <;> (first | omega | (simp only [LenOk]; omega) | (simp <;> omega))))).mono ?_
  rintro _ w1 ⟨r1_, rfl, hO⟩
  refine (?_ : CL _ _ _ _ _ _ (Own w [] [Res.row b6 24 (CmdD.cells a), Res.row b7 24 (CmdD.cells b), Res.row b8 27 (RepD.cells c), Res.row b9 27 (RepD.cells d), Res.row b10 97 (MsgD.cells m), Res.row b11 97 (MsgD.cells n), Res.vec 5 1 r1_ (if a.ok then a.enc else []).length ((if a.ok then a.enc else []).map vb)])) w1 (hw.frame0 hO)
  refine l_mv rfl ?_
  refine l_ext (vs := [r1_, .int .i64 (errOf a.ok)]) rfl rfl rfl ?_
  refine l_ext (vs := [r1_, .int .i64 (errOf a.ok)]) rfl rfl rfl ?_
  refine l_as rfl ?_
  refine l_as rfl ?_
  refine l_end ?_
  refine c_reg ?_
  refine l_ldr (cs := (CmdD.cells b)) 1 rfl rfl (by kernel_rfl) rfl ?_
  refine l_call (by kernel_rfl) rfl rfl (fun w' hw => ?_)
  refine (msgCommand_s b w' (by first | assumption | omega | (simp <;> omega) | (constructor <;> (first | omega | (simp only [LenOk]; omega) | (simp <;> omega))))).mono ?_
  rintro _ w1 ⟨r2_, rfl, hO⟩
  refine (?_ : CL _ _ _ _ _ _ (Own w [] [Res.row b6 24 (CmdD.cells a), Res.row b7 24 (CmdD.cells b), Res.row b8 27 (RepD.cells c), Res.row b9 27 (RepD.cells d), Res.row b10 97 (MsgD.cells m), Res.row b11 97 (MsgD.cells n), Res.vec 5 1 r1_ (if a.ok then a.enc else []).length ((if a.ok then a.enc else []).map vb), Res.vec 5 1 r2_ (if b.ok then b.enc else []).length ((if b.ok then b.enc else []).map vb)])) w1 (hw.frame0 hO)
  refine l_mv rfl ?_
  refine l_ext (vs := [r2_, .int .i64 (errOf b.ok)]) rfl rfl rfl ?_
  refine l_ext (vs := [r2_, .int .i64 (errOf b.ok)]) rfl rfl rfl ?_
  refine l_as rfl ?_
  refine l_as rfl ?_
  refine l_end ?_
  refine c_reg ?_
  refine l_ldr (cs := (RepD.cells c)) 2 rfl rfl (by kernel_rfl) rfl ?_
  refine l_call (by kernel_rfl) rfl rfl (fun w' hw => ?_)
  refine (msgReply_s c w' (by first | assumption | omega | (simp <;> omega) | (constructor <;> (first | omega | (simp only [LenOk]; omega) | (simp <;> omega))))).mono ?_
  rintro _ w1 ⟨r3_, rfl, hO⟩
  refine (?_ : CL _ _ _ _ _ _ (Own w [] [Res.row b6 24 (CmdD.cells a), Res.row b7 24 (CmdD.cells b), Res.row b8 27 (RepD.cells c), Res.row b9 27 (RepD.cells d), Res.row b10 97 (MsgD.cells m), Res.row b11 97 (MsgD.cells n), Res.vec 5 1 r1_ (if a.ok then a.enc else []).length ((if a.ok then a.enc else []).map vb), Res.vec 5 1 r2_ (if b.ok then b.enc else []).length ((if b.ok then b.enc else []).map vb), Res.vec 5 1 r3_ (if c.ok then c.enc else []).length ((if c.ok then c.enc else []).map vb)])) w1 (hw.frame0 hO)
  refine l_mv rfl ?_
  refine l_ext (vs := [r3_, .int .i64 (errOf c.ok)]) rfl rfl rfl ?_
  refine l_ext (vs := [r3_, .int .i64 (errOf c.ok)]) rfl rfl rfl ?_
  refine l_as rfl ?_
  refine l_as rfl ?_
  refine l_end ?_
  refine c_reg ?_
  refine l_ldr (cs := (RepD.cells d)) 3 rfl rfl (by kernel_rfl) rfl ?_
  refine l_call (by kernel_rfl) rfl rfl (fun w' hw => ?_)
  refine (msgReply_s d w' (by first | assumption | omega | (simp <;> omega) | (constructor <;> (first | omega | (simp only [LenOk]; omega) | (simp <;> omega))))).mono ?_
  rintro _ w1 ⟨r4_, rfl, hO⟩
  refine (?_ : CL _ _ _ _ _ _ (Own w [] [Res.row b6 24 (CmdD.cells a), Res.row b7 24 (CmdD.cells b), Res.row b8 27 (RepD.cells c), Res.row b9 27 (RepD.cells d), Res.row b10 97 (MsgD.cells m), Res.row b11 97 (MsgD.cells n), Res.vec 5 1 r1_ (if a.ok then a.enc else []).length ((if a.ok then a.enc else []).map vb), Res.vec 5 1 r2_ (if b.ok then b.enc else []).length ((if b.ok then b.enc else []).map vb), Res.vec 5 1 r3_ (if c.ok then c.enc else []).length ((if c.ok then c.enc else []).map vb), Res.vec 5 1 r4_ (if d.ok then d.enc else []).length ((if d.ok then d.enc else []).map vb)])) w1 (hw.frame0 hO)
  refine l_mv rfl ?_
  refine l_ext (vs := [r4_, .int .i64 (errOf d.ok)]) rfl rfl rfl ?_
  refine l_ext (vs := [r4_, .int .i64 (errOf d.ok)]) rfl rfl rfl ?_
  refine l_as rfl ?_
  refine l_as rfl ?_
  refine l_end ?_
  refine c_reg ?_
  refine l_ldr (cs := (MsgD.cells m)) 4 rfl rfl (by kernel_rfl) rfl ?_
  refine l_call (by kernel_rfl) rfl rfl (fun w' hw => ?_)
  refine (ownMsg_s m w' (by first | assumption | omega | (simp <;> omega) | (constructor <;> (first | omega | (simp only [LenOk]; omega) | (simp <;> omega)))) (rd_m.at0 hw)).mono ?_
  rintro _ w1 ⟨r5_, es6_, a7_, b8_, c9_, rfl, hf5_1, hO⟩
  refine (?_ : CL _ _ _ _ _ _ (Own w [] [Res.row b6 24 (CmdD.cells a), Res.row b7 24 (CmdD.cells b), Res.row b8 27 (RepD.cells c), Res.row b9 27 (RepD.cells d), Res.row b10 97 (MsgD.cells m), Res.row b11 97 (MsgD.cells n), Res.vec 5 1 r1_ (if a.ok then a.enc else []).length ((if a.ok then a.enc else []).map vb), Res.vec 5 1 r2_ (if b.ok then b.enc else []).length ((if b.ok then b.enc else []).map vb), Res.vec 5 1 r3_ (if c.ok then c.enc else []).length ((if c.ok then c.enc else []).map vb), Res.vec 5 1 r4_ (if d.ok then d.enc else []).length ((if d.ok then d.enc else []).map vb), Res.vec 50 5 r5_ es6_.length (es6_.flatMap EntD.cells), Res.star (es6_.map EntD.dres), Res.vec 3 1 a7_ m.conf.vs.length (m.conf.vs.flatMap I1), Res.vec 3 1 b8_ m.conf.ls.length (m.conf.ls.flatMap I1), Res.vec 5 1 c9_ m.data.length (m.data.map vb)])) w1 (hw.frame0 hO)
  refine l_call (by kernel_rfl) rfl rfl (fun w' hw => ?_)
  refine (msgMsg_s ({ m with ev := r5_, ents := es6_, conf := ({ vv := a7_, vs := m.conf.vs, lv := b8_, ls := m.conf.ls } : ConfD), dv := c9_ } : MsgD) w' (MsgD.own_wf hm hf5_1 _ _ _ _) ⟨(hw.rdVec0 10 rfl), (EntD.rd.star0 11 rfl hw), ⟨(hw.rdVec0 12 rfl), (hw.rdVec0 13 rfl)⟩, (hw.rdVec0 14 rfl)⟩).mono ?_
  rintro _ w1 ⟨r10_, rfl, hO⟩
  refine (?_ : CL _ _ _ _ _ _ (Own w [] [Res.row b6 24 (CmdD.cells a), Res.row b7 24 (CmdD.cells b), Res.row b8 27 (RepD.cells c), Res.row b9 27 (RepD.cells d), Res.row b10 97 (MsgD.cells m), Res.row b11 97 (MsgD.cells n), Res.vec 5 1 r1_ (if a.ok then a.enc else []).length ((if a.ok then a.enc else []).map vb), Res.vec 5 1 r2_ (if b.ok then b.enc else []).length ((if b.ok then b.enc else []).map vb), Res.vec 5 1 r3_ (if c.ok then c.enc else []).length ((if c.ok then c.enc else []).map vb), Res.vec 5 1 r4_ (if d.ok then d.enc else []).length ((if d.ok then d.enc else []).map vb), Res.vec 50 5 r5_ es6_.length (es6_.flatMap EntD.cells), Res.star (es6_.map EntD.dres), Res.vec 3 1 a7_ m.conf.vs.length (m.conf.vs.flatMap I1), Res.vec 3 1 b8_ m.conf.ls.length (m.conf.ls.flatMap I1), Res.vec 5 1 c9_ m.data.length (m.data.map vb), Res.vec 5 1 r10_ (if ({ m with ev := r5_, ents := es6_, conf := ({ vv := a7_, vs := m.conf.vs, lv := b8_, ls := m.conf.ls } : ConfD), dv := c9_ } : MsgD).a.ok then ({ m with ev := r5_, ents := es6_, conf := ({ vv := a7_, vs := m.conf.vs, lv := b8_, ls := m.conf.ls } : ConfD), dv := c9_ } : MsgD).a.enc else []).length ((if ({ m with ev := r5_, ents := es6_, conf := ({ vv := a7_, vs := m.conf.vs, lv := b8_, ls := m.conf.ls } : ConfD), dv := c9_ } : MsgD).a.ok then ({ m with ev := r5_, ents := es6_, conf := ({ vv := a7_, vs := m.conf.vs, lv := b8_, ls := m.conf.ls } : ConfD), dv := c9_ } : MsgD).a.enc else []).map vb)])) w1 (hw.frame0 hO)
  refine l_mv rfl ?_
  refine l_ext (vs := [r10_, .int .i64 (errOf ({ m with ev := r5_, ents := es6_, conf := ({ vv := a7_, vs := m.conf.vs, lv := b8_, ls := m.conf.ls } : ConfD), dv := c9_ } : MsgD).a.ok)]) rfl rfl rfl ?_
  refine l_ext (vs := [r10_, .int .i64 (errOf ({ m with ev := r5_, ents := es6_, conf := ({ vv := a7_, vs := m.conf.vs, lv := b8_, ls := m.conf.ls } : ConfD), dv := c9_ } : MsgD).a.ok)]) rfl rfl rfl ?_
  refine l_as rfl ?_
  refine l_as rfl ?_
  refine l_end ?_
  refine c_reg ?_
  refine l_ldr (cs := (MsgD.cells n)) 5 rfl rfl (by kernel_rfl) rfl ?_
  refine l_call (by kernel_rfl) rfl rfl (fun w' hw => ?_)
  refine (ownMsg_s n w' (by first | assumption | omega | (simp <;> omega) | (constructor <;> (first | omega | (simp only [LenOk]; omega) | (simp <;> omega)))) (rd_n.at0 hw)).mono ?_
  rintro _ w1 ⟨r11_, es12_, a13_, b14_, c15_, rfl, hf6_1, hO⟩
  refine (?_ : CL _ _ _ _ _ _ (Own w [] [Res.row b6 24 (CmdD.cells a), Res.row b7 24 (CmdD.cells b), Res.row b8 27 (RepD.cells c), Res.row b9 27 (RepD.cells d), Res.row b10 97 (MsgD.cells m), Res.row b11 97 (MsgD.cells n), Res.vec 5 1 r1_ (if a.ok then a.enc else []).length ((if a.ok then a.enc else []).map vb), Res.vec 5 1 r2_ (if b.ok then b.enc else []).length ((if b.ok then b.enc else []).map vb), Res.vec 5 1 r3_ (if c.ok then c.enc else []).length ((if c.ok then c.enc else []).map vb), Res.vec 5 1 r4_ (if d.ok then d.enc else []).length ((if d.ok then d.enc else []).map vb), Res.vec 50 5 r5_ es6_.length (es6_.flatMap EntD.cells), Res.star (es6_.map EntD.dres), Res.vec 3 1 a7_ m.conf.vs.length (m.conf.vs.flatMap I1), Res.vec 3 1 b8_ m.conf.ls.length (m.conf.ls.flatMap I1), Res.vec 5 1 c9_ m.data.length (m.data.map vb), Res.vec 5 1 r10_ (if ({ m with ev := r5_, ents := es6_, conf := ({ vv := a7_, vs := m.conf.vs, lv := b8_, ls := m.conf.ls } : ConfD), dv := c9_ } : MsgD).a.ok then ({ m with ev := r5_, ents := es6_, conf := ({ vv := a7_, vs := m.conf.vs, lv := b8_, ls := m.conf.ls } : ConfD), dv := c9_ } : MsgD).a.enc else []).length ((if ({ m with ev := r5_, ents := es6_, conf := ({ vv := a7_, vs := m.conf.vs, lv := b8_, ls := m.conf.ls } : ConfD), dv := c9_ } : MsgD).a.ok then ({ m with ev := r5_, ents := es6_, conf := ({ vv := a7_, vs := m.conf.vs, lv := b8_, ls := m.conf.ls } : ConfD), dv := c9_ } : MsgD).a.enc else []).map vb), Res.vec 50 5 r11_ es12_.length (es12_.flatMap EntD.cells), Res.star (es12_.map EntD.dres), Res.vec 3 1 a13_ n.conf.vs.length (n.conf.vs.flatMap I1), Res.vec 3 1 b14_ n.conf.ls.length (n.conf.ls.flatMap I1), Res.vec 5 1 c15_ n.data.length (n.data.map vb)])) w1 (hw.frame0 hO)
  refine l_call (by kernel_rfl) rfl rfl (fun w' hw => ?_)
  refine (msgMsg_s ({ n with ev := r11_, ents := es12_, conf := ({ vv := a13_, vs := n.conf.vs, lv := b14_, ls := n.conf.ls } : ConfD), dv := c15_ } : MsgD) w' (MsgD.own_wf hn hf6_1 _ _ _ _) ⟨(hw.rdVec0 16 rfl), (EntD.rd.star0 17 rfl hw), ⟨(hw.rdVec0 18 rfl), (hw.rdVec0 19 rfl)⟩, (hw.rdVec0 20 rfl)⟩).mono ?_
  rintro _ w1 ⟨r16_, rfl, hO⟩
  refine (?_ : CL _ _ _ _ _ _ (Own w [] [Res.row b6 24 (CmdD.cells a), Res.row b7 24 (CmdD.cells b), Res.row b8 27 (RepD.cells c), Res.row b9 27 (RepD.cells d), Res.row b10 97 (MsgD.cells m), Res.row b11 97 (MsgD.cells n), Res.vec 5 1 r1_ (if a.ok then a.enc else []).length ((if a.ok then a.enc else []).map vb), Res.vec 5 1 r2_ (if b.ok then b.enc else []).length ((if b.ok then b.enc else []).map vb), Res.vec 5 1 r3_ (if c.ok then c.enc else []).length ((if c.ok then c.enc else []).map vb), Res.vec 5 1 r4_ (if d.ok then d.enc else []).length ((if d.ok then d.enc else []).map vb), Res.vec 50 5 r5_ es6_.length (es6_.flatMap EntD.cells), Res.star (es6_.map EntD.dres), Res.vec 3 1 a7_ m.conf.vs.length (m.conf.vs.flatMap I1), Res.vec 3 1 b8_ m.conf.ls.length (m.conf.ls.flatMap I1), Res.vec 5 1 c9_ m.data.length (m.data.map vb), Res.vec 5 1 r10_ (if ({ m with ev := r5_, ents := es6_, conf := ({ vv := a7_, vs := m.conf.vs, lv := b8_, ls := m.conf.ls } : ConfD), dv := c9_ } : MsgD).a.ok then ({ m with ev := r5_, ents := es6_, conf := ({ vv := a7_, vs := m.conf.vs, lv := b8_, ls := m.conf.ls } : ConfD), dv := c9_ } : MsgD).a.enc else []).length ((if ({ m with ev := r5_, ents := es6_, conf := ({ vv := a7_, vs := m.conf.vs, lv := b8_, ls := m.conf.ls } : ConfD), dv := c9_ } : MsgD).a.ok then ({ m with ev := r5_, ents := es6_, conf := ({ vv := a7_, vs := m.conf.vs, lv := b8_, ls := m.conf.ls } : ConfD), dv := c9_ } : MsgD).a.enc else []).map vb), Res.vec 50 5 r11_ es12_.length (es12_.flatMap EntD.cells), Res.star (es12_.map EntD.dres), Res.vec 3 1 a13_ n.conf.vs.length (n.conf.vs.flatMap I1), Res.vec 3 1 b14_ n.conf.ls.length (n.conf.ls.flatMap I1), Res.vec 5 1 c15_ n.data.length (n.data.map vb), Res.vec 5 1 r16_ (if ({ n with ev := r11_, ents := es12_, conf := ({ vv := a13_, vs := n.conf.vs, lv := b14_, ls := n.conf.ls } : ConfD), dv := c15_ } : MsgD).a.ok then ({ n with ev := r11_, ents := es12_, conf := ({ vv := a13_, vs := n.conf.vs, lv := b14_, ls := n.conf.ls } : ConfD), dv := c15_ } : MsgD).a.enc else []).length ((if ({ n with ev := r11_, ents := es12_, conf := ({ vv := a13_, vs := n.conf.vs, lv := b14_, ls := n.conf.ls } : ConfD), dv := c15_ } : MsgD).a.ok then ({ n with ev := r11_, ents := es12_, conf := ({ vv := a13_, vs := n.conf.vs, lv := b14_, ls := n.conf.ls } : ConfD), dv := c15_ } : MsgD).a.enc else []).map vb)])) w1 (hw.frame0 hO)
  refine l_mv rfl ?_
  refine l_ext (vs := [r16_, .int .i64 (errOf ({ n with ev := r11_, ents := es12_, conf := ({ vv := a13_, vs := n.conf.vs, lv := b14_, ls := n.conf.ls } : ConfD), dv := c15_ } : MsgD).a.ok)]) rfl rfl rfl ?_
  refine l_ext (vs := [r16_, .int .i64 (errOf ({ n with ev := r11_, ents := es12_, conf := ({ vv := a13_, vs := n.conf.vs, lv := b14_, ls := n.conf.ls } : ConfD), dv := c15_ } : MsgD).a.ok)]) rfl rfl rfl ?_
  refine l_as rfl ?_
  refine l_as rfl ?_
  refine l_end ?_
  refine c_seq ?_
  refine c_seq ?_
  refine c_heldo [0, 1, 2, 3, 4, 5, 6, 7, 8, 9, 10, 12, 13, 14, 15, 16, 18, 19, 20, 21] rfl (by decide) (by kernel_rfl) (fun w' hw hS => ?_)
  refine h_one 0 (by kernel_rfl) rfl hw ?_
  refine l_call (by kernel_rfl) rfl rfl (fun w' hw => ?_)
  refine (answers_s w').mono ?_
  rintro _ w1 ⟨rfl, hO⟩
  refine (?_ : CL _ _ _ _ _ _ (Own w [] [Res.row b6 24 (CmdD.cells a), Res.row b7 24 (CmdD.cells b), Res.row b8 27 (RepD.cells c), Res.row b9 27 (RepD.cells d), Res.row b10 97 (MsgD.cells m), Res.row b11 97 (MsgD.cells n), Res.vec 5 1 r1_ (if a.ok then a.enc else []).length ((if a.ok then a.enc else []).map vb), Res.vec 5 1 r2_ (if b.ok then b.enc else []).length ((if b.ok then b.enc else []).map vb), Res.vec 5 1 r3_ (if c.ok then c.enc else []).length ((if c.ok then c.enc else []).map vb), Res.vec 5 1 r4_ (if d.ok then d.enc else []).length ((if d.ok then d.enc else []).map vb), Res.vec 50 5 r5_ es6_.length (es6_.flatMap EntD.cells), Res.star (es6_.map EntD.dres), Res.vec 3 1 a7_ m.conf.vs.length (m.conf.vs.flatMap I1), Res.vec 3 1 b8_ m.conf.ls.length (m.conf.ls.flatMap I1), Res.vec 5 1 c9_ m.data.length (m.data.map vb), Res.vec 5 1 r10_ (if ({ m with ev := r5_, ents := es6_, conf := ({ vv := a7_, vs := m.conf.vs, lv := b8_, ls := m.conf.ls } : ConfD), dv := c9_ } : MsgD).a.ok then ({ m with ev := r5_, ents := es6_, conf := ({ vv := a7_, vs := m.conf.vs, lv := b8_, ls := m.conf.ls } : ConfD), dv := c9_ } : MsgD).a.enc else []).length ((if ({ m with ev := r5_, ents := es6_, conf := ({ vv := a7_, vs := m.conf.vs, lv := b8_, ls := m.conf.ls } : ConfD), dv := c9_ } : MsgD).a.ok then ({ m with ev := r5_, ents := es6_, conf := ({ vv := a7_, vs := m.conf.vs, lv := b8_, ls := m.conf.ls } : ConfD), dv := c9_ } : MsgD).a.enc else []).map vb), Res.vec 50 5 r11_ es12_.length (es12_.flatMap EntD.cells), Res.star (es12_.map EntD.dres), Res.vec 3 1 a13_ n.conf.vs.length (n.conf.vs.flatMap I1), Res.vec 3 1 b14_ n.conf.ls.length (n.conf.ls.flatMap I1), Res.vec 5 1 c15_ n.data.length (n.data.map vb), Res.vec 5 1 r16_ (if ({ n with ev := r11_, ents := es12_, conf := ({ vv := a13_, vs := n.conf.vs, lv := b14_, ls := n.conf.ls } : ConfD), dv := c15_ } : MsgD).a.ok then ({ n with ev := r11_, ents := es12_, conf := ({ vv := a13_, vs := n.conf.vs, lv := b14_, ls := n.conf.ls } : ConfD), dv := c15_ } : MsgD).a.enc else []).length ((if ({ n with ev := r11_, ents := es12_, conf := ({ vv := a13_, vs := n.conf.vs, lv := b14_, ls := n.conf.ls } : ConfD), dv := c15_ } : MsgD).a.ok then ({ n with ev := r11_, ents := es12_, conf := ({ vv := a13_, vs := n.conf.vs, lv := b14_, ls := n.conf.ls } : ConfD), dv := c15_ } : MsgD).a.enc else []).map vb)])) w1 (hw.frame0 hO)
  refine l_nil (fun w' hw => ?_)
  have hS := hw.sel [0, 1, 2, 3, 4, 5, 6, 7, 8, 9, 10, 12, 13, 14, 15, 16, 18, 19, 20, 21] rfl (by decide)
  refine ⟨hS, ?_⟩
  refine h_take 1 rfl (by kernel_rfl) (by kernel_rfl) (by kernel_rfl) (v_not (b := true) rfl) rfl hS ?_
  refine h_take 2 rfl (by kernel_rfl) (by kernel_rfl) (by kernel_rfl) (v_mv) rfl hS ?_
  refine h_takeg 3 rfl rfl rfl (by kernel_rfl) (by kernel_rfl) (by kernel_rfl) (v_mv) rfl hS ?_
  refine h_takeg 4 rfl rfl rfl (by kernel_rfl) (by kernel_rfl) (by kernel_rfl) (v_eq rfl rfl) rfl hS ?_
  refine h_takeg 5 rfl rfl rfl (by kernel_rfl) (by kernel_rfl) (by kernel_rfl) (v_mv) rfl hS ?_
  by_cases g7_5 : (errOf a.ok) = 0
  ·
    refine h_takeg 6 rfl rfl (gT g7_5) (by kernel_rfl) (by kernel_rfl) (by kernel_rfl) (v_mv) rfl hS ?_
    refine h_takeg 7 rfl rfl (gT g7_5) (by kernel_rfl) (by kernel_rfl) (by kernel_rfl) (v_eq rfl rfl) rfl hS ?_
    refine h_takeg 8 rfl rfl rfl (by kernel_rfl) (by kernel_rfl) (by kernel_rfl) (v_pickT (gT g7_5)) rfl hS ?_
    refine h_takeg 9 rfl rfl rfl (by kernel_rfl) (by kernel_rfl) (by kernel_rfl) (v_mv) rfl hS ?_
    by_cases g7_9 : (errOf b.ok) = 0
    ·
      refine h_takeg 10 rfl rfl (gT g7_9) (by kernel_rfl) (by kernel_rfl) (by kernel_rfl) (v_mv) rfl hS ?_
      refine h_takeg 11 rfl rfl (gT g7_9) (by kernel_rfl) (by kernel_rfl) (by kernel_rfl) (v_b2s (bs := (if a.ok then a.enc else [])) (by kernel_rfl) (by kernel_rfl) rfl (fun w' hw' => Vec.sl (Own.holds hw' 6 _ rfl))) rfl hS ?_
      refine h_takeg 12 rfl rfl (gT g7_9) (by kernel_rfl) (by kernel_rfl) (by kernel_rfl) (v_mv) rfl hS ?_
      refine h_takeg 13 rfl rfl (gT g7_9) (by kernel_rfl) (by kernel_rfl) (by kernel_rfl) (v_b2s (bs := (if b.ok then b.enc else [])) (by kernel_rfl) (by kernel_rfl) rfl (fun w' hw' => Vec.sl (Own.holds hw' 7 _ rfl))) rfl hS ?_
      refine h_takeg 14 rfl rfl (gT g7_9) (by kernel_rfl) (by kernel_rfl) (by kernel_rfl) (v_seq rfl rfl) rfl hS ?_
      refine h_takeg 15 rfl rfl (gT g7_9) (by kernel_rfl) (by kernel_rfl) (by kernel_rfl) (v_ldr (cs := (CmdD.cells a)) 0 rfl rfl (by kernel_rfl)) rfl hS ?_
      refine h_takeg 16 rfl rfl (gT g7_9) (by kernel_rfl) (by kernel_rfl) (by kernel_rfl) (v_ldr (cs := (CmdD.cells b)) 1 rfl rfl (by kernel_rfl)) rfl hS ?_
      refine h_takeg 17 rfl rfl (gT g7_9) (by kernel_rfl) (by kernel_rfl) (by kernel_rfl) (v_stp (CmdDEq a b) (by kernel_rfl) (by kernel_rfl) rfl rfl rfl rfl) rfl hS ?_
      refine h_takeg 18 rfl rfl (gT g7_9) (by kernel_rfl) (by kernel_rfl) (by kernel_rfl) (v_bnep (by kernel_rfl) rfl rfl) rfl hS ?_
      refine h_takeg 19 rfl rfl rfl (by kernel_rfl) (by kernel_rfl) (by kernel_rfl) (v_pickT (gT g7_9)) rfl hS ?_
      refine h_take 20 rfl (by kernel_rfl) (by kernel_rfl) (by kernel_rfl) (v_pickF rfl) rfl hS ?_
      refine h_done (by kernel_rfl) ?_
      refine (?_ : C _ _ _ _ _ _ _ (Own w [] [Res.row b6 24 (CmdD.cells a), Res.row b7 24 (CmdD.cells b), Res.row b8 27 (RepD.cells c), Res.row b9 27 (RepD.cells d), Res.row b10 97 (MsgD.cells m), Res.row b11 97 (MsgD.cells n), Res.vec 5 1 r1_ (if a.ok then a.enc else []).length ((if a.ok then a.enc else []).map vb), Res.vec 5 1 r2_ (if b.ok then b.enc else []).length ((if b.ok then b.enc else []).map vb), Res.vec 5 1 r3_ (if c.ok then c.enc else []).length ((if c.ok then c.enc else []).map vb), Res.vec 5 1 r4_ (if d.ok then d.enc else []).length ((if d.ok then d.enc else []).map vb), Res.vec 50 5 r5_ es6_.length (es6_.flatMap EntD.cells), Res.star (es6_.map EntD.dres), Res.vec 3 1 a7_ m.conf.vs.length (m.conf.vs.flatMap I1), Res.vec 3 1 b8_ m.conf.ls.length (m.conf.ls.flatMap I1), Res.vec 5 1 c9_ m.data.length (m.data.map vb), Res.vec 5 1 r10_ (if ({ m with ev := r5_, ents := es6_, conf := ({ vv := a7_, vs := m.conf.vs, lv := b8_, ls := m.conf.ls } : ConfD), dv := c9_ } : MsgD).a.ok then ({ m with ev := r5_, ents := es6_, conf := ({ vv := a7_, vs := m.conf.vs, lv := b8_, ls := m.conf.ls } : ConfD), dv := c9_ } : MsgD).a.enc else []).length ((if ({ m with ev := r5_, ents := es6_, conf := ({ vv := a7_, vs := m.conf.vs, lv := b8_, ls := m.conf.ls } : ConfD), dv := c9_ } : MsgD).a.ok then ({ m with ev := r5_, ents := es6_, conf := ({ vv := a7_, vs := m.conf.vs, lv := b8_, ls := m.conf.ls } : ConfD), dv := c9_ } : MsgD).a.enc else []).map vb), Res.vec 50 5 r11_ es12_.length (es12_.flatMap EntD.cells), Res.star (es12_.map EntD.dres), Res.vec 3 1 a13_ n.conf.vs.length (n.conf.vs.flatMap I1), Res.vec 3 1 b14_ n.conf.ls.length (n.conf.ls.flatMap I1), Res.vec 5 1 c15_ n.data.length (n.data.map vb), Res.vec 5 1 r16_ (if ({ n with ev := r11_, ents := es12_, conf := ({ vv := a13_, vs := n.conf.vs, lv := b14_, ls := n.conf.ls } : ConfD), dv := c15_ } : MsgD).a.ok then ({ n with ev := r11_, ents := es12_, conf := ({ vv := a13_, vs := n.conf.vs, lv := b14_, ls := n.conf.ls } : ConfD), dv := c15_ } : MsgD).a.enc else []).length ((if ({ n with ev := r11_, ents := es12_, conf := ({ vv := a13_, vs := n.conf.vs, lv := b14_, ls := n.conf.ls } : ConfD), dv := c15_ } : MsgD).a.ok then ({ n with ev := r11_, ents := es12_, conf := ({ vv := a13_, vs := n.conf.vs, lv := b14_, ls := n.conf.ls } : ConfD), dv := c15_ } : MsgD).a.enc else []).map vb)])) _ hw
      refine c_dec rfl (fun c1 => ?_) (fun c1 => ?_)
      ·
        refine c_reg ?_
        refine l_as rfl ?_
        refine l_end ?_
        exact c_ret (ret1 (v := .bool false) rfl rfl (fun w' hw => ⟨(absurd (apart (fun h => rt_cmd h ha) (fun h => rt_cmd h hb) (fun h => by rw [h]) g7_5 g7_9) c1), hw.drop⟩))
      ·
        refine c_skipC ?_
        refine c_seq ?_
        refine c_quiets (by kernel_rfl) (by kernel_rfl) ?_
        refine q_val rfl (v_mv) ?_
        refine q_val rfl (v_eq rfl rfl) ?_
        refine q_val rfl (v_mv) ?_
        refine q_band (q := (errOf c.ok) = 0) 2 2 [82, 81] ((errOf d.ok) = 0) rfl rfl rfl rfl rfl rfl trivial rfl (fun h9_2 => ?_) (fun g9_5 => ?_)
        ·
          refine q_on rfl (gT h9_2) ?_
          refine q_val rfl (v_mv) ?_
          refine q_on rfl (gT h9_2) ?_
          refine q_val rfl (v_eq rfl rfl) ?_
          exact q_nil (fun w' hw => ⟨(by repeat (first | exact Out.refl _ _ | refine Out.upd rfl ?_ | refine Out.msk rfl ?_)), rfl, hw⟩)
        refine q_val rfl (v_mv) ?_
        refine q_band (q := ((errOf c.ok) = 0) ∧ ((errOf d.ok) = 0)) 9 6 [93, 92, 91, 90, 89, 88, 87, 86, 85] (¬ (((⟨(if c.ok then c.enc else []).toArray⟩ : ByteArray) = (⟨(if d.ok then d.enc else []).toArray⟩ : ByteArray)) ↔ (c = d))) rfl rfl rfl rfl rfl rfl trivial rfl (fun h9_6 => ?_) (fun g9_16 => ?_)
        ·
          refine q_on rfl (gT h9_6) ?_
          refine q_val rfl (v_mv) ?_
          refine q_on rfl (gT h9_6) ?_
          refine q_val rfl (v_b2s (bs := (if c.ok then c.enc else [])) (by kernel_rfl) (by kernel_rfl) rfl (fun w' hw' => Vec.sl (Own.holds hw' 8 _ rfl))) ?_
          refine q_on rfl (gT h9_6) ?_
          refine q_val rfl (v_mv) ?_
          refine q_on rfl (gT h9_6) ?_
          refine q_val rfl (v_b2s (bs := (if d.ok then d.enc else [])) (by kernel_rfl) (by kernel_rfl) rfl (fun w' hw' => Vec.sl (Own.holds hw' 9 _ rfl))) ?_
          refine q_on rfl (gT h9_6) ?_
          refine q_val rfl (v_seq rfl rfl) ?_
          refine q_on rfl (gT h9_6) ?_
          refine q_val rfl (v_ldr (cs := (RepD.cells c)) 2 rfl rfl (by kernel_rfl)) ?_
          refine q_on rfl (gT h9_6) ?_
          refine q_val rfl (v_ldr (cs := (RepD.cells d)) 3 rfl rfl (by kernel_rfl)) ?_
          refine q_on rfl (gT h9_6) ?_
          refine q_val rfl (v_stp (RepDEq c d) (by kernel_rfl) (by kernel_rfl) rfl rfl rfl rfl) ?_
          refine q_on rfl (gT h9_6) ?_
          refine q_val rfl (v_bnep (by kernel_rfl) rfl rfl) ?_
          exact q_nil (fun w' hw => ⟨(by repeat (first | exact Out.refl _ _ | refine Out.upd rfl ?_ | refine Out.msk rfl ?_)), rfl, hw⟩)
        refine q_end ?_
        refine c_dec rfl (fun c2 => ?_) (fun c2 => ?_)
        ·
          refine c_reg ?_
          refine l_as rfl ?_
          refine l_end ?_
          exact c_ret (ret1 (v := .bool false) rfl rfl (fun w' hw => ⟨(absurd (apart (fun h => rt_rpl h hc) (fun h => rt_rpl h hd) (fun h => by rw [h]) c2.1.1 c2.1.2) c2.2), hw.drop⟩))
        ·
          refine c_skipC ?_
          refine c_seq ?_
          refine c_heldo [0, 1, 2, 3, 4, 5, 6, 7, 8, 9, 10, 12, 13, 14, 15, 16, 18, 19, 20, 21] rfl (by decide) (by kernel_rfl) (fun w' hw hS => ?_)
          refine h_take 0 rfl (by kernel_rfl) (by kernel_rfl) (by kernel_rfl) (v_mv) rfl hS ?_
          refine h_take 1 rfl (by kernel_rfl) (by kernel_rfl) (by kernel_rfl) (v_ne rfl rfl) rfl hS ?_
          refine h_take 2 rfl (by kernel_rfl) (by kernel_rfl) (by kernel_rfl) (v_mv) rfl hS ?_
          by_cases g11_2 : (errOf ({ m with ev := r5_, ents := es6_, conf := ({ vv := a7_, vs := m.conf.vs, lv := b8_, ls := m.conf.ls } : ConfD), dv := c9_ } : MsgD).a.ok) ≠ 0
          ·
            refine h_offg 3 rfl rfl (gT g11_2) rfl (by kernel_rfl) (by kernel_rfl) (by kernel_rfl) rfl hS ?_
            refine h_offg 4 rfl rfl (gT g11_2) rfl (by kernel_rfl) (by kernel_rfl) (by kernel_rfl) rfl hS ?_
            refine h_take 5 rfl (by kernel_rfl) (by kernel_rfl) (by kernel_rfl) (v_pickT (gT g11_2)) rfl hS ?_
            refine h_take 6 rfl (by kernel_rfl) (by kernel_rfl) (by kernel_rfl) (v_mv) rfl hS ?_
            refine h_offg 7 rfl rfl rfl rfl (by kernel_rfl) (by kernel_rfl) (by kernel_rfl) rfl hS ?_
            refine h_offg 8 rfl rfl rfl rfl (by kernel_rfl) (by kernel_rfl) (by kernel_rfl) rfl hS ?_
            refine h_offg 9 rfl rfl rfl rfl (by kernel_rfl) (by kernel_rfl) (by kernel_rfl) rfl hS ?_
            refine h_offg 10 rfl rfl rfl rfl (by kernel_rfl) (by kernel_rfl) (by kernel_rfl) rfl hS ?_
            refine h_offg 11 rfl rfl rfl rfl (by kernel_rfl) (by kernel_rfl) (by kernel_rfl) rfl hS ?_
            refine h_offg 12 rfl rfl rfl rfl (by kernel_rfl) (by kernel_rfl) (by kernel_rfl) rfl hS ?_
            refine h_offg 13 rfl rfl rfl rfl (by kernel_rfl) (by kernel_rfl) (by kernel_rfl) rfl hS ?_
            refine h_offg 14 rfl rfl rfl rfl (by kernel_rfl) (by kernel_rfl) (by kernel_rfl) rfl hS ?_
            refine h_offg 15 rfl rfl rfl rfl (by kernel_rfl) (by kernel_rfl) (by kernel_rfl) rfl hS ?_
            refine h_take 16 rfl (by kernel_rfl) (by kernel_rfl) (by kernel_rfl) (v_pickT rfl) rfl hS ?_
            refine h_take 17 rfl (by kernel_rfl) (by kernel_rfl) (by kernel_rfl) (v_as) rfl hS ?_
            refine h_done (by kernel_rfl) ?_
            refine (?_ : C _ _ _ _ _ _ _ (Own w [] [Res.row b6 24 (CmdD.cells a), Res.row b7 24 (CmdD.cells b), Res.row b8 27 (RepD.cells c), Res.row b9 27 (RepD.cells d), Res.row b10 97 (MsgD.cells m), Res.row b11 97 (MsgD.cells n), Res.vec 5 1 r1_ (if a.ok then a.enc else []).length ((if a.ok then a.enc else []).map vb), Res.vec 5 1 r2_ (if b.ok then b.enc else []).length ((if b.ok then b.enc else []).map vb), Res.vec 5 1 r3_ (if c.ok then c.enc else []).length ((if c.ok then c.enc else []).map vb), Res.vec 5 1 r4_ (if d.ok then d.enc else []).length ((if d.ok then d.enc else []).map vb), Res.vec 50 5 r5_ es6_.length (es6_.flatMap EntD.cells), Res.star (es6_.map EntD.dres), Res.vec 3 1 a7_ m.conf.vs.length (m.conf.vs.flatMap I1), Res.vec 3 1 b8_ m.conf.ls.length (m.conf.ls.flatMap I1), Res.vec 5 1 c9_ m.data.length (m.data.map vb), Res.vec 5 1 r10_ (if ({ m with ev := r5_, ents := es6_, conf := ({ vv := a7_, vs := m.conf.vs, lv := b8_, ls := m.conf.ls } : ConfD), dv := c9_ } : MsgD).a.ok then ({ m with ev := r5_, ents := es6_, conf := ({ vv := a7_, vs := m.conf.vs, lv := b8_, ls := m.conf.ls } : ConfD), dv := c9_ } : MsgD).a.enc else []).length ((if ({ m with ev := r5_, ents := es6_, conf := ({ vv := a7_, vs := m.conf.vs, lv := b8_, ls := m.conf.ls } : ConfD), dv := c9_ } : MsgD).a.ok then ({ m with ev := r5_, ents := es6_, conf := ({ vv := a7_, vs := m.conf.vs, lv := b8_, ls := m.conf.ls } : ConfD), dv := c9_ } : MsgD).a.enc else []).map vb), Res.vec 50 5 r11_ es12_.length (es12_.flatMap EntD.cells), Res.star (es12_.map EntD.dres), Res.vec 3 1 a13_ n.conf.vs.length (n.conf.vs.flatMap I1), Res.vec 3 1 b14_ n.conf.ls.length (n.conf.ls.flatMap I1), Res.vec 5 1 c15_ n.data.length (n.data.map vb), Res.vec 5 1 r16_ (if ({ n with ev := r11_, ents := es12_, conf := ({ vv := a13_, vs := n.conf.vs, lv := b14_, ls := n.conf.ls } : ConfD), dv := c15_ } : MsgD).a.ok then ({ n with ev := r11_, ents := es12_, conf := ({ vv := a13_, vs := n.conf.vs, lv := b14_, ls := n.conf.ls } : ConfD), dv := c15_ } : MsgD).a.enc else []).length ((if ({ n with ev := r11_, ents := es12_, conf := ({ vv := a13_, vs := n.conf.vs, lv := b14_, ls := n.conf.ls } : ConfD), dv := c15_ } : MsgD).a.ok then ({ n with ev := r11_, ents := es12_, conf := ({ vv := a13_, vs := n.conf.vs, lv := b14_, ls := n.conf.ls } : ConfD), dv := c15_ } : MsgD).a.enc else []).map vb)])) _ hw
            exact c_ret (ret1 (v := .bool true) rfl rfl (fun w' hw => ⟨rfl, hw.drop⟩))
          ·
            refine h_takeg 3 rfl rfl (gF g11_2) (by kernel_rfl) (by kernel_rfl) (by kernel_rfl) (v_mv) rfl hS ?_
            refine h_takeg 4 rfl rfl (gF g11_2) (by kernel_rfl) (by kernel_rfl) (by kernel_rfl) (v_ne rfl rfl) rfl hS ?_
            refine h_take 5 rfl (by kernel_rfl) (by kernel_rfl) (by kernel_rfl) (v_pickF (gF g11_2)) rfl hS ?_
            refine h_take 6 rfl (by kernel_rfl) (by kernel_rfl) (by kernel_rfl) (v_mv) rfl hS ?_
            by_cases g11_6 : (errOf ({ n with ev := r11_, ents := es12_, conf := ({ vv := a13_, vs := n.conf.vs, lv := b14_, ls := n.conf.ls } : ConfD), dv := c15_ } : MsgD).a.ok) ≠ 0
            ·
              refine h_offg 7 rfl rfl (gT g11_6) rfl (by kernel_rfl) (by kernel_rfl) (by kernel_rfl) rfl hS ?_
              refine h_offg 8 rfl rfl (gT g11_6) rfl (by kernel_rfl) (by kernel_rfl) (by kernel_rfl) rfl hS ?_
              refine h_offg 9 rfl rfl (gT g11_6) rfl (by kernel_rfl) (by kernel_rfl) (by kernel_rfl) rfl hS ?_
              refine h_offg 10 rfl rfl (gT g11_6) rfl (by kernel_rfl) (by kernel_rfl) (by kernel_rfl) rfl hS ?_
              refine h_offg 11 rfl rfl (gT g11_6) rfl (by kernel_rfl) (by kernel_rfl) (by kernel_rfl) rfl hS ?_
              refine h_offg 12 rfl rfl (gT g11_6) rfl (by kernel_rfl) (by kernel_rfl) (by kernel_rfl) rfl hS ?_
              refine h_offg 13 rfl rfl (gT g11_6) rfl (by kernel_rfl) (by kernel_rfl) (by kernel_rfl) rfl hS ?_
              refine h_offg 14 rfl rfl (gT g11_6) rfl (by kernel_rfl) (by kernel_rfl) (by kernel_rfl) rfl hS ?_
              refine h_offg 15 rfl rfl (gT g11_6) rfl (by kernel_rfl) (by kernel_rfl) (by kernel_rfl) rfl hS ?_
              refine h_take 16 rfl (by kernel_rfl) (by kernel_rfl) (by kernel_rfl) (v_pickT (gT g11_6)) rfl hS ?_
              refine h_take 17 rfl (by kernel_rfl) (by kernel_rfl) (by kernel_rfl) (v_as) rfl hS ?_
              refine h_done (by kernel_rfl) ?_
              refine (?_ : C _ _ _ _ _ _ _ (Own w [] [Res.row b6 24 (CmdD.cells a), Res.row b7 24 (CmdD.cells b), Res.row b8 27 (RepD.cells c), Res.row b9 27 (RepD.cells d), Res.row b10 97 (MsgD.cells m), Res.row b11 97 (MsgD.cells n), Res.vec 5 1 r1_ (if a.ok then a.enc else []).length ((if a.ok then a.enc else []).map vb), Res.vec 5 1 r2_ (if b.ok then b.enc else []).length ((if b.ok then b.enc else []).map vb), Res.vec 5 1 r3_ (if c.ok then c.enc else []).length ((if c.ok then c.enc else []).map vb), Res.vec 5 1 r4_ (if d.ok then d.enc else []).length ((if d.ok then d.enc else []).map vb), Res.vec 50 5 r5_ es6_.length (es6_.flatMap EntD.cells), Res.star (es6_.map EntD.dres), Res.vec 3 1 a7_ m.conf.vs.length (m.conf.vs.flatMap I1), Res.vec 3 1 b8_ m.conf.ls.length (m.conf.ls.flatMap I1), Res.vec 5 1 c9_ m.data.length (m.data.map vb), Res.vec 5 1 r10_ (if ({ m with ev := r5_, ents := es6_, conf := ({ vv := a7_, vs := m.conf.vs, lv := b8_, ls := m.conf.ls } : ConfD), dv := c9_ } : MsgD).a.ok then ({ m with ev := r5_, ents := es6_, conf := ({ vv := a7_, vs := m.conf.vs, lv := b8_, ls := m.conf.ls } : ConfD), dv := c9_ } : MsgD).a.enc else []).length ((if ({ m with ev := r5_, ents := es6_, conf := ({ vv := a7_, vs := m.conf.vs, lv := b8_, ls := m.conf.ls } : ConfD), dv := c9_ } : MsgD).a.ok then ({ m with ev := r5_, ents := es6_, conf := ({ vv := a7_, vs := m.conf.vs, lv := b8_, ls := m.conf.ls } : ConfD), dv := c9_ } : MsgD).a.enc else []).map vb), Res.vec 50 5 r11_ es12_.length (es12_.flatMap EntD.cells), Res.star (es12_.map EntD.dres), Res.vec 3 1 a13_ n.conf.vs.length (n.conf.vs.flatMap I1), Res.vec 3 1 b14_ n.conf.ls.length (n.conf.ls.flatMap I1), Res.vec 5 1 c15_ n.data.length (n.data.map vb), Res.vec 5 1 r16_ (if ({ n with ev := r11_, ents := es12_, conf := ({ vv := a13_, vs := n.conf.vs, lv := b14_, ls := n.conf.ls } : ConfD), dv := c15_ } : MsgD).a.ok then ({ n with ev := r11_, ents := es12_, conf := ({ vv := a13_, vs := n.conf.vs, lv := b14_, ls := n.conf.ls } : ConfD), dv := c15_ } : MsgD).a.enc else []).length ((if ({ n with ev := r11_, ents := es12_, conf := ({ vv := a13_, vs := n.conf.vs, lv := b14_, ls := n.conf.ls } : ConfD), dv := c15_ } : MsgD).a.ok then ({ n with ev := r11_, ents := es12_, conf := ({ vv := a13_, vs := n.conf.vs, lv := b14_, ls := n.conf.ls } : ConfD), dv := c15_ } : MsgD).a.enc else []).map vb)])) _ hw
              exact c_ret (ret1 (v := .bool true) rfl rfl (fun w' hw => ⟨rfl, hw.drop⟩))
            ·
              refine h_takeg 7 rfl rfl (gF g11_6) (by kernel_rfl) (by kernel_rfl) (by kernel_rfl) (v_mv) rfl hS ?_
              refine h_takeg 8 rfl rfl (gF g11_6) (by kernel_rfl) (by kernel_rfl) (by kernel_rfl) (v_b2s (bs := (if ({ m with ev := r5_, ents := es6_, conf := ({ vv := a7_, vs := m.conf.vs, lv := b8_, ls := m.conf.ls } : ConfD), dv := c9_ } : MsgD).a.ok then ({ m with ev := r5_, ents := es6_, conf := ({ vv := a7_, vs := m.conf.vs, lv := b8_, ls := m.conf.ls } : ConfD), dv := c9_ } : MsgD).a.enc else [])) (by kernel_rfl) (by kernel_rfl) rfl (fun w' hw' => Vec.sl (Own.holds hw' 14 _ rfl))) rfl hS ?_
              refine h_takeg 9 rfl rfl (gF g11_6) (by kernel_rfl) (by kernel_rfl) (by kernel_rfl) (v_mv) rfl hS ?_
              refine h_takeg 10 rfl rfl (gF g11_6) (by kernel_rfl) (by kernel_rfl) (by kernel_rfl) (v_b2s (bs := (if ({ n with ev := r11_, ents := es12_, conf := ({ vv := a13_, vs := n.conf.vs, lv := b14_, ls := n.conf.ls } : ConfD), dv := c15_ } : MsgD).a.ok then ({ n with ev := r11_, ents := es12_, conf := ({ vv := a13_, vs := n.conf.vs, lv := b14_, ls := n.conf.ls } : ConfD), dv := c15_ } : MsgD).a.enc else [])) (by kernel_rfl) (by kernel_rfl) rfl (fun w' hw' => Vec.sl (Own.holds hw' 19 _ rfl))) rfl hS ?_
              refine h_takeg 11 rfl rfl (gF g11_6) (by kernel_rfl) (by kernel_rfl) (by kernel_rfl) (v_seq rfl rfl) rfl hS ?_
              refine h_takeg 12 rfl rfl (gF g11_6) (by kernel_rfl) (by kernel_rfl) (by kernel_rfl) (v_ldr (cs := (MsgD.cells m)) 4 rfl rfl (by kernel_rfl)) rfl hS ?_
              refine h_takeg 13 rfl rfl (gF g11_6) (by kernel_rfl) (by kernel_rfl) (by kernel_rfl) (v_ldr (cs := (MsgD.cells n)) 5 rfl rfl (by kernel_rfl)) rfl hS ?_
              refine h_one 14 (by kernel_rfl) rfl hw ?_
              refine l_on rfl (gF g11_6) ?_
              refine l_call (by kernel_rfl) rfl rfl (fun w' hw => ?_)
              refine (sameMsg_s m n w' (by first | assumption | omega | (simp <;> omega) | (constructor <;> (first | omega | (simp only [LenOk]; omega) | (simp <;> omega)))) (by first | assumption | omega | (simp <;> omega) | (constructor <;> (first | omega | (simp only [LenOk]; omega) | (simp <;> omega)))) (rd_m.at0 hw) (rd_n.at0 hw)).mono ?_
              rintro _ w1 ⟨rfl, hO⟩
              refine (?_ : CL _ _ _ _ _ _ (Own w [] [Res.row b6 24 (CmdD.cells a), Res.row b7 24 (CmdD.cells b), Res.row b8 27 (RepD.cells c), Res.row b9 27 (RepD.cells d), Res.row b10 97 (MsgD.cells m), Res.row b11 97 (MsgD.cells n), Res.vec 5 1 r1_ (if a.ok then a.enc else []).length ((if a.ok then a.enc else []).map vb), Res.vec 5 1 r2_ (if b.ok then b.enc else []).length ((if b.ok then b.enc else []).map vb), Res.vec 5 1 r3_ (if c.ok then c.enc else []).length ((if c.ok then c.enc else []).map vb), Res.vec 5 1 r4_ (if d.ok then d.enc else []).length ((if d.ok then d.enc else []).map vb), Res.vec 50 5 r5_ es6_.length (es6_.flatMap EntD.cells), Res.star (es6_.map EntD.dres), Res.vec 3 1 a7_ m.conf.vs.length (m.conf.vs.flatMap I1), Res.vec 3 1 b8_ m.conf.ls.length (m.conf.ls.flatMap I1), Res.vec 5 1 c9_ m.data.length (m.data.map vb), Res.vec 5 1 r10_ (if ({ m with ev := r5_, ents := es6_, conf := ({ vv := a7_, vs := m.conf.vs, lv := b8_, ls := m.conf.ls } : ConfD), dv := c9_ } : MsgD).a.ok then ({ m with ev := r5_, ents := es6_, conf := ({ vv := a7_, vs := m.conf.vs, lv := b8_, ls := m.conf.ls } : ConfD), dv := c9_ } : MsgD).a.enc else []).length ((if ({ m with ev := r5_, ents := es6_, conf := ({ vv := a7_, vs := m.conf.vs, lv := b8_, ls := m.conf.ls } : ConfD), dv := c9_ } : MsgD).a.ok then ({ m with ev := r5_, ents := es6_, conf := ({ vv := a7_, vs := m.conf.vs, lv := b8_, ls := m.conf.ls } : ConfD), dv := c9_ } : MsgD).a.enc else []).map vb), Res.vec 50 5 r11_ es12_.length (es12_.flatMap EntD.cells), Res.star (es12_.map EntD.dres), Res.vec 3 1 a13_ n.conf.vs.length (n.conf.vs.flatMap I1), Res.vec 3 1 b14_ n.conf.ls.length (n.conf.ls.flatMap I1), Res.vec 5 1 c15_ n.data.length (n.data.map vb), Res.vec 5 1 r16_ (if ({ n with ev := r11_, ents := es12_, conf := ({ vv := a13_, vs := n.conf.vs, lv := b14_, ls := n.conf.ls } : ConfD), dv := c15_ } : MsgD).a.ok then ({ n with ev := r11_, ents := es12_, conf := ({ vv := a13_, vs := n.conf.vs, lv := b14_, ls := n.conf.ls } : ConfD), dv := c15_ } : MsgD).a.enc else []).length ((if ({ n with ev := r11_, ents := es12_, conf := ({ vv := a13_, vs := n.conf.vs, lv := b14_, ls := n.conf.ls } : ConfD), dv := c15_ } : MsgD).a.ok then ({ n with ev := r11_, ents := es12_, conf := ({ vv := a13_, vs := n.conf.vs, lv := b14_, ls := n.conf.ls } : ConfD), dv := c15_ } : MsgD).a.enc else []).map vb)])) w1 (hw.frame0 hO)
              refine l_nil (fun w' hw => ?_)
              have hS := hw.sel [0, 1, 2, 3, 4, 5, 6, 7, 8, 9, 10, 12, 13, 14, 15, 16, 18, 19, 20, 21] rfl (by decide)
              refine ⟨hS, ?_⟩
              refine h_takeg 15 rfl rfl (gF g11_6) (by kernel_rfl) (by kernel_rfl) (by kernel_rfl) (v_beqp (by kernel_rfl) rfl rfl) rfl hS ?_
              refine h_take 16 rfl (by kernel_rfl) (by kernel_rfl) (by kernel_rfl) (v_pickF (gF g11_6)) rfl hS ?_
              refine h_take 17 rfl (by kernel_rfl) (by kernel_rfl) (by kernel_rfl) (v_as) rfl hS ?_
              refine h_done (by kernel_rfl) ?_
              refine (?_ : C _ _ _ _ _ _ _ (Own w [] [Res.row b6 24 (CmdD.cells a), Res.row b7 24 (CmdD.cells b), Res.row b8 27 (RepD.cells c), Res.row b9 27 (RepD.cells d), Res.row b10 97 (MsgD.cells m), Res.row b11 97 (MsgD.cells n), Res.vec 5 1 r1_ (if a.ok then a.enc else []).length ((if a.ok then a.enc else []).map vb), Res.vec 5 1 r2_ (if b.ok then b.enc else []).length ((if b.ok then b.enc else []).map vb), Res.vec 5 1 r3_ (if c.ok then c.enc else []).length ((if c.ok then c.enc else []).map vb), Res.vec 5 1 r4_ (if d.ok then d.enc else []).length ((if d.ok then d.enc else []).map vb), Res.vec 50 5 r5_ es6_.length (es6_.flatMap EntD.cells), Res.star (es6_.map EntD.dres), Res.vec 3 1 a7_ m.conf.vs.length (m.conf.vs.flatMap I1), Res.vec 3 1 b8_ m.conf.ls.length (m.conf.ls.flatMap I1), Res.vec 5 1 c9_ m.data.length (m.data.map vb), Res.vec 5 1 r10_ (if ({ m with ev := r5_, ents := es6_, conf := ({ vv := a7_, vs := m.conf.vs, lv := b8_, ls := m.conf.ls } : ConfD), dv := c9_ } : MsgD).a.ok then ({ m with ev := r5_, ents := es6_, conf := ({ vv := a7_, vs := m.conf.vs, lv := b8_, ls := m.conf.ls } : ConfD), dv := c9_ } : MsgD).a.enc else []).length ((if ({ m with ev := r5_, ents := es6_, conf := ({ vv := a7_, vs := m.conf.vs, lv := b8_, ls := m.conf.ls } : ConfD), dv := c9_ } : MsgD).a.ok then ({ m with ev := r5_, ents := es6_, conf := ({ vv := a7_, vs := m.conf.vs, lv := b8_, ls := m.conf.ls } : ConfD), dv := c9_ } : MsgD).a.enc else []).map vb), Res.vec 50 5 r11_ es12_.length (es12_.flatMap EntD.cells), Res.star (es12_.map EntD.dres), Res.vec 3 1 a13_ n.conf.vs.length (n.conf.vs.flatMap I1), Res.vec 3 1 b14_ n.conf.ls.length (n.conf.ls.flatMap I1), Res.vec 5 1 c15_ n.data.length (n.data.map vb), Res.vec 5 1 r16_ (if ({ n with ev := r11_, ents := es12_, conf := ({ vv := a13_, vs := n.conf.vs, lv := b14_, ls := n.conf.ls } : ConfD), dv := c15_ } : MsgD).a.ok then ({ n with ev := r11_, ents := es12_, conf := ({ vv := a13_, vs := n.conf.vs, lv := b14_, ls := n.conf.ls } : ConfD), dv := c15_ } : MsgD).a.enc else []).length ((if ({ n with ev := r11_, ents := es12_, conf := ({ vv := a13_, vs := n.conf.vs, lv := b14_, ls := n.conf.ls } : ConfD), dv := c15_ } : MsgD).a.ok then ({ n with ev := r11_, ents := es12_, conf := ({ vv := a13_, vs := n.conf.vs, lv := b14_, ls := n.conf.ls } : ConfD), dv := c15_ } : MsgD).a.enc else []).map vb)])) _ hw
              exact c_ret (ret1 (v := .bool (decide (((⟨(if ({ m with ev := r5_, ents := es6_, conf := ({ vv := a7_, vs := m.conf.vs, lv := b8_, ls := m.conf.ls } : ConfD), dv := c9_ } : MsgD).a.ok then ({ m with ev := r5_, ents := es6_, conf := ({ vv := a7_, vs := m.conf.vs, lv := b8_, ls := m.conf.ls } : ConfD), dv := c9_ } : MsgD).a.enc else []).toArray⟩ : ByteArray) = (⟨(if ({ n with ev := r11_, ents := es12_, conf := ({ vv := a13_, vs := n.conf.vs, lv := b14_, ls := n.conf.ls } : ConfD), dv := c15_ } : MsgD).a.ok then ({ n with ev := r11_, ents := es12_, conf := ({ vv := a13_, vs := n.conf.vs, lv := b14_, ls := n.conf.ls } : ConfD), dv := c15_ } : MsgD).a.enc else []).toArray⟩ : ByteArray)) ↔ (m.a = n.a)))) rfl rfl (fun w' hw => ⟨(by congr 1; have q1 := Decidable.not_not.1 g11_2; have q2 := Decidable.not_not.1 g11_6; rw [MsgD.own_a hf5_1] at q1; rw [MsgD.own_a hf6_1] at q2; exact decide_eq_true (by rw [MsgD.own_a hf5_1, MsgD.own_a hf6_1]; exact apart (fun h => rt_msg h (m.a_nums hm)) (fun h => rt_msg h (n.a_nums hn)) (fun h => by rw [h]) q1 q2)), hw.drop⟩))
    ·
      refine h_offg 10 rfl rfl (gF g7_9) rfl (by kernel_rfl) (by kernel_rfl) (by kernel_rfl) rfl hS ?_
      refine h_offg 11 rfl rfl (gF g7_9) rfl (by kernel_rfl) (by kernel_rfl) (by kernel_rfl) rfl hS ?_
      refine h_offg 12 rfl rfl (gF g7_9) rfl (by kernel_rfl) (by kernel_rfl) (by kernel_rfl) rfl hS ?_
      refine h_offg 13 rfl rfl (gF g7_9) rfl (by kernel_rfl) (by kernel_rfl) (by kernel_rfl) rfl hS ?_
      refine h_offg 14 rfl rfl (gF g7_9) rfl (by kernel_rfl) (by kernel_rfl) (by kernel_rfl) rfl hS ?_
      refine h_offg 15 rfl rfl (gF g7_9) rfl (by kernel_rfl) (by kernel_rfl) (by kernel_rfl) rfl hS ?_
      refine h_offg 16 rfl rfl (gF g7_9) rfl (by kernel_rfl) (by kernel_rfl) (by kernel_rfl) rfl hS ?_
      refine h_offg 17 rfl rfl (gF g7_9) rfl (by kernel_rfl) (by kernel_rfl) (by kernel_rfl) rfl hS ?_
      refine h_offg 18 rfl rfl (gF g7_9) rfl (by kernel_rfl) (by kernel_rfl) (by kernel_rfl) rfl hS ?_
      refine h_takeg 19 rfl rfl rfl (by kernel_rfl) (by kernel_rfl) (by kernel_rfl) (v_pickF (gF g7_9)) rfl hS ?_
      refine h_take 20 rfl (by kernel_rfl) (by kernel_rfl) (by kernel_rfl) (v_pickF rfl) rfl hS ?_
      refine h_done (by kernel_rfl) ?_
      refine (?_ : C _ _ _ _ _ _ _ (Own w [] [Res.row b6 24 (CmdD.cells a), Res.row b7 24 (CmdD.cells b), Res.row b8 27 (RepD.cells c), Res.row b9 27 (RepD.cells d), Res.row b10 97 (MsgD.cells m), Res.row b11 97 (MsgD.cells n), Res.vec 5 1 r1_ (if a.ok then a.enc else []).length ((if a.ok then a.enc else []).map vb), Res.vec 5 1 r2_ (if b.ok then b.enc else []).length ((if b.ok then b.enc else []).map vb), Res.vec 5 1 r3_ (if c.ok then c.enc else []).length ((if c.ok then c.enc else []).map vb), Res.vec 5 1 r4_ (if d.ok then d.enc else []).length ((if d.ok then d.enc else []).map vb), Res.vec 50 5 r5_ es6_.length (es6_.flatMap EntD.cells), Res.star (es6_.map EntD.dres), Res.vec 3 1 a7_ m.conf.vs.length (m.conf.vs.flatMap I1), Res.vec 3 1 b8_ m.conf.ls.length (m.conf.ls.flatMap I1), Res.vec 5 1 c9_ m.data.length (m.data.map vb), Res.vec 5 1 r10_ (if ({ m with ev := r5_, ents := es6_, conf := ({ vv := a7_, vs := m.conf.vs, lv := b8_, ls := m.conf.ls } : ConfD), dv := c9_ } : MsgD).a.ok then ({ m with ev := r5_, ents := es6_, conf := ({ vv := a7_, vs := m.conf.vs, lv := b8_, ls := m.conf.ls } : ConfD), dv := c9_ } : MsgD).a.enc else []).length ((if ({ m with ev := r5_, ents := es6_, conf := ({ vv := a7_, vs := m.conf.vs, lv := b8_, ls := m.conf.ls } : ConfD), dv := c9_ } : MsgD).a.ok then ({ m with ev := r5_, ents := es6_, conf := ({ vv := a7_, vs := m.conf.vs, lv := b8_, ls := m.conf.ls } : ConfD), dv := c9_ } : MsgD).a.enc else []).map vb), Res.vec 50 5 r11_ es12_.length (es12_.flatMap EntD.cells), Res.star (es12_.map EntD.dres), Res.vec 3 1 a13_ n.conf.vs.length (n.conf.vs.flatMap I1), Res.vec 3 1 b14_ n.conf.ls.length (n.conf.ls.flatMap I1), Res.vec 5 1 c15_ n.data.length (n.data.map vb), Res.vec 5 1 r16_ (if ({ n with ev := r11_, ents := es12_, conf := ({ vv := a13_, vs := n.conf.vs, lv := b14_, ls := n.conf.ls } : ConfD), dv := c15_ } : MsgD).a.ok then ({ n with ev := r11_, ents := es12_, conf := ({ vv := a13_, vs := n.conf.vs, lv := b14_, ls := n.conf.ls } : ConfD), dv := c15_ } : MsgD).a.enc else []).length ((if ({ n with ev := r11_, ents := es12_, conf := ({ vv := a13_, vs := n.conf.vs, lv := b14_, ls := n.conf.ls } : ConfD), dv := c15_ } : MsgD).a.ok then ({ n with ev := r11_, ents := es12_, conf := ({ vv := a13_, vs := n.conf.vs, lv := b14_, ls := n.conf.ls } : ConfD), dv := c15_ } : MsgD).a.enc else []).map vb)])) _ hw
      refine c_no rfl ?_
      refine c_skipC ?_
      refine c_seq ?_
      refine c_quiets (by kernel_rfl) (by kernel_rfl) ?_
      refine q_val rfl (v_mv) ?_
      refine q_val rfl (v_eq rfl rfl) ?_
      refine q_val rfl (v_mv) ?_
      refine q_band (q := (errOf c.ok) = 0) 2 2 [82, 81] ((errOf d.ok) = 0) rfl rfl rfl rfl rfl rfl trivial rfl (fun h9_2 => ?_) (fun g9_5 => ?_)
      ·
        refine q_on rfl (gT h9_2) ?_
        refine q_val rfl (v_mv) ?_
        refine q_on rfl (gT h9_2) ?_
        refine q_val rfl (v_eq rfl rfl) ?_
        exact q_nil (fun w' hw => ⟨(by repeat (first | exact Out.refl _ _ | refine Out.upd rfl ?_ | refine Out.msk rfl ?_)), rfl, hw⟩)
      refine q_val rfl (v_mv) ?_
      refine q_band (q := ((errOf c.ok) = 0) ∧ ((errOf d.ok) = 0)) 9 6 [93, 92, 91, 90, 89, 88, 87, 86, 85] (¬ (((⟨(if c.ok then c.enc else []).toArray⟩ : ByteArray) = (⟨(if d.ok then d.enc else []).toArray⟩ : ByteArray)) ↔ (c = d))) rfl rfl rfl rfl rfl rfl trivial rfl (fun h9_6 => ?_) (fun g9_16 => ?_)
      ·
        refine q_on rfl (gT h9_6) ?_
        refine q_val rfl (v_mv) ?_
        refine q_on rfl (gT h9_6) ?_
        refine q_val rfl (v_b2s (bs := (if c.ok then c.enc else [])) (by kernel_rfl) (by kernel_rfl) rfl (fun w' hw' => Vec.sl (Own.holds hw' 8 _ rfl))) ?_
        refine q_on rfl (gT h9_6) ?_
        refine q_val rfl (v_mv) ?_
        refine q_on rfl (gT h9_6) ?_
        refine q_val rfl (v_b2s (bs := (if d.ok then d.enc else [])) (by kernel_rfl) (by kernel_rfl) rfl (fun w' hw' => Vec.sl (Own.holds hw' 9 _ rfl))) ?_
        refine q_on rfl (gT h9_6) ?_
        refine q_val rfl (v_seq rfl rfl) ?_
        refine q_on rfl (gT h9_6) ?_
        refine q_val rfl (v_ldr (cs := (RepD.cells c)) 2 rfl rfl (by kernel_rfl)) ?_
        refine q_on rfl (gT h9_6) ?_
        refine q_val rfl (v_ldr (cs := (RepD.cells d)) 3 rfl rfl (by kernel_rfl)) ?_
        refine q_on rfl (gT h9_6) ?_
        refine q_val rfl (v_stp (RepDEq c d) (by kernel_rfl) (by kernel_rfl) rfl rfl rfl rfl) ?_
        refine q_on rfl (gT h9_6) ?_
        refine q_val rfl (v_bnep (by kernel_rfl) rfl rfl) ?_
        exact q_nil (fun w' hw => ⟨(by repeat (first | exact Out.refl _ _ | refine Out.upd rfl ?_ | refine Out.msk rfl ?_)), rfl, hw⟩)
      refine q_end ?_
      refine c_dec rfl (fun c4 => ?_) (fun c4 => ?_)
      ·
        refine c_reg ?_
        refine l_as rfl ?_
        refine l_end ?_
        exact c_ret (ret1 (v := .bool false) rfl rfl (fun w' hw => ⟨(absurd (apart (fun h => rt_rpl h hc) (fun h => rt_rpl h hd) (fun h => by rw [h]) c4.1.1 c4.1.2) c4.2), hw.drop⟩))
      ·
        refine c_skipC ?_
        refine c_seq ?_
        refine c_heldo [0, 1, 2, 3, 4, 5, 6, 7, 8, 9, 10, 12, 13, 14, 15, 16, 18, 19, 20, 21] rfl (by decide) (by kernel_rfl) (fun w' hw hS => ?_)
        refine h_take 0 rfl (by kernel_rfl) (by kernel_rfl) (by kernel_rfl) (v_mv) rfl hS ?_
        refine h_take 1 rfl (by kernel_rfl) (by kernel_rfl) (by kernel_rfl) (v_ne rfl rfl) rfl hS ?_
        refine h_take 2 rfl (by kernel_rfl) (by kernel_rfl) (by kernel_rfl) (v_mv) rfl hS ?_
        by_cases g11_2 : (errOf ({ m with ev := r5_, ents := es6_, conf := ({ vv := a7_, vs := m.conf.vs, lv := b8_, ls := m.conf.ls } : ConfD), dv := c9_ } : MsgD).a.ok) ≠ 0
        ·
          refine h_offg 3 rfl rfl (gT g11_2) rfl (by kernel_rfl) (by kernel_rfl) (by kernel_rfl) rfl hS ?_
          refine h_offg 4 rfl rfl (gT g11_2) rfl (by kernel_rfl) (by kernel_rfl) (by kernel_rfl) rfl hS ?_
          refine h_take 5 rfl (by kernel_rfl) (by kernel_rfl) (by kernel_rfl) (v_pickT (gT g11_2)) rfl hS ?_
          refine h_take 6 rfl (by kernel_rfl) (by kernel_rfl) (by kernel_rfl) (v_mv) rfl hS ?_
          refine h_offg 7 rfl rfl rfl rfl (by kernel_rfl) (by kernel_rfl) (by kernel_rfl) rfl hS ?_
          refine h_offg 8 rfl rfl rfl rfl (by kernel_rfl) (by kernel_rfl) (by kernel_rfl) rfl hS ?_
          refine h_offg 9 rfl rfl rfl rfl (by kernel_rfl) (by kernel_rfl) (by kernel_rfl) rfl hS ?_
          refine h_offg 10 rfl rfl rfl rfl (by kernel_rfl) (by kernel_rfl) (by kernel_rfl) rfl hS ?_
          refine h_offg 11 rfl rfl rfl rfl (by kernel_rfl) (by kernel_rfl) (by kernel_rfl) rfl hS ?_
          refine h_offg 12 rfl rfl rfl rfl (by kernel_rfl) (by kernel_rfl) (by kernel_rfl) rfl hS ?_
          refine h_offg 13 rfl rfl rfl rfl (by kernel_rfl) (by kernel_rfl) (by kernel_rfl) rfl hS ?_
          refine h_offg 14 rfl rfl rfl rfl (by kernel_rfl) (by kernel_rfl) (by kernel_rfl) rfl hS ?_
          refine h_offg 15 rfl rfl rfl rfl (by kernel_rfl) (by kernel_rfl) (by kernel_rfl) rfl hS ?_
          refine h_take 16 rfl (by kernel_rfl) (by kernel_rfl) (by kernel_rfl) (v_pickT rfl) rfl hS ?_
          refine h_take 17 rfl (by kernel_rfl) (by kernel_rfl) (by kernel_rfl) (v_as) rfl hS ?_
          refine h_done (by kernel_rfl) ?_
          refine (?_ : C _ _ _ _ _ _ _ (Own w [] [Res.row b6 24 (CmdD.cells a), Res.row b7 24 (CmdD.cells b), Res.row b8 27 (RepD.cells c), Res.row b9 27 (RepD.cells d), Res.row b10 97 (MsgD.cells m), Res.row b11 97 (MsgD.cells n), Res.vec 5 1 r1_ (if a.ok then a.enc else []).length ((if a.ok then a.enc else []).map vb), Res.vec 5 1 r2_ (if b.ok then b.enc else []).length ((if b.ok then b.enc else []).map vb), Res.vec 5 1 r3_ (if c.ok then c.enc else []).length ((if c.ok then c.enc else []).map vb), Res.vec 5 1 r4_ (if d.ok then d.enc else []).length ((if d.ok then d.enc else []).map vb), Res.vec 50 5 r5_ es6_.length (es6_.flatMap EntD.cells), Res.star (es6_.map EntD.dres), Res.vec 3 1 a7_ m.conf.vs.length (m.conf.vs.flatMap I1), Res.vec 3 1 b8_ m.conf.ls.length (m.conf.ls.flatMap I1), Res.vec 5 1 c9_ m.data.length (m.data.map vb), Res.vec 5 1 r10_ (if ({ m with ev := r5_, ents := es6_, conf := ({ vv := a7_, vs := m.conf.vs, lv := b8_, ls := m.conf.ls } : ConfD), dv := c9_ } : MsgD).a.ok then ({ m with ev := r5_, ents := es6_, conf := ({ vv := a7_, vs := m.conf.vs, lv := b8_, ls := m.conf.ls } : ConfD), dv := c9_ } : MsgD).a.enc else []).length ((if ({ m with ev := r5_, ents := es6_, conf := ({ vv := a7_, vs := m.conf.vs, lv := b8_, ls := m.conf.ls } : ConfD), dv := c9_ } : MsgD).a.ok then ({ m with ev := r5_, ents := es6_, conf := ({ vv := a7_, vs := m.conf.vs, lv := b8_, ls := m.conf.ls } : ConfD), dv := c9_ } : MsgD).a.enc else []).map vb), Res.vec 50 5 r11_ es12_.length (es12_.flatMap EntD.cells), Res.star (es12_.map EntD.dres), Res.vec 3 1 a13_ n.conf.vs.length (n.conf.vs.flatMap I1), Res.vec 3 1 b14_ n.conf.ls.length (n.conf.ls.flatMap I1), Res.vec 5 1 c15_ n.data.length (n.data.map vb), Res.vec 5 1 r16_ (if ({ n with ev := r11_, ents := es12_, conf := ({ vv := a13_, vs := n.conf.vs, lv := b14_, ls := n.conf.ls } : ConfD), dv := c15_ } : MsgD).a.ok then ({ n with ev := r11_, ents := es12_, conf := ({ vv := a13_, vs := n.conf.vs, lv := b14_, ls := n.conf.ls } : ConfD), dv := c15_ } : MsgD).a.enc else []).length ((if ({ n with ev := r11_, ents := es12_, conf := ({ vv := a13_, vs := n.conf.vs, lv := b14_, ls := n.conf.ls } : ConfD), dv := c15_ } : MsgD).a.ok then ({ n with ev := r11_, ents := es12_, conf := ({ vv := a13_, vs := n.conf.vs, lv := b14_, ls := n.conf.ls } : ConfD), dv := c15_ } : MsgD).a.enc else []).map vb)])) _ hw
          exact c_ret (ret1 (v := .bool true) rfl rfl (fun w' hw => ⟨rfl, hw.drop⟩))
        ·
          refine h_takeg 3 rfl rfl (gF g11_2) (by kernel_rfl) (by kernel_rfl) (by kernel_rfl) (v_mv) rfl hS ?_
          refine h_takeg 4 rfl rfl (gF g11_2) (by kernel_rfl) (by kernel_rfl) (by kernel_rfl) (v_ne rfl rfl) rfl hS ?_
          refine h_take 5 rfl (by kernel_rfl) (by kernel_rfl) (by kernel_rfl) (v_pickF (gF g11_2)) rfl hS ?_
          refine h_take 6 rfl (by kernel_rfl) (by kernel_rfl) (by kernel_rfl) (v_mv) rfl hS ?_
          by_cases g11_6 : (errOf ({ n with ev := r11_, ents := es12_, conf := ({ vv := a13_, vs := n.conf.vs, lv := b14_, ls := n.conf.ls } : ConfD), dv := c15_ } : MsgD).a.ok) ≠ 0
          ·
            refine h_offg 7 rfl rfl (gT g11_6) rfl (by kernel_rfl) (by kernel_rfl) (by kernel_rfl) rfl hS ?_
            refine h_offg 8 rfl rfl (gT g11_6) rfl (by kernel_rfl) (by kernel_rfl) (by kernel_rfl) rfl hS ?_
            refine h_offg 9 rfl rfl (gT g11_6) rfl (by kernel_rfl) (by kernel_rfl) (by kernel_rfl) rfl hS ?_
            refine h_offg 10 rfl rfl (gT g11_6) rfl (by kernel_rfl) (by kernel_rfl) (by kernel_rfl) rfl hS ?_
            refine h_offg 11 rfl rfl (gT g11_6) rfl (by kernel_rfl) (by kernel_rfl) (by kernel_rfl) rfl hS ?_
            refine h_offg 12 rfl rfl (gT g11_6) rfl (by kernel_rfl) (by kernel_rfl) (by kernel_rfl) rfl hS ?_
            refine h_offg 13 rfl rfl (gT g11_6) rfl (by kernel_rfl) (by kernel_rfl) (by kernel_rfl) rfl hS ?_
            refine h_offg 14 rfl rfl (gT g11_6) rfl (by kernel_rfl) (by kernel_rfl) (by kernel_rfl) rfl hS ?_
            refine h_offg 15 rfl rfl (gT g11_6) rfl (by kernel_rfl) (by kernel_rfl) (by kernel_rfl) rfl hS ?_
            refine h_take 16 rfl (by kernel_rfl) (by kernel_rfl) (by kernel_rfl) (v_pickT (gT g11_6)) rfl hS ?_
            refine h_take 17 rfl (by kernel_rfl) (by kernel_rfl) (by kernel_rfl) (v_as) rfl hS ?_
            refine h_done (by kernel_rfl) ?_
            refine (?_ : C _ _ _ _ _ _ _ (Own w [] [Res.row b6 24 (CmdD.cells a), Res.row b7 24 (CmdD.cells b), Res.row b8 27 (RepD.cells c), Res.row b9 27 (RepD.cells d), Res.row b10 97 (MsgD.cells m), Res.row b11 97 (MsgD.cells n), Res.vec 5 1 r1_ (if a.ok then a.enc else []).length ((if a.ok then a.enc else []).map vb), Res.vec 5 1 r2_ (if b.ok then b.enc else []).length ((if b.ok then b.enc else []).map vb), Res.vec 5 1 r3_ (if c.ok then c.enc else []).length ((if c.ok then c.enc else []).map vb), Res.vec 5 1 r4_ (if d.ok then d.enc else []).length ((if d.ok then d.enc else []).map vb), Res.vec 50 5 r5_ es6_.length (es6_.flatMap EntD.cells), Res.star (es6_.map EntD.dres), Res.vec 3 1 a7_ m.conf.vs.length (m.conf.vs.flatMap I1), Res.vec 3 1 b8_ m.conf.ls.length (m.conf.ls.flatMap I1), Res.vec 5 1 c9_ m.data.length (m.data.map vb), Res.vec 5 1 r10_ (if ({ m with ev := r5_, ents := es6_, conf := ({ vv := a7_, vs := m.conf.vs, lv := b8_, ls := m.conf.ls } : ConfD), dv := c9_ } : MsgD).a.ok then ({ m with ev := r5_, ents := es6_, conf := ({ vv := a7_, vs := m.conf.vs, lv := b8_, ls := m.conf.ls } : ConfD), dv := c9_ } : MsgD).a.enc else []).length ((if ({ m with ev := r5_, ents := es6_, conf := ({ vv := a7_, vs := m.conf.vs, lv := b8_, ls := m.conf.ls } : ConfD), dv := c9_ } : MsgD).a.ok then ({ m with ev := r5_, ents := es6_, conf := ({ vv := a7_, vs := m.conf.vs, lv := b8_, ls := m.conf.ls } : ConfD), dv := c9_ } : MsgD).a.enc else []).map vb), Res.vec 50 5 r11_ es12_.length (es12_.flatMap EntD.cells), Res.star (es12_.map EntD.dres), Res.vec 3 1 a13_ n.conf.vs.length (n.conf.vs.flatMap I1), Res.vec 3 1 b14_ n.conf.ls.length (n.conf.ls.flatMap I1), Res.vec 5 1 c15_ n.data.length (n.data.map vb), Res.vec 5 1 r16_ (if ({ n with ev := r11_, ents := es12_, conf := ({ vv := a13_, vs := n.conf.vs, lv := b14_, ls := n.conf.ls } : ConfD), dv := c15_ } : MsgD).a.ok then ({ n with ev := r11_, ents := es12_, conf := ({ vv := a13_, vs := n.conf.vs, lv := b14_, ls := n.conf.ls } : ConfD), dv := c15_ } : MsgD).a.enc else []).length ((if ({ n with ev := r11_, ents := es12_, conf := ({ vv := a13_, vs := n.conf.vs, lv := b14_, ls := n.conf.ls } : ConfD), dv := c15_ } : MsgD).a.ok then ({ n with ev := r11_, ents := es12_, conf := ({ vv := a13_, vs := n.conf.vs, lv := b14_, ls := n.conf.ls } : ConfD), dv := c15_ } : MsgD).a.enc else []).map vb)])) _ hw
            exact c_ret (ret1 (v := .bool true) rfl rfl (fun w' hw => ⟨rfl, hw.drop⟩))
          ·
            refine h_takeg 7 rfl rfl (gF g11_6) (by kernel_rfl) (by kernel_rfl) (by kernel_rfl) (v_mv) rfl hS ?_
            refine h_takeg 8 rfl rfl (gF g11_6) (by kernel_rfl) (by kernel_rfl) (by kernel_rfl) (v_b2s (bs := (if ({ m with ev := r5_, ents := es6_, conf := ({ vv := a7_, vs := m.conf.vs, lv := b8_, ls := m.conf.ls } : ConfD), dv := c9_ } : MsgD).a.ok then ({ m with ev := r5_, ents := es6_, conf := ({ vv := a7_, vs := m.conf.vs, lv := b8_, ls := m.conf.ls } : ConfD), dv := c9_ } : MsgD).a.enc else [])) (by kernel_rfl) (by kernel_rfl) rfl (fun w' hw' => Vec.sl (Own.holds hw' 14 _ rfl))) rfl hS ?_
            refine h_takeg 9 rfl rfl (gF g11_6) (by kernel_rfl) (by kernel_rfl) (by kernel_rfl) (v_mv) rfl hS ?_
            refine h_takeg 10 rfl rfl (gF g11_6) (by kernel_rfl) (by kernel_rfl) (by kernel_rfl) (v_b2s (bs := (if ({ n with ev := r11_, ents := es12_, conf := ({ vv := a13_, vs := n.conf.vs, lv := b14_, ls := n.conf.ls } : ConfD), dv := c15_ } : MsgD).a.ok then ({ n with ev := r11_, ents := es12_, conf := ({ vv := a13_, vs := n.conf.vs, lv := b14_, ls := n.conf.ls } : ConfD), dv := c15_ } : MsgD).a.enc else [])) (by kernel_rfl) (by kernel_rfl) rfl (fun w' hw' => Vec.sl (Own.holds hw' 19 _ rfl))) rfl hS ?_
            refine h_takeg 11 rfl rfl (gF g11_6) (by kernel_rfl) (by kernel_rfl) (by kernel_rfl) (v_seq rfl rfl) rfl hS ?_
            refine h_takeg 12 rfl rfl (gF g11_6) (by kernel_rfl) (by kernel_rfl) (by kernel_rfl) (v_ldr (cs := (MsgD.cells m)) 4 rfl rfl (by kernel_rfl)) rfl hS ?_
            refine h_takeg 13 rfl rfl (gF g11_6) (by kernel_rfl) (by kernel_rfl) (by kernel_rfl) (v_ldr (cs := (MsgD.cells n)) 5 rfl rfl (by kernel_rfl)) rfl hS ?_
            refine h_one 14 (by kernel_rfl) rfl hw ?_
            refine l_on rfl (gF g11_6) ?_
            refine l_call (by kernel_rfl) rfl rfl (fun w' hw => ?_)
            refine (sameMsg_s m n w' (by first | assumption | omega | (simp <;> omega) | (constructor <;> (first | omega | (simp only [LenOk]; omega) | (simp <;> omega)))) (by first | assumption | omega | (simp <;> omega) | (constructor <;> (first | omega | (simp only [LenOk]; omega) | (simp <;> omega)))) (rd_m.at0 hw) (rd_n.at0 hw)).mono ?_
            rintro _ w1 ⟨rfl, hO⟩
            refine (?_ : CL _ _ _ _ _ _ (Own w [] [Res.row b6 24 (CmdD.cells a), Res.row b7 24 (CmdD.cells b), Res.row b8 27 (RepD.cells c), Res.row b9 27 (RepD.cells d), Res.row b10 97 (MsgD.cells m), Res.row b11 97 (MsgD.cells n), Res.vec 5 1 r1_ (if a.ok then a.enc else []).length ((if a.ok then a.enc else []).map vb), Res.vec 5 1 r2_ (if b.ok then b.enc else []).length ((if b.ok then b.enc else []).map vb), Res.vec 5 1 r3_ (if c.ok then c.enc else []).length ((if c.ok then c.enc else []).map vb), Res.vec 5 1 r4_ (if d.ok then d.enc else []).length ((if d.ok then d.enc else []).map vb), Res.vec 50 5 r5_ es6_.length (es6_.flatMap EntD.cells), Res.star (es6_.map EntD.dres), Res.vec 3 1 a7_ m.conf.vs.length (m.conf.vs.flatMap I1), Res.vec 3 1 b8_ m.conf.ls.length (m.conf.ls.flatMap I1), Res.vec 5 1 c9_ m.data.length (m.data.map vb), Res.vec 5 1 r10_ (if ({ m with ev := r5_, ents := es6_, conf := ({ vv := a7_, vs := m.conf.vs, lv := b8_, ls := m.conf.ls } : ConfD), dv := c9_ } : MsgD).a.ok then ({ m with ev := r5_, ents := es6_, conf := ({ vv := a7_, vs := m.conf.vs, lv := b8_, ls := m.conf.ls } : ConfD), dv := c9_ } : MsgD).a.enc else []).length ((if ({ m with ev := r5_, ents := es6_, conf := ({ vv := a7_, vs := m.conf.vs, lv := b8_, ls := m.conf.ls } : ConfD), dv := c9_ } : MsgD).a.ok then ({ m with ev := r5_, ents := es6_, conf := ({ vv := a7_, vs := m.conf.vs, lv := b8_, ls := m.conf.ls } : ConfD), dv := c9_ } : MsgD).a.enc else []).map vb), Res.vec 50 5 r11_ es12_.length (es12_.flatMap EntD.cells), Res.star (es12_.map EntD.dres), Res.vec 3 1 a13_ n.conf.vs.length (n.conf.vs.flatMap I1), Res.vec 3 1 b14_ n.conf.ls.length (n.conf.ls.flatMap I1), Res.vec 5 1 c15_ n.data.length (n.data.map vb), Res.vec 5 1 r16_ (if ({ n with ev := r11_, ents := es12_, conf := ({ vv := a13_, vs := n.conf.vs, lv := b14_, ls := n.conf.ls } : ConfD), dv := c15_ } : MsgD).a.ok then ({ n with ev := r11_, ents := es12_, conf := ({ vv := a13_, vs := n.conf.vs, lv := b14_, ls := n.conf.ls } : ConfD), dv := c15_ } : MsgD).a.enc else []).length ((if ({ n with ev := r11_, ents := es12_, conf := ({ vv := a13_, vs := n.conf.vs, lv := b14_, ls := n.conf.ls } : ConfD), dv := c15_ } : MsgD).a.ok then ({ n with ev := r11_, ents := es12_, conf := ({ vv := a13_, vs := n.conf.vs, lv := b14_, ls := n.conf.ls } : ConfD), dv := c15_ } : MsgD).a.enc else []).map vb)])) w1 (hw.frame0 hO)
            refine l_nil (fun w' hw => ?_)
            have hS := hw.sel [0, 1, 2, 3, 4, 5, 6, 7, 8, 9, 10, 12, 13, 14, 15, 16, 18, 19, 20, 21] rfl (by decide)
            refine ⟨hS, ?_⟩
            refine h_takeg 15 rfl rfl (gF g11_6) (by kernel_rfl) (by kernel_rfl) (by kernel_rfl) (v_beqp (by kernel_rfl) rfl rfl) rfl hS ?_
            refine h_take 16 rfl (by kernel_rfl) (by kernel_rfl) (by kernel_rfl) (v_pickF (gF g11_6)) rfl hS ?_
            refine h_take 17 rfl (by kernel_rfl) (by kernel_rfl) (by kernel_rfl) (v_as) rfl hS ?_
            refine h_done (by kernel_rfl) ?_
            refine (?_ : C _ _ _ _ _ _ _ (Own w [] [Res.row b6 24 (CmdD.cells a), Res.row b7 24 (CmdD.cells b), Res.row b8 27 (RepD.cells c), Res.row b9 27 (RepD.cells d), Res.row b10 97 (MsgD.cells m), Res.row b11 97 (MsgD.cells n), Res.vec 5 1 r1_ (if a.ok then a.enc else []).length ((if a.ok then a.enc else []).map vb), Res.vec 5 1 r2_ (if b.ok then b.enc else []).length ((if b.ok then b.enc else []).map vb), Res.vec 5 1 r3_ (if c.ok then c.enc else []).length ((if c.ok then c.enc else []).map vb), Res.vec 5 1 r4_ (if d.ok then d.enc else []).length ((if d.ok then d.enc else []).map vb), Res.vec 50 5 r5_ es6_.length (es6_.flatMap EntD.cells), Res.star (es6_.map EntD.dres), Res.vec 3 1 a7_ m.conf.vs.length (m.conf.vs.flatMap I1), Res.vec 3 1 b8_ m.conf.ls.length (m.conf.ls.flatMap I1), Res.vec 5 1 c9_ m.data.length (m.data.map vb), Res.vec 5 1 r10_ (if ({ m with ev := r5_, ents := es6_, conf := ({ vv := a7_, vs := m.conf.vs, lv := b8_, ls := m.conf.ls } : ConfD), dv := c9_ } : MsgD).a.ok then ({ m with ev := r5_, ents := es6_, conf := ({ vv := a7_, vs := m.conf.vs, lv := b8_, ls := m.conf.ls } : ConfD), dv := c9_ } : MsgD).a.enc else []).length ((if ({ m with ev := r5_, ents := es6_, conf := ({ vv := a7_, vs := m.conf.vs, lv := b8_, ls := m.conf.ls } : ConfD), dv := c9_ } : MsgD).a.ok then ({ m with ev := r5_, ents := es6_, conf := ({ vv := a7_, vs := m.conf.vs, lv := b8_, ls := m.conf.ls } : ConfD), dv := c9_ } : MsgD).a.enc else []).map vb), Res.vec 50 5 r11_ es12_.length (es12_.flatMap EntD.cells), Res.star (es12_.map EntD.dres), Res.vec 3 1 a13_ n.conf.vs.length (n.conf.vs.flatMap I1), Res.vec 3 1 b14_ n.conf.ls.length (n.conf.ls.flatMap I1), Res.vec 5 1 c15_ n.data.length (n.data.map vb), Res.vec 5 1 r16_ (if ({ n with ev := r11_, ents := es12_, conf := ({ vv := a13_, vs := n.conf.vs, lv := b14_, ls := n.conf.ls } : ConfD), dv := c15_ } : MsgD).a.ok then ({ n with ev := r11_, ents := es12_, conf := ({ vv := a13_, vs := n.conf.vs, lv := b14_, ls := n.conf.ls } : ConfD), dv := c15_ } : MsgD).a.enc else []).length ((if ({ n with ev := r11_, ents := es12_, conf := ({ vv := a13_, vs := n.conf.vs, lv := b14_, ls := n.conf.ls } : ConfD), dv := c15_ } : MsgD).a.ok then ({ n with ev := r11_, ents := es12_, conf := ({ vv := a13_, vs := n.conf.vs, lv := b14_, ls := n.conf.ls } : ConfD), dv := c15_ } : MsgD).a.enc else []).map vb)])) _ hw
            exact c_ret (ret1 (v := .bool (decide (((⟨(if ({ m with ev := r5_, ents := es6_, conf := ({ vv := a7_, vs := m.conf.vs, lv := b8_, ls := m.conf.ls } : ConfD), dv := c9_ } : MsgD).a.ok then ({ m with ev := r5_, ents := es6_, conf := ({ vv := a7_, vs := m.conf.vs, lv := b8_, ls := m.conf.ls } : ConfD), dv := c9_ } : MsgD).a.enc else []).toArray⟩ : ByteArray) = (⟨(if ({ n with ev := r11_, ents := es12_, conf := ({ vv := a13_, vs := n.conf.vs, lv := b14_, ls := n.conf.ls } : ConfD), dv := c15_ } : MsgD).a.ok then ({ n with ev := r11_, ents := es12_, conf := ({ vv := a13_, vs := n.conf.vs, lv := b14_, ls := n.conf.ls } : ConfD), dv := c15_ } : MsgD).a.enc else []).toArray⟩ : ByteArray)) ↔ (m.a = n.a)))) rfl rfl (fun w' hw => ⟨(by congr 1; have q1 := Decidable.not_not.1 g11_2; have q2 := Decidable.not_not.1 g11_6; rw [MsgD.own_a hf5_1] at q1; rw [MsgD.own_a hf6_1] at q2; exact decide_eq_true (by rw [MsgD.own_a hf5_1, MsgD.own_a hf6_1]; exact apart (fun h => rt_msg h (m.a_nums hm)) (fun h => rt_msg h (n.a_nums hn)) (fun h => by rw [h]) q1 q2)), hw.drop⟩))
  ·
    refine h_offg 6 rfl rfl (gF g7_5) rfl (by kernel_rfl) (by kernel_rfl) (by kernel_rfl) rfl hS ?_
    refine h_offg 7 rfl rfl (gF g7_5) rfl (by kernel_rfl) (by kernel_rfl) (by kernel_rfl) rfl hS ?_
    refine h_takeg 8 rfl rfl rfl (by kernel_rfl) (by kernel_rfl) (by kernel_rfl) (v_pickF (gF g7_5)) rfl hS ?_
    refine h_takeg 9 rfl rfl rfl (by kernel_rfl) (by kernel_rfl) (by kernel_rfl) (v_mv) rfl hS ?_
    refine h_offg 10 rfl rfl rfl rfl (by kernel_rfl) (by kernel_rfl) (by kernel_rfl) rfl hS ?_
    refine h_offg 11 rfl rfl rfl rfl (by kernel_rfl) (by kernel_rfl) (by kernel_rfl) rfl hS ?_
    refine h_offg 12 rfl rfl rfl rfl (by kernel_rfl) (by kernel_rfl) (by kernel_rfl) rfl hS ?_
    refine h_offg 13 rfl rfl rfl rfl (by kernel_rfl) (by kernel_rfl) (by kernel_rfl) rfl hS ?_
    refine h_offg 14 rfl rfl rfl rfl (by kernel_rfl) (by kernel_rfl) (by kernel_rfl) rfl hS ?_
    refine h_offg 15 rfl rfl rfl rfl (by kernel_rfl) (by kernel_rfl) (by kernel_rfl) rfl hS ?_
    refine h_offg 16 rfl rfl rfl rfl (by kernel_rfl) (by kernel_rfl) (by kernel_rfl) rfl hS ?_
    refine h_offg 17 rfl rfl rfl rfl (by kernel_rfl) (by kernel_rfl) (by kernel_rfl) rfl hS ?_
    refine h_offg 18 rfl rfl rfl rfl (by kernel_rfl) (by kernel_rfl) (by kernel_rfl) rfl hS ?_
    refine h_takeg 19 rfl rfl rfl (by kernel_rfl) (by kernel_rfl) (by kernel_rfl) (v_pickF rfl) rfl hS ?_
    refine h_take 20 rfl (by kernel_rfl) (by kernel_rfl) (by kernel_rfl) (v_pickF rfl) rfl hS ?_
    refine h_done (by kernel_rfl) ?_
    refine (?_ : C _ _ _ _ _ _ _ (Own w [] [Res.row b6 24 (CmdD.cells a), Res.row b7 24 (CmdD.cells b), Res.row b8 27 (RepD.cells c), Res.row b9 27 (RepD.cells d), Res.row b10 97 (MsgD.cells m), Res.row b11 97 (MsgD.cells n), Res.vec 5 1 r1_ (if a.ok then a.enc else []).length ((if a.ok then a.enc else []).map vb), Res.vec 5 1 r2_ (if b.ok then b.enc else []).length ((if b.ok then b.enc else []).map vb), Res.vec 5 1 r3_ (if c.ok then c.enc else []).length ((if c.ok then c.enc else []).map vb), Res.vec 5 1 r4_ (if d.ok then d.enc else []).length ((if d.ok then d.enc else []).map vb), Res.vec 50 5 r5_ es6_.length (es6_.flatMap EntD.cells), Res.star (es6_.map EntD.dres), Res.vec 3 1 a7_ m.conf.vs.length (m.conf.vs.flatMap I1), Res.vec 3 1 b8_ m.conf.ls.length (m.conf.ls.flatMap I1), Res.vec 5 1 c9_ m.data.length (m.data.map vb), Res.vec 5 1 r10_ (if ({ m with ev := r5_, ents := es6_, conf := ({ vv := a7_, vs := m.conf.vs, lv := b8_, ls := m.conf.ls } : ConfD), dv := c9_ } : MsgD).a.ok then ({ m with ev := r5_, ents := es6_, conf := ({ vv := a7_, vs := m.conf.vs, lv := b8_, ls := m.conf.ls } : ConfD), dv := c9_ } : MsgD).a.enc else []).length ((if ({ m with ev := r5_, ents := es6_, conf := ({ vv := a7_, vs := m.conf.vs, lv := b8_, ls := m.conf.ls } : ConfD), dv := c9_ } : MsgD).a.ok then ({ m with ev := r5_, ents := es6_, conf := ({ vv := a7_, vs := m.conf.vs, lv := b8_, ls := m.conf.ls } : ConfD), dv := c9_ } : MsgD).a.enc else []).map vb), Res.vec 50 5 r11_ es12_.length (es12_.flatMap EntD.cells), Res.star (es12_.map EntD.dres), Res.vec 3 1 a13_ n.conf.vs.length (n.conf.vs.flatMap I1), Res.vec 3 1 b14_ n.conf.ls.length (n.conf.ls.flatMap I1), Res.vec 5 1 c15_ n.data.length (n.data.map vb), Res.vec 5 1 r16_ (if ({ n with ev := r11_, ents := es12_, conf := ({ vv := a13_, vs := n.conf.vs, lv := b14_, ls := n.conf.ls } : ConfD), dv := c15_ } : MsgD).a.ok then ({ n with ev := r11_, ents := es12_, conf := ({ vv := a13_, vs := n.conf.vs, lv := b14_, ls := n.conf.ls } : ConfD), dv := c15_ } : MsgD).a.enc else []).length ((if ({ n with ev := r11_, ents := es12_, conf := ({ vv := a13_, vs := n.conf.vs, lv := b14_, ls := n.conf.ls } : ConfD), dv := c15_ } : MsgD).a.ok then ({ n with ev := r11_, ents := es12_, conf := ({ vv := a13_, vs := n.conf.vs, lv := b14_, ls := n.conf.ls } : ConfD), dv := c15_ } : MsgD).a.enc else []).map vb)])) _ hw
    refine c_no rfl ?_
    refine c_skipC ?_
    refine c_seq ?_
    refine c_quiets (by kernel_rfl) (by kernel_rfl) ?_
    refine q_val rfl (v_mv) ?_
    refine q_val rfl (v_eq rfl rfl) ?_
    refine q_val rfl (v_mv) ?_
    refine q_band (q := (errOf c.ok) = 0) 2 2 [82, 81] ((errOf d.ok) = 0) rfl rfl rfl rfl rfl rfl trivial rfl (fun h9_2 => ?_) (fun g9_5 => ?_)
    ·
      refine q_on rfl (gT h9_2) ?_
      refine q_val rfl (v_mv) ?_
      refine q_on rfl (gT h9_2) ?_
      refine q_val rfl (v_eq rfl rfl) ?_
      exact q_nil (fun w' hw => ⟨(by repeat (first | exact Out.refl _ _ | refine Out.upd rfl ?_ | refine Out.msk rfl ?_)), rfl, hw⟩)
    refine q_val rfl (v_mv) ?_
    refine q_band (q := ((errOf c.ok) = 0) ∧ ((errOf d.ok) = 0)) 9 6 [93, 92, 91, 90, 89, 88, 87, 86, 85] (¬ (((⟨(if c.ok then c.enc else []).toArray⟩ : ByteArray) = (⟨(if d.ok then d.enc else []).toArray⟩ : ByteArray)) ↔ (c = d))) rfl rfl rfl rfl rfl rfl trivial rfl (fun h9_6 => ?_) (fun g9_16 => ?_)
    ·
      refine q_on rfl (gT h9_6) ?_
      refine q_val rfl (v_mv) ?_
      refine q_on rfl (gT h9_6) ?_
      refine q_val rfl (v_b2s (bs := (if c.ok then c.enc else [])) (by kernel_rfl) (by kernel_rfl) rfl (fun w' hw' => Vec.sl (Own.holds hw' 8 _ rfl))) ?_
      refine q_on rfl (gT h9_6) ?_
      refine q_val rfl (v_mv) ?_
      refine q_on rfl (gT h9_6) ?_
      refine q_val rfl (v_b2s (bs := (if d.ok then d.enc else [])) (by kernel_rfl) (by kernel_rfl) rfl (fun w' hw' => Vec.sl (Own.holds hw' 9 _ rfl))) ?_
      refine q_on rfl (gT h9_6) ?_
      refine q_val rfl (v_seq rfl rfl) ?_
      refine q_on rfl (gT h9_6) ?_
      refine q_val rfl (v_ldr (cs := (RepD.cells c)) 2 rfl rfl (by kernel_rfl)) ?_
      refine q_on rfl (gT h9_6) ?_
      refine q_val rfl (v_ldr (cs := (RepD.cells d)) 3 rfl rfl (by kernel_rfl)) ?_
      refine q_on rfl (gT h9_6) ?_
      refine q_val rfl (v_stp (RepDEq c d) (by kernel_rfl) (by kernel_rfl) rfl rfl rfl rfl) ?_
      refine q_on rfl (gT h9_6) ?_
      refine q_val rfl (v_bnep (by kernel_rfl) rfl rfl) ?_
      exact q_nil (fun w' hw => ⟨(by repeat (first | exact Out.refl _ _ | refine Out.upd rfl ?_ | refine Out.msk rfl ?_)), rfl, hw⟩)
    refine q_end ?_
    refine c_dec rfl (fun c6 => ?_) (fun c6 => ?_)
    ·
      refine c_reg ?_
      refine l_as rfl ?_
      refine l_end ?_
      exact c_ret (ret1 (v := .bool false) rfl rfl (fun w' hw => ⟨(absurd (apart (fun h => rt_rpl h hc) (fun h => rt_rpl h hd) (fun h => by rw [h]) c6.1.1 c6.1.2) c6.2), hw.drop⟩))
    ·
      refine c_skipC ?_
      refine c_seq ?_
      refine c_heldo [0, 1, 2, 3, 4, 5, 6, 7, 8, 9, 10, 12, 13, 14, 15, 16, 18, 19, 20, 21] rfl (by decide) (by kernel_rfl) (fun w' hw hS => ?_)
      refine h_take 0 rfl (by kernel_rfl) (by kernel_rfl) (by kernel_rfl) (v_mv) rfl hS ?_
      refine h_take 1 rfl (by kernel_rfl) (by kernel_rfl) (by kernel_rfl) (v_ne rfl rfl) rfl hS ?_
      refine h_take 2 rfl (by kernel_rfl) (by kernel_rfl) (by kernel_rfl) (v_mv) rfl hS ?_
      by_cases g11_2 : (errOf ({ m with ev := r5_, ents := es6_, conf := ({ vv := a7_, vs := m.conf.vs, lv := b8_, ls := m.conf.ls } : ConfD), dv := c9_ } : MsgD).a.ok) ≠ 0
      ·
        refine h_offg 3 rfl rfl (gT g11_2) rfl (by kernel_rfl) (by kernel_rfl) (by kernel_rfl) rfl hS ?_
        refine h_offg 4 rfl rfl (gT g11_2) rfl (by kernel_rfl) (by kernel_rfl) (by kernel_rfl) rfl hS ?_
        refine h_take 5 rfl (by kernel_rfl) (by kernel_rfl) (by kernel_rfl) (v_pickT (gT g11_2)) rfl hS ?_
        refine h_take 6 rfl (by kernel_rfl) (by kernel_rfl) (by kernel_rfl) (v_mv) rfl hS ?_
        refine h_offg 7 rfl rfl rfl rfl (by kernel_rfl) (by kernel_rfl) (by kernel_rfl) rfl hS ?_
        refine h_offg 8 rfl rfl rfl rfl (by kernel_rfl) (by kernel_rfl) (by kernel_rfl) rfl hS ?_
        refine h_offg 9 rfl rfl rfl rfl (by kernel_rfl) (by kernel_rfl) (by kernel_rfl) rfl hS ?_
        refine h_offg 10 rfl rfl rfl rfl (by kernel_rfl) (by kernel_rfl) (by kernel_rfl) rfl hS ?_
        refine h_offg 11 rfl rfl rfl rfl (by kernel_rfl) (by kernel_rfl) (by kernel_rfl) rfl hS ?_
        refine h_offg 12 rfl rfl rfl rfl (by kernel_rfl) (by kernel_rfl) (by kernel_rfl) rfl hS ?_
        refine h_offg 13 rfl rfl rfl rfl (by kernel_rfl) (by kernel_rfl) (by kernel_rfl) rfl hS ?_
        refine h_offg 14 rfl rfl rfl rfl (by kernel_rfl) (by kernel_rfl) (by kernel_rfl) rfl hS ?_
        refine h_offg 15 rfl rfl rfl rfl (by kernel_rfl) (by kernel_rfl) (by kernel_rfl) rfl hS ?_
        refine h_take 16 rfl (by kernel_rfl) (by kernel_rfl) (by kernel_rfl) (v_pickT rfl) rfl hS ?_
        refine h_take 17 rfl (by kernel_rfl) (by kernel_rfl) (by kernel_rfl) (v_as) rfl hS ?_
        refine h_done (by kernel_rfl) ?_
        refine (?_ : C _ _ _ _ _ _ _ (Own w [] [Res.row b6 24 (CmdD.cells a), Res.row b7 24 (CmdD.cells b), Res.row b8 27 (RepD.cells c), Res.row b9 27 (RepD.cells d), Res.row b10 97 (MsgD.cells m), Res.row b11 97 (MsgD.cells n), Res.vec 5 1 r1_ (if a.ok then a.enc else []).length ((if a.ok then a.enc else []).map vb), Res.vec 5 1 r2_ (if b.ok then b.enc else []).length ((if b.ok then b.enc else []).map vb), Res.vec 5 1 r3_ (if c.ok then c.enc else []).length ((if c.ok then c.enc else []).map vb), Res.vec 5 1 r4_ (if d.ok then d.enc else []).length ((if d.ok then d.enc else []).map vb), Res.vec 50 5 r5_ es6_.length (es6_.flatMap EntD.cells), Res.star (es6_.map EntD.dres), Res.vec 3 1 a7_ m.conf.vs.length (m.conf.vs.flatMap I1), Res.vec 3 1 b8_ m.conf.ls.length (m.conf.ls.flatMap I1), Res.vec 5 1 c9_ m.data.length (m.data.map vb), Res.vec 5 1 r10_ (if ({ m with ev := r5_, ents := es6_, conf := ({ vv := a7_, vs := m.conf.vs, lv := b8_, ls := m.conf.ls } : ConfD), dv := c9_ } : MsgD).a.ok then ({ m with ev := r5_, ents := es6_, conf := ({ vv := a7_, vs := m.conf.vs, lv := b8_, ls := m.conf.ls } : ConfD), dv := c9_ } : MsgD).a.enc else []).length ((if ({ m with ev := r5_, ents := es6_, conf := ({ vv := a7_, vs := m.conf.vs, lv := b8_, ls := m.conf.ls } : ConfD), dv := c9_ } : MsgD).a.ok then ({ m with ev := r5_, ents := es6_, conf := ({ vv := a7_, vs := m.conf.vs, lv := b8_, ls := m.conf.ls } : ConfD), dv := c9_ } : MsgD).a.enc else []).map vb), Res.vec 50 5 r11_ es12_.length (es12_.flatMap EntD.cells), Res.star (es12_.map EntD.dres), Res.vec 3 1 a13_ n.conf.vs.length (n.conf.vs.flatMap I1), Res.vec 3 1 b14_ n.conf.ls.length (n.conf.ls.flatMap I1), Res.vec 5 1 c15_ n.data.length (n.data.map vb), Res.vec 5 1 r16_ (if ({ n with ev := r11_, ents := es12_, conf := ({ vv := a13_, vs := n.conf.vs, lv := b14_, ls := n.conf.ls } : ConfD), dv := c15_ } : MsgD).a.ok then ({ n with ev := r11_, ents := es12_, conf := ({ vv := a13_, vs := n.conf.vs, lv := b14_, ls := n.conf.ls } : ConfD), dv := c15_ } : MsgD).a.enc else []).length ((if ({ n with ev := r11_, ents := es12_, conf := ({ vv := a13_, vs := n.conf.vs, lv := b14_, ls := n.conf.ls } : ConfD), dv := c15_ } : MsgD).a.ok then ({ n with ev := r11_, ents := es12_, conf := ({ vv := a13_, vs := n.conf.vs, lv := b14_, ls := n.conf.ls } : ConfD), dv := c15_ } : MsgD).a.enc else []).map vb)])) _ hw
        exact c_ret (ret1 (v := .bool true) rfl rfl (fun w' hw => ⟨rfl, hw.drop⟩))
      ·
        refine h_takeg 3 rfl rfl (gF g11_2) (by kernel_rfl) (by kernel_rfl) (by kernel_rfl) (v_mv) rfl hS ?_
        refine h_takeg 4 rfl rfl (gF g11_2) (by kernel_rfl) (by kernel_rfl) (by kernel_rfl) (v_ne rfl rfl) rfl hS ?_
        refine h_take 5 rfl (by kernel_rfl) (by kernel_rfl) (by kernel_rfl) (v_pickF (gF g11_2)) rfl hS ?_
        refine h_take 6 rfl (by kernel_rfl) (by kernel_rfl) (by kernel_rfl) (v_mv) rfl hS ?_
        by_cases g11_6 : (errOf ({ n with ev := r11_, ents := es12_, conf := ({ vv := a13_, vs := n.conf.vs, lv := b14_, ls := n.conf.ls } : ConfD), dv := c15_ } : MsgD).a.ok) ≠ 0
        ·
          refine h_offg 7 rfl rfl (gT g11_6) rfl (by kernel_rfl) (by kernel_rfl) (by kernel_rfl) rfl hS ?_
          refine h_offg 8 rfl rfl (gT g11_6) rfl (by kernel_rfl) (by kernel_rfl) (by kernel_rfl) rfl hS ?_
          refine h_offg 9 rfl rfl (gT g11_6) rfl (by kernel_rfl) (by kernel_rfl) (by kernel_rfl) rfl hS ?_
          refine h_offg 10 rfl rfl (gT g11_6) rfl (by kernel_rfl) (by kernel_rfl) (by kernel_rfl) rfl hS ?_
          refine h_offg 11 rfl rfl (gT g11_6) rfl (by kernel_rfl) (by kernel_rfl) (by kernel_rfl) rfl hS ?_
          refine h_offg 12 rfl rfl (gT g11_6) rfl (by kernel_rfl) (by kernel_rfl) (by kernel_rfl) rfl hS ?_
          refine h_offg 13 rfl rfl (gT g11_6) rfl (by kernel_rfl) (by kernel_rfl) (by kernel_rfl) rfl hS ?_
          refine h_offg 14 rfl rfl (gT g11_6) rfl (by kernel_rfl) (by kernel_rfl) (by kernel_rfl) rfl hS ?_
          refine h_offg 15 rfl rfl (gT g11_6) rfl (by kernel_rfl) (by kernel_rfl) (by kernel_rfl) rfl hS ?_
          refine h_take 16 rfl (by kernel_rfl) (by kernel_rfl) (by kernel_rfl) (v_pickT (gT g11_6)) rfl hS ?_
          refine h_take 17 rfl (by kernel_rfl) (by kernel_rfl) (by kernel_rfl) (v_as) rfl hS ?_
          refine h_done (by kernel_rfl) ?_
          refine (?_ : C _ _ _ _ _ _ _ (Own w [] [Res.row b6 24 (CmdD.cells a), Res.row b7 24 (CmdD.cells b), Res.row b8 27 (RepD.cells c), Res.row b9 27 (RepD.cells d), Res.row b10 97 (MsgD.cells m), Res.row b11 97 (MsgD.cells n), Res.vec 5 1 r1_ (if a.ok then a.enc else []).length ((if a.ok then a.enc else []).map vb), Res.vec 5 1 r2_ (if b.ok then b.enc else []).length ((if b.ok then b.enc else []).map vb), Res.vec 5 1 r3_ (if c.ok then c.enc else []).length ((if c.ok then c.enc else []).map vb), Res.vec 5 1 r4_ (if d.ok then d.enc else []).length ((if d.ok then d.enc else []).map vb), Res.vec 50 5 r5_ es6_.length (es6_.flatMap EntD.cells), Res.star (es6_.map EntD.dres), Res.vec 3 1 a7_ m.conf.vs.length (m.conf.vs.flatMap I1), Res.vec 3 1 b8_ m.conf.ls.length (m.conf.ls.flatMap I1), Res.vec 5 1 c9_ m.data.length (m.data.map vb), Res.vec 5 1 r10_ (if ({ m with ev := r5_, ents := es6_, conf := ({ vv := a7_, vs := m.conf.vs, lv := b8_, ls := m.conf.ls } : ConfD), dv := c9_ } : MsgD).a.ok then ({ m with ev := r5_, ents := es6_, conf := ({ vv := a7_, vs := m.conf.vs, lv := b8_, ls := m.conf.ls } : ConfD), dv := c9_ } : MsgD).a.enc else []).length ((if ({ m with ev := r5_, ents := es6_, conf := ({ vv := a7_, vs := m.conf.vs, lv := b8_, ls := m.conf.ls } : ConfD), dv := c9_ } : MsgD).a.ok then ({ m with ev := r5_, ents := es6_, conf := ({ vv := a7_, vs := m.conf.vs, lv := b8_, ls := m.conf.ls } : ConfD), dv := c9_ } : MsgD).a.enc else []).map vb), Res.vec 50 5 r11_ es12_.length (es12_.flatMap EntD.cells), Res.star (es12_.map EntD.dres), Res.vec 3 1 a13_ n.conf.vs.length (n.conf.vs.flatMap I1), Res.vec 3 1 b14_ n.conf.ls.length (n.conf.ls.flatMap I1), Res.vec 5 1 c15_ n.data.length (n.data.map vb), Res.vec 5 1 r16_ (if ({ n with ev := r11_, ents := es12_, conf := ({ vv := a13_, vs := n.conf.vs, lv := b14_, ls := n.conf.ls } : ConfD), dv := c15_ } : MsgD).a.ok then ({ n with ev := r11_, ents := es12_, conf := ({ vv := a13_, vs := n.conf.vs, lv := b14_, ls := n.conf.ls } : ConfD), dv := c15_ } : MsgD).a.enc else []).length ((if ({ n with ev := r11_, ents := es12_, conf := ({ vv := a13_, vs := n.conf.vs, lv := b14_, ls := n.conf.ls } : ConfD), dv := c15_ } : MsgD).a.ok then ({ n with ev := r11_, ents := es12_, conf := ({ vv := a13_, vs := n.conf.vs, lv := b14_, ls := n.conf.ls } : ConfD), dv := c15_ } : MsgD).a.enc else []).map vb)])) _ hw
          exact c_ret (ret1 (v := .bool true) rfl rfl (fun w' hw => ⟨rfl, hw.drop⟩))
        ·
          refine h_takeg 7 rfl rfl (gF g11_6) (by kernel_rfl) (by kernel_rfl) (by kernel_rfl) (v_mv) rfl hS ?_
          refine h_takeg 8 rfl rfl (gF g11_6) (by kernel_rfl) (by kernel_rfl) (by kernel_rfl) (v_b2s (bs := (if ({ m with ev := r5_, ents := es6_, conf := ({ vv := a7_, vs := m.conf.vs, lv := b8_, ls := m.conf.ls } : ConfD), dv := c9_ } : MsgD).a.ok then ({ m with ev := r5_, ents := es6_, conf := ({ vv := a7_, vs := m.conf.vs, lv := b8_, ls := m.conf.ls } : ConfD), dv := c9_ } : MsgD).a.enc else [])) (by kernel_rfl) (by kernel_rfl) rfl (fun w' hw' => Vec.sl (Own.holds hw' 14 _ rfl))) rfl hS ?_
          refine h_takeg 9 rfl rfl (gF g11_6) (by kernel_rfl) (by kernel_rfl) (by kernel_rfl) (v_mv) rfl hS ?_
          refine h_takeg 10 rfl rfl (gF g11_6) (by kernel_rfl) (by kernel_rfl) (by kernel_rfl) (v_b2s (bs := (if ({ n with ev := r11_, ents := es12_, conf := ({ vv := a13_, vs := n.conf.vs, lv := b14_, ls := n.conf.ls } : ConfD), dv := c15_ } : MsgD).a.ok then ({ n with ev := r11_, ents := es12_, conf := ({ vv := a13_, vs := n.conf.vs, lv := b14_, ls := n.conf.ls } : ConfD), dv := c15_ } : MsgD).a.enc else [])) (by kernel_rfl) (by kernel_rfl) rfl (fun w' hw' => Vec.sl (Own.holds hw' 19 _ rfl))) rfl hS ?_
          refine h_takeg 11 rfl rfl (gF g11_6) (by kernel_rfl) (by kernel_rfl) (by kernel_rfl) (v_seq rfl rfl) rfl hS ?_
          refine h_takeg 12 rfl rfl (gF g11_6) (by kernel_rfl) (by kernel_rfl) (by kernel_rfl) (v_ldr (cs := (MsgD.cells m)) 4 rfl rfl (by kernel_rfl)) rfl hS ?_
          refine h_takeg 13 rfl rfl (gF g11_6) (by kernel_rfl) (by kernel_rfl) (by kernel_rfl) (v_ldr (cs := (MsgD.cells n)) 5 rfl rfl (by kernel_rfl)) rfl hS ?_
          refine h_one 14 (by kernel_rfl) rfl hw ?_
          refine l_on rfl (gF g11_6) ?_
          refine l_call (by kernel_rfl) rfl rfl (fun w' hw => ?_)
          refine (sameMsg_s m n w' (by first | assumption | omega | (simp <;> omega) | (constructor <;> (first | omega | (simp only [LenOk]; omega) | (simp <;> omega)))) (by first | assumption | omega | (simp <;> omega) | (constructor <;> (first | omega | (simp only [LenOk]; omega) | (simp <;> omega)))) (rd_m.at0 hw) (rd_n.at0 hw)).mono ?_
          rintro _ w1 ⟨rfl, hO⟩
          refine (?_ : CL _ _ _ _ _ _ (Own w [] [Res.row b6 24 (CmdD.cells a), Res.row b7 24 (CmdD.cells b), Res.row b8 27 (RepD.cells c), Res.row b9 27 (RepD.cells d), Res.row b10 97 (MsgD.cells m), Res.row b11 97 (MsgD.cells n), Res.vec 5 1 r1_ (if a.ok then a.enc else []).length ((if a.ok then a.enc else []).map vb), Res.vec 5 1 r2_ (if b.ok then b.enc else []).length ((if b.ok then b.enc else []).map vb), Res.vec 5 1 r3_ (if c.ok then c.enc else []).length ((if c.ok then c.enc else []).map vb), Res.vec 5 1 r4_ (if d.ok then d.enc else []).length ((if d.ok then d.enc else []).map vb), Res.vec 50 5 r5_ es6_.length (es6_.flatMap EntD.cells), Res.star (es6_.map EntD.dres), Res.vec 3 1 a7_ m.conf.vs.length (m.conf.vs.flatMap I1), Res.vec 3 1 b8_ m.conf.ls.length (m.conf.ls.flatMap I1), Res.vec 5 1 c9_ m.data.length (m.data.map vb), Res.vec 5 1 r10_ (if ({ m with ev := r5_, ents := es6_, conf := ({ vv := a7_, vs := m.conf.vs, lv := b8_, ls := m.conf.ls } : ConfD), dv := c9_ } : MsgD).a.ok then ({ m with ev := r5_, ents := es6_, conf := ({ vv := a7_, vs := m.conf.vs, lv := b8_, ls := m.conf.ls } : ConfD), dv := c9_ } : MsgD).a.enc else []).length ((if ({ m with ev := r5_, ents := es6_, conf := ({ vv := a7_, vs := m.conf.vs, lv := b8_, ls := m.conf.ls } : ConfD), dv := c9_ } : MsgD).a.ok then ({ m with ev := r5_, ents := es6_, conf := ({ vv := a7_, vs := m.conf.vs, lv := b8_, ls := m.conf.ls } : ConfD), dv := c9_ } : MsgD).a.enc else []).map vb), Res.vec 50 5 r11_ es12_.length (es12_.flatMap EntD.cells), Res.star (es12_.map EntD.dres), Res.vec 3 1 a13_ n.conf.vs.length (n.conf.vs.flatMap I1), Res.vec 3 1 b14_ n.conf.ls.length (n.conf.ls.flatMap I1), Res.vec 5 1 c15_ n.data.length (n.data.map vb), Res.vec 5 1 r16_ (if ({ n with ev := r11_, ents := es12_, conf := ({ vv := a13_, vs := n.conf.vs, lv := b14_, ls := n.conf.ls } : ConfD), dv := c15_ } : MsgD).a.ok then ({ n with ev := r11_, ents := es12_, conf := ({ vv := a13_, vs := n.conf.vs, lv := b14_, ls := n.conf.ls } : ConfD), dv := c15_ } : MsgD).a.enc else []).length ((if ({ n with ev := r11_, ents := es12_, conf := ({ vv := a13_, vs := n.conf.vs, lv := b14_, ls := n.conf.ls } : ConfD), dv := c15_ } : MsgD).a.ok then ({ n with ev := r11_, ents := es12_, conf := ({ vv := a13_, vs := n.conf.vs, lv := b14_, ls := n.conf.ls } : ConfD), dv := c15_ } : MsgD).a.enc else []).map vb)])) w1 (hw.frame0 hO)
          refine l_nil (fun w' hw => ?_)
          have hS := hw.sel [0, 1, 2, 3, 4, 5, 6, 7, 8, 9, 10, 12, 13, 14, 15, 16, 18, 19, 20, 21] rfl (by decide)
          refine ⟨hS, ?_⟩
          refine h_takeg 15 rfl rfl (gF g11_6) (by kernel_rfl) (by kernel_rfl) (by kernel_rfl) (v_beqp (by kernel_rfl) rfl rfl) rfl hS ?_
          refine h_take 16 rfl (by kernel_rfl) (by kernel_rfl) (by kernel_rfl) (v_pickF (gF g11_6)) rfl hS ?_
          refine h_take 17 rfl (by kernel_rfl) (by kernel_rfl) (by kernel_rfl) (v_as) rfl hS ?_
          refine h_done (by kernel_rfl) ?_
          refine (?_ : C _ _ _ _ _ _ _ (Own w [] [Res.row b6 24 (CmdD.cells a), Res.row b7 24 (CmdD.cells b), Res.row b8 27 (RepD.cells c), Res.row b9 27 (RepD.cells d), Res.row b10 97 (MsgD.cells m), Res.row b11 97 (MsgD.cells n), Res.vec 5 1 r1_ (if a.ok then a.enc else []).length ((if a.ok then a.enc else []).map vb), Res.vec 5 1 r2_ (if b.ok then b.enc else []).length ((if b.ok then b.enc else []).map vb), Res.vec 5 1 r3_ (if c.ok then c.enc else []).length ((if c.ok then c.enc else []).map vb), Res.vec 5 1 r4_ (if d.ok then d.enc else []).length ((if d.ok then d.enc else []).map vb), Res.vec 50 5 r5_ es6_.length (es6_.flatMap EntD.cells), Res.star (es6_.map EntD.dres), Res.vec 3 1 a7_ m.conf.vs.length (m.conf.vs.flatMap I1), Res.vec 3 1 b8_ m.conf.ls.length (m.conf.ls.flatMap I1), Res.vec 5 1 c9_ m.data.length (m.data.map vb), Res.vec 5 1 r10_ (if ({ m with ev := r5_, ents := es6_, conf := ({ vv := a7_, vs := m.conf.vs, lv := b8_, ls := m.conf.ls } : ConfD), dv := c9_ } : MsgD).a.ok then ({ m with ev := r5_, ents := es6_, conf := ({ vv := a7_, vs := m.conf.vs, lv := b8_, ls := m.conf.ls } : ConfD), dv := c9_ } : MsgD).a.enc else []).length ((if ({ m with ev := r5_, ents := es6_, conf := ({ vv := a7_, vs := m.conf.vs, lv := b8_, ls := m.conf.ls } : ConfD), dv := c9_ } : MsgD).a.ok then ({ m with ev := r5_, ents := es6_, conf := ({ vv := a7_, vs := m.conf.vs, lv := b8_, ls := m.conf.ls } : ConfD), dv := c9_ } : MsgD).a.enc else []).map vb), Res.vec 50 5 r11_ es12_.length (es12_.flatMap EntD.cells), Res.star (es12_.map EntD.dres), Res.vec 3 1 a13_ n.conf.vs.length (n.conf.vs.flatMap I1), Res.vec 3 1 b14_ n.conf.ls.length (n.conf.ls.flatMap I1), Res.vec 5 1 c15_ n.data.length (n.data.map vb), Res.vec 5 1 r16_ (if ({ n with ev := r11_, ents := es12_, conf := ({ vv := a13_, vs := n.conf.vs, lv := b14_, ls := n.conf.ls } : ConfD), dv := c15_ } : MsgD).a.ok then ({ n with ev := r11_, ents := es12_, conf := ({ vv := a13_, vs := n.conf.vs, lv := b14_, ls := n.conf.ls } : ConfD), dv := c15_ } : MsgD).a.enc else []).length ((if ({ n with ev := r11_, ents := es12_, conf := ({ vv := a13_, vs := n.conf.vs, lv := b14_, ls := n.conf.ls } : ConfD), dv := c15_ } : MsgD).a.ok then ({ n with ev := r11_, ents := es12_, conf := ({ vv := a13_, vs := n.conf.vs, lv := b14_, ls := n.conf.ls } : ConfD), dv := c15_ } : MsgD).a.enc else []).map vb)])) _ hw
          exact c_ret (ret1 (v := .bool (decide (((⟨(if ({ m with ev := r5_, ents := es6_, conf := ({ vv := a7_, vs := m.conf.vs, lv := b8_, ls := m.conf.ls } : ConfD), dv := c9_ } : MsgD).a.ok then ({ m with ev := r5_, ents := es6_, conf := ({ vv := a7_, vs := m.conf.vs, lv := b8_, ls := m.conf.ls } : ConfD), dv := c9_ } : MsgD).a.enc else []).toArray⟩ : ByteArray) = (⟨(if ({ n with ev := r11_, ents := es12_, conf := ({ vv := a13_, vs := n.conf.vs, lv := b14_, ls := n.conf.ls } : ConfD), dv := c15_ } : MsgD).a.ok then ({ n with ev := r11_, ents := es12_, conf := ({ vv := a13_, vs := n.conf.vs, lv := b14_, ls := n.conf.ls } : ConfD), dv := c15_ } : MsgD).a.enc else []).toArray⟩ : ByteArray)) ↔ (m.a = n.a)))) rfl rfl (fun w' hw => ⟨(by congr 1; have q1 := Decidable.not_not.1 g11_2; have q2 := Decidable.not_not.1 g11_6; rw [MsgD.own_a hf5_1] at q1; rw [MsgD.own_a hf6_1] at q2; exact decide_eq_true (by rw [MsgD.own_a hf5_1, MsgD.own_a hf6_1]; exact apart (fun h => rt_msg h (m.a_nums hm)) (fun h => rt_msg h (n.a_nums hn)) (fun h => by rw [h]) q1 q2)), hw.drop⟩))
end Go.Proofs.Ytlkoekhjegaimaa
