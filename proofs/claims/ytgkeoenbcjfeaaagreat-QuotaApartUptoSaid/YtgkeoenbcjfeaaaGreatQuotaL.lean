/-
  WHAT IS DONE to a table and to the reference's, both at once.
-/
import Derived.Test.YtgkeoenbcjfeaaaGreatQuotaR
set_option linter.unusedVariables false
set_option maxRecDepth 10000
namespace Go.Proofs.YtgkeoenbcjfeaaaGreat
open Go Go.Sc Go.Proofs

theorem LeaDEq (r s : LeaD) : eqL [(0, some (some .u64)), (1, some (some .u64)), (2, some none), (3, some (some .i64)), (4, some (some .i64))] r.cells s.cells = decide (r = s) := by
  obtain ⟨a, b, c, d, e⟩ := r
  obtain ⟨a', b', c', d', e'⟩ := s
  simp [eqL, LeaD.cells, eqC, LeaD.mk.injEq, Bool.decide_and]
  have h : ∀ m n : Nat, decide ((m : Int) = n) = decide (m = n) := fun m n => decide_eq_decide.2 (by omega)
  simp only [h]
structure QActD where
  kind : Int
  key : ByteArray
  n : Int
  span : Int
  session : Nat
  id : Nat
def QActD.cells (x : QActD) : List Value := [.int .i64 x.kind, .string x.key, .int .i64 x.n, .int .i64 x.span, .int .u64 x.session, .int .u64 x.id]
instance : Inhabited QActD := ⟨⟨0, ⟨#[]⟩, 0, 0, 0, 0⟩⟩
structure QActD.wf (x : QActD) : Prop where
  n : isI x.n
  span : isI x.span
  session : x.session < 18446744073709551616
  id : x.id < 18446744073709551616
theorem passG_len (now n : Int) (ls : List LeaD) : (passG now n ls).length ≤ ls.length := by
  unfold passG; split
  · rw [List.length_map]; exact List.length_filter_le _ _
  · simp
/-- Nothing more is lent of any key. -/
def Less (ls ls' : List LeaD) : Prop := ∀ k, lentS k ls' ≤ lentS k ls
theorem Less.refl (ls : List LeaD) : Less ls ls := fun _ => Int.le_refl _
theorem qact_s (b bm lm wb : Nat) (now : Int) (cnt : Nat) (kb : List (ByteArray × Int)) (kl : List (Nat × LeaD)) (bv lv : Value) (bs : List BudD) (ls : List LeaD) (a : QActD) (w : World) (ho : QOk now cnt bs ls) (hr : QRel kb kl bs ls) (hw : a.wf) (hc : cnt ≤ 10000) (hin : Own w (fps [Res.row b 58 [.map (some bm), .map (some lm), .int .i64 now, .int .u64 (cnt : Nat)], Res.mp Value.string ekI bm kb, Res.mp ekU leaV lm kl, Res.row wb 30 [.int .i64 now, .int .u64 (cnt : Nat), bv, lv], Res.vec 62 2 bv bs.length (bs.flatMap BudD.cells), Res.vec 49 5 lv ls.length (ls.flatMap LeaD.cells)]) [Res.row b 58 [.map (some bm), .map (some lm), .int .i64 now, .int .u64 (cnt : Nat)], Res.mp Value.string ekI bm kb, Res.mp ekU leaV lm kl, Res.row wb 30 [.int .i64 now, .int .u64 (cnt : Nat), bv, lv], Res.vec 62 2 bv bs.length (bs.flatMap BudD.cells), Res.vec 49 5 lv ls.length (ls.flatMap LeaD.cells)] w) : Rets Tryz.prog 13 #[.pointer (some ⟨b, 0, none⟩), .pointer (some ⟨wb, 0, none⟩), .agg (QActD.cells a).toArray] w fun u_ w' => ∃ (now' : Int) (cnt' : Nat) (kb' : List (ByteArray × Int)) (kl' : List (Nat × LeaD)) (bv' lv' : Value) (bs' : List BudD) (ls' : List LeaD), u_ = .bool true ∧ QOk now' cnt' bs' ls' ∧ QRel kb' kl' bs' ls' ∧ cnt' ≤ cnt + 1 ∧ (¬ a.kind = 3 → Less ls ls') ∧ (QSrt bs → QSrt bs') ∧ Own w (fps [Res.row b 58 [.map (some bm), .map (some lm), .int .i64 now, .int .u64 (cnt : Nat)], Res.mp Value.string ekI bm kb, Res.mp ekU leaV lm kl, Res.row wb 30 [.int .i64 now, .int .u64 (cnt : Nat), bv, lv], Res.vec 62 2 bv bs.length (bs.flatMap BudD.cells), Res.vec 49 5 lv ls.length (ls.flatMap LeaD.cells)]) [Res.row b 58 [.map (some bm), .map (some lm), .int .i64 now', .int .u64 (cnt' : Nat)], Res.mp Value.string ekI bm kb', Res.mp ekU leaV lm kl', Res.row wb 30 [.int .i64 now', .int .u64 (cnt' : Nat), bv', lv'], Res.vec 62 2 bv' bs'.length (bs'.flatMap BudD.cells), Res.vec 49 5 lv' ls'.length (ls'.flatMap LeaD.cells)] w' := by
  have ht := ho.time
  have hll := ho.llen
  have hkk := ho.knl hr
  have hkl : kl.length ≤ 128 := by rw [hr.llen]; exact ho.llen
  have hlen : 0 ≤ lentK a.key kl ∧ lentK a.key kl ≤ 9223372036854775807 := by rw [hr.lent]; exact ho.lent0 _
  have han := hw.n
  have has := hw.span
  have hc2 : cnt ≤ 1000000 := by omega
  refine fn_enter (args := [.pointer (some ⟨b, 0, none⟩), .pointer (some ⟨wb, 0, none⟩), .agg (QActD.cells a).toArray]) Tryz.func13 rfl Tryz.ntmps13 rfl (show Own w (fps [Res.row b 58 [.map (some bm), .map (some lm), .int .i64 now, .int .u64 (cnt : Nat)], Res.mp Value.string ekI bm kb, Res.mp ekU leaV lm kl, Res.row wb 30 [.int .i64 now, .int .u64 (cnt : Nat), bv, lv], Res.vec 62 2 bv bs.length (bs.flatMap BudD.cells), Res.vec 49 5 lv ls.length (ls.flatMap LeaD.cells)]) [Res.row b 58 [.map (some bm), .map (some lm), .int .i64 now, .int .u64 (cnt : Nat)], Res.mp Value.string ekI bm kb, Res.mp ekU leaV lm kl, Res.row wb 30 [.int .i64 now, .int .u64 (cnt : Nat), bv, lv], Res.vec 62 2 bv bs.length (bs.flatMap BudD.cells), Res.vec 49 5 lv ls.length (ls.flatMap LeaD.cells)] w from hin) ?_
  refine c_reg ?_
  refine l_box rfl rfl (fun b5 => ?_)
  refine l_as rfl ?_
  refine l_end ?_
  refine c_seq ?_
  refine c_reg ?_
  refine l_fld (o := 0) rfl (by kernel_rfl) rfl ?_
  refine l_ldo 6 (v := .int .i64 a.kind) rfl rfl rfl (by kernel_rfl) rfl ?_
  refine l_end ?_
  refine c_block ?_
  refine c_reg ?_
  refine l_eq rfl rfl rfl ?_
  refine l_as rfl ?_
  refine l_end ?_
  refine c_dec rfl (fun c1 => ?_) (fun c1 => ?_)
  ·
    refine c_reg ?_
    refine l_mv rfl ?_
    refine l_fld (o := 2) rfl (by kernel_rfl) rfl ?_
    refine l_ldo 6 (v := .int .i64 a.n) rfl rfl rfl (by kernel_rfl) rfl ?_
    refine l_call (by kernel_rfl) rfl rfl (fun w' hw => ?_)
    refine (pass_s b bm lm now cnt kl a.n w' (by first | assumption | omega | (simp <;> omega) | (constructor <;> (first | omega | (simp only [LenOk]; omega) | (simp <;> omega)))) (by first | assumption | omega | (simp <;> omega) | (constructor <;> (first | omega | (simp only [LenOk]; omega) | (simp <;> omega)))) (by first | assumption | omega | (simp <;> omega) | (constructor <;> (first | omega | (simp only [LenOk]; omega) | (simp <;> omega)))) (by first | assumption | omega | (simp <;> omega) | (constructor <;> (first | omega | (simp only [LenOk]; omega) | (simp <;> omega)))) (hw.give [0, 2] rfl (by decide))).mono ?_
    rintro _ w1 ⟨gv1_, gs2_, e3_, now'4_, kl'5_, rfl, hf3_3, hf3_3_1, hf3_3_2, hf3_3_3, hf3_3_4, hO⟩
    refine (?_ : CL _ _ _ _ _ _ (Own w (fps [Res.row b 58 [.map (some bm), .map (some lm), .int .i64 now, .int .u64 (cnt : Nat)], Res.mp Value.string ekI bm kb, Res.mp ekU leaV lm kl, Res.row wb 30 [.int .i64 now, .int .u64 (cnt : Nat), bv, lv], Res.vec 62 2 bv bs.length (bs.flatMap BudD.cells), Res.vec 49 5 lv ls.length (ls.flatMap LeaD.cells)]) [Res.mp Value.string ekI bm kb, Res.row wb 30 [.int .i64 now, .int .u64 (cnt : Nat), bv, lv], Res.vec 62 2 bv bs.length (bs.flatMap BudD.cells), Res.vec 49 5 lv ls.length (ls.flatMap LeaD.cells), Res.row b5 33 (QActD.cells a), Res.row b 58 [.map (some bm), .map (some lm), .int .i64 now'4_, .int .u64 (cnt : Nat)], Res.mp ekU leaV lm kl'5_, Res.vec 26 1 gv1_ gs2_.length (gs2_.flatMap U1)])) w1 (hw.frameL [0, 2] rfl hO)
    refine l_mv rfl ?_
    refine l_ext (vs := [gv1_, .int .i64 e3_]) rfl rfl rfl ?_
    refine l_ext (vs := [gv1_, .int .i64 e3_]) rfl rfl rfl ?_
    refine l_as rfl ?_
    refine l_as rfl ?_
    refine l_end ?_
    refine c_reg ?_
    refine l_mv rfl ?_
    refine l_fld (o := 2) rfl (by kernel_rfl) rfl ?_
    refine l_ldo 4 (v := .int .i64 a.n) rfl rfl rfl (by kernel_rfl) rfl ?_
    refine l_call (by kernel_rfl) rfl rfl (fun w' hw => ?_)
    refine (rpass_s wb now cnt bv lv bs ls a.n w' (by first | assumption | omega | (simp <;> omega) | (constructor <;> (first | omega | (simp only [LenOk]; omega) | (simp <;> omega)))) (by first | assumption | omega | (simp <;> omega) | (constructor <;> (first | omega | (simp only [LenOk]; omega) | (simp <;> omega)))) (by first | assumption | omega | (simp <;> omega) | (constructor <;> (first | omega | (simp only [LenOk]; omega) | (simp <;> omega)))) (hw.give [1, 3] rfl (by decide))).mono ?_
    rintro _ w1 ⟨gv6_, gs7_, e8_, now'9_, lv'10_, ls'11_, rfl, hf4_3, hf4_3_1, hf4_3_2, hf4_3_3, hO⟩
    refine (?_ : CL _ _ _ _ _ _ (Own w (fps [Res.row b 58 [.map (some bm), .map (some lm), .int .i64 now, .int .u64 (cnt : Nat)], Res.mp Value.string ekI bm kb, Res.mp ekU leaV lm kl, Res.row wb 30 [.int .i64 now, .int .u64 (cnt : Nat), bv, lv], Res.vec 62 2 bv bs.length (bs.flatMap BudD.cells), Res.vec 49 5 lv ls.length (ls.flatMap LeaD.cells)]) [Res.mp Value.string ekI bm kb, Res.vec 62 2 bv bs.length (bs.flatMap BudD.cells), Res.row b5 33 (QActD.cells a), Res.row b 58 [.map (some bm), .map (some lm), .int .i64 now'4_, .int .u64 (cnt : Nat)], Res.mp ekU leaV lm kl'5_, Res.vec 26 1 gv1_ gs2_.length (gs2_.flatMap U1), Res.row wb 30 [.int .i64 now'9_, .int .u64 (cnt : Nat), bv, lv'10_], Res.vec 49 5 lv'10_ ls'11_.length (ls'11_.flatMap LeaD.cells), Res.vec 26 1 gv6_ gs7_.length (gs7_.flatMap U1)])) w1 (hw.frameL [1, 3] rfl hO)
    refine l_mv rfl ?_
    refine l_ext (vs := [gv6_, .int .i64 e8_]) rfl rfl rfl ?_
    refine l_ext (vs := [gv6_, .int .i64 e8_]) rfl rfl rfl ?_
    refine l_as rfl ?_
    refine l_as rfl ?_
    refine l_end ?_
    refine c_reg ?_
    refine l_mv rfl ?_
    refine l_mv rfl ?_
    refine l_call (by kernel_rfl) rfl rfl (fun w' hw => ?_)
    refine (rids_s gv1_ gs2_ gv6_ gs7_ w' (by rw [passG_eq ho hr hf3_3_3 hf3_3_4]; have := passG_len now a.n ls; omega) (by rw [hf4_3_3]; have := passG_len now a.n ls; omega) (hw.rdVec0 5 rfl) (hw.rdVec0 8 rfl)).mono ?_
    rintro _ w1 ⟨rfl, hO⟩
    refine (?_ : CL _ _ _ _ _ _ (Own w (fps [Res.row b 58 [.map (some bm), .map (some lm), .int .i64 now, .int .u64 (cnt : Nat)], Res.mp Value.string ekI bm kb, Res.mp ekU leaV lm kl, Res.row wb 30 [.int .i64 now, .int .u64 (cnt : Nat), bv, lv], Res.vec 62 2 bv bs.length (bs.flatMap BudD.cells), Res.vec 49 5 lv ls.length (ls.flatMap LeaD.cells)]) [Res.mp Value.string ekI bm kb, Res.vec 62 2 bv bs.length (bs.flatMap BudD.cells), Res.row b5 33 (QActD.cells a), Res.row b 58 [.map (some bm), .map (some lm), .int .i64 now'4_, .int .u64 (cnt : Nat)], Res.mp ekU leaV lm kl'5_, Res.vec 26 1 gv1_ gs2_.length (gs2_.flatMap U1), Res.row wb 30 [.int .i64 now'9_, .int .u64 (cnt : Nat), bv, lv'10_], Res.vec 49 5 lv'10_ ls'11_.length (ls'11_.flatMap LeaD.cells), Res.vec 26 1 gv6_ gs7_.length (gs7_.flatMap U1)])) w1 (hw.frame0 hO)
    refine l_mv rfl ?_
    refine l_band (q := gs2_ = gs7_) 3 3 [55, 54, 53] (e3_ = e8_) rfl rfl rfl rfl rfl rfl trivial rfl (fun h5_3 => ?_) (fun g5_7 => ?_)
    ·
      refine l_on rfl (gT h5_3) ?_
      refine l_mv rfl ?_
      refine l_on rfl (gT h5_3) ?_
      refine l_mv rfl ?_
      refine l_on rfl (gT h5_3) ?_
      refine l_eq rfl rfl rfl ?_
      exact l_nil (fun w' hw => ⟨(by repeat (first | exact Out.refl _ _ | refine Out.upd rfl ?_ | refine Out.msk rfl ?_)), rfl, hw⟩)
    refine l_as rfl ?_
    refine l_end ?_
    exact c_ret (ret1 (v := .bool (decide ((gs2_ = gs7_) ∧ (e3_ = e8_)))) rfl rfl (fun w' hw => ⟨passN now a.n, cnt, kb, kl'5_, bv, lv'10_, bs, ls'11_, (by congr 1; exact decide_eq_true ⟨(passG_eq ho hr hf3_3_3 hf3_3_4).trans hf4_3_3.symm, hf3_3.trans hf4_3.symm⟩), (by rw [hf4_3_2]; exact ho.pass a.n han), (by rw [hf3_3_2, hf4_3_2]; exact hr.pass a.n), Nat.le_succ _, (fun _ k => by rw [hf4_3_2]; exact passL_lent ho.pos a.n k), id, by have e1 := hf3_3_1; have e2 := hf4_3_1; rw [e1, e2] at hw; exact hw.sel [3, 0, 4, 6, 1, 7] rfl (by decide)⟩))
  ·
    refine c_reg ?_
    refine l_eq rfl rfl rfl ?_
    refine l_as rfl ?_
    refine l_end ?_
    refine c_dec rfl (fun c2 => ?_) (fun c2 => ?_)
    ·
      refine c_reg ?_
      refine l_mv rfl ?_
      refine l_fld (o := 1) rfl (by kernel_rfl) rfl ?_
      refine l_ldo 6 (v := .string a.key) rfl rfl rfl (by kernel_rfl) rfl ?_
      refine l_fld (o := 2) rfl (by kernel_rfl) rfl ?_
      refine l_ldo 6 (v := .int .i64 a.n) rfl rfl rfl (by kernel_rfl) rfl ?_
      refine l_call (by kernel_rfl) rfl rfl (fun w' hw => ?_)
      refine (set_s b bm lm now cnt kb kl a.key a.n w' (hw.give [0, 1, 2] rfl (by decide))).mono ?_
      rintro _ w1 ⟨n12_, e13_, kb'14_, rfl, hf7_5, hf7_5_1, hf7_5_2, hO⟩
      refine (?_ : CL _ _ _ _ _ _ (Own w (fps [Res.row b 58 [.map (some bm), .map (some lm), .int .i64 now, .int .u64 (cnt : Nat)], Res.mp Value.string ekI bm kb, Res.mp ekU leaV lm kl, Res.row wb 30 [.int .i64 now, .int .u64 (cnt : Nat), bv, lv], Res.vec 62 2 bv bs.length (bs.flatMap BudD.cells), Res.vec 49 5 lv ls.length (ls.flatMap LeaD.cells)]) [Res.row wb 30 [.int .i64 now, .int .u64 (cnt : Nat), bv, lv], Res.vec 62 2 bv bs.length (bs.flatMap BudD.cells), Res.vec 49 5 lv ls.length (ls.flatMap LeaD.cells), Res.row b5 33 (QActD.cells a), Res.row b 58 [.map (some bm), .map (some lm), .int .i64 now, .int .u64 (cnt : Nat)], Res.mp Value.string ekI bm kb'14_, Res.mp ekU leaV lm kl])) w1 (hw.frameL [0, 1, 2] rfl hO)
      refine l_mv rfl ?_
      refine l_ext (vs := [.int .i64 n12_, .int .i64 e13_]) rfl rfl rfl ?_
      refine l_ext (vs := [.int .i64 n12_, .int .i64 e13_]) rfl rfl rfl ?_
      refine l_as rfl ?_
      refine l_as rfl ?_
      refine l_end ?_
      refine c_reg ?_
      refine l_mv rfl ?_
      refine l_fld (o := 1) rfl (by kernel_rfl) rfl ?_
      refine l_ldo 3 (v := .string a.key) rfl rfl rfl (by kernel_rfl) rfl ?_
      refine l_fld (o := 2) rfl (by kernel_rfl) rfl ?_
      refine l_ldo 3 (v := .int .i64 a.n) rfl rfl rfl (by kernel_rfl) rfl ?_
      refine l_call (by kernel_rfl) rfl rfl (fun w' hw => ?_)
      refine (rset_s wb now cnt bv lv bs ls a.key a.n w' (by first | assumption | omega | (simp <;> omega) | (constructor <;> (first | omega | (simp only [LenOk]; omega) | (simp <;> omega)))) (hw.give [0, 1, 2] rfl (by decide))).mono ?_
      rintro _ w1 ⟨n15_, e16_, bv'17_, bs'18_, rfl, hf8_5, hf8_5_1, hf8_5_2, hO⟩
      refine (?_ : CL _ _ _ _ _ _ (Own w (fps [Res.row b 58 [.map (some bm), .map (some lm), .int .i64 now, .int .u64 (cnt : Nat)], Res.mp Value.string ekI bm kb, Res.mp ekU leaV lm kl, Res.row wb 30 [.int .i64 now, .int .u64 (cnt : Nat), bv, lv], Res.vec 62 2 bv bs.length (bs.flatMap BudD.cells), Res.vec 49 5 lv ls.length (ls.flatMap LeaD.cells)]) [Res.row b5 33 (QActD.cells a), Res.row b 58 [.map (some bm), .map (some lm), .int .i64 now, .int .u64 (cnt : Nat)], Res.mp Value.string ekI bm kb'14_, Res.mp ekU leaV lm kl, Res.row wb 30 [.int .i64 now, .int .u64 (cnt : Nat), bv'17_, lv], Res.vec 62 2 bv'17_ bs'18_.length (bs'18_.flatMap BudD.cells), Res.vec 49 5 lv ls.length (ls.flatMap LeaD.cells)])) w1 (hw.frameL [0, 1, 2] rfl hO)
      refine l_mv rfl ?_
      refine l_ext (vs := [.int .i64 n15_, .int .i64 e16_]) rfl rfl rfl ?_
      refine l_ext (vs := [.int .i64 n15_, .int .i64 e16_]) rfl rfl rfl ?_
      refine l_as rfl ?_
      refine l_as rfl ?_
      refine l_end ?_
      refine c_reg ?_
      refine l_mv rfl ?_
      refine l_mv rfl ?_
      refine l_eq rfl rfl rfl ?_
      refine l_mv rfl ?_
      refine l_band (q := n12_ = n15_) 3 3 [83, 82, 81] (e13_ = e16_) rfl rfl rfl rfl rfl rfl trivial rfl (fun h9_3 => ?_) (fun g9_7 => ?_)
      ·
        refine l_on rfl (gT h9_3) ?_
        refine l_mv rfl ?_
        refine l_on rfl (gT h9_3) ?_
        refine l_mv rfl ?_
        refine l_on rfl (gT h9_3) ?_
        refine l_eq rfl rfl rfl ?_
        exact l_nil (fun w' hw => ⟨(by repeat (first | exact Out.refl _ _ | refine Out.upd rfl ?_ | refine Out.msk rfl ?_)), rfl, hw⟩)
      refine l_as rfl ?_
      refine l_end ?_
      exact c_ret (ret1 (v := .bool (decide ((n12_ = n15_) ∧ (e13_ = e16_)))) rfl rfl (fun w' hw => ⟨now, cnt, kb'14_, kl, bv'17_, lv, bs'18_, ls, (by congr 1; exact decide_eq_true ⟨by rw [hf7_5_2, hf8_5_2, hf7_5, hf8_5, setE_eq ho hr, hr.lent], hf7_5.trans ((setE_eq ho hr _ _).trans hf8_5.symm)⟩), (by rw [hf8_5_1]; exact ho.set _ _ han), (by rw [hf7_5_1, hf8_5_1]; exact QRel.set ho hr _ _), Nat.le_succ _, (fun _ => Less.refl _), (fun h => by rw [hf8_5_1]; exact h.set _ _), hw.sel [1, 2, 3, 4, 5, 6] rfl (by decide)⟩))
    ·
      refine c_reg ?_
      refine l_eq rfl rfl rfl ?_
      refine l_as rfl ?_
      refine l_end ?_
      refine c_dec rfl (fun c3 => ?_) (fun c3 => ?_)
      ·
        refine c_reg ?_
        refine l_mv rfl ?_
        refine l_fld (o := 4) rfl (by kernel_rfl) rfl ?_
        refine l_ldo 6 (v := .int .u64 (a.session : Nat)) rfl rfl rfl (by kernel_rfl) rfl ?_
        refine l_fld (o := 1) rfl (by kernel_rfl) rfl ?_
        refine l_ldo 6 (v := .string a.key) rfl rfl rfl (by kernel_rfl) rfl ?_
        refine l_fld (o := 2) rfl (by kernel_rfl) rfl ?_
        refine l_ldo 6 (v := .int .i64 a.n) rfl rfl rfl (by kernel_rfl) rfl ?_
        refine l_fld (o := 3) rfl (by kernel_rfl) rfl ?_
        refine l_ldo 6 (v := .int .i64 a.span) rfl rfl rfl (by kernel_rfl) rfl ?_
        refine l_call (by kernel_rfl) rfl rfl (fun w' hw => ?_)
        refine (lend_s b bm lm now cnt kb kl a.session a.key a.n a.span w' (by first | assumption | omega | (simp <;> omega) | (constructor <;> (first | omega | (simp only [LenOk]; omega) | (simp <;> omega)))) (by first | assumption | omega | (simp <;> omega) | (constructor <;> (first | omega | (simp only [LenOk]; omega) | (simp <;> omega)))) (by first | assumption | omega | (simp <;> omega) | (constructor <;> (first | omega | (simp only [LenOk]; omega) | (simp <;> omega)))) (by first | assumption | omega | (simp <;> omega) | (constructor <;> (first | omega | (simp only [LenOk]; omega) | (simp <;> omega)))) (hw.give [0, 1, 2] rfl (by decide))).mono ?_
        rintro _ w1 ⟨x19_, e20_, cnt'21_, kl'22_, rfl, hf11_9, hf11_9_1, hf11_9_2, hf11_9_3, hO⟩
        refine (?_ : CL _ _ _ _ _ _ (Own w (fps [Res.row b 58 [.map (some bm), .map (some lm), .int .i64 now, .int .u64 (cnt : Nat)], Res.mp Value.string ekI bm kb, Res.mp ekU leaV lm kl, Res.row wb 30 [.int .i64 now, .int .u64 (cnt : Nat), bv, lv], Res.vec 62 2 bv bs.length (bs.flatMap BudD.cells), Res.vec 49 5 lv ls.length (ls.flatMap LeaD.cells)]) [Res.row wb 30 [.int .i64 now, .int .u64 (cnt : Nat), bv, lv], Res.vec 62 2 bv bs.length (bs.flatMap BudD.cells), Res.vec 49 5 lv ls.length (ls.flatMap LeaD.cells), Res.row b5 33 (QActD.cells a), Res.row b 58 [.map (some bm), .map (some lm), .int .i64 now, .int .u64 (cnt'21_ : Nat)], Res.mp Value.string ekI bm kb, Res.mp ekU leaV lm kl'22_])) w1 (hw.frameL [0, 1, 2] rfl hO)
        refine l_mv rfl ?_
        refine l_ext (vs := [.agg (LeaD.cells x19_).toArray, .int .i64 e20_]) rfl rfl rfl ?_
        refine l_ext (vs := [.agg (LeaD.cells x19_).toArray, .int .i64 e20_]) rfl rfl rfl ?_
        refine l_new (v := .agg #[.int .u64 (0 : Nat), .int .u64 (0 : Nat), .string (⟨#[]⟩ : ByteArray), .int .i64 0, .int .i64 0]) (by kernel_rfl) rfl (fun b15 => ?_)
        refine l_stN (cs := [.int .u64 (0 : Nat), .int .u64 (0 : Nat), .string (⟨#[]⟩ : ByteArray), .int .i64 0, .int .i64 0]) (vs := [.int .u64 (x19_.id : Nat), .int .u64 (x19_.session : Nat), .string x19_.key, .int .i64 x19_.amount, .int .i64 x19_.until_]) 7 rfl rfl rfl (by kernel_rfl) (allc_cons rfl (allc_cons rfl (allc_cons rfl (allc_cons rfl (allc_cons rfl allc_nil))))) (Nat.le_of_ble_eq_true rfl) ?_
        refine l_as rfl ?_
        refine l_end ?_
        refine c_reg ?_
        refine l_mv rfl ?_
        refine l_fld (o := 4) rfl (by kernel_rfl) rfl ?_
        refine l_ldo 3 (v := .int .u64 (a.session : Nat)) rfl rfl rfl (by kernel_rfl) rfl ?_
        refine l_fld (o := 1) rfl (by kernel_rfl) rfl ?_
        refine l_ldo 3 (v := .string a.key) rfl rfl rfl (by kernel_rfl) rfl ?_
        refine l_fld (o := 2) rfl (by kernel_rfl) rfl ?_
        refine l_ldo 3 (v := .int .i64 a.n) rfl rfl rfl (by kernel_rfl) rfl ?_
        refine l_fld (o := 3) rfl (by kernel_rfl) rfl ?_
        refine l_ldo 3 (v := .int .i64 a.span) rfl rfl rfl (by kernel_rfl) rfl ?_
        refine l_call (by kernel_rfl) rfl rfl (fun w' hw => ?_)
        refine (rlend_s wb now cnt bv lv bs ls a.session a.key a.n a.span w' (by first | assumption | omega | (simp <;> omega) | (constructor <;> (first | omega | (simp only [LenOk]; omega) | (simp <;> omega)))) (by first | assumption | omega | (simp <;> omega) | (constructor <;> (first | omega | (simp only [LenOk]; omega) | (simp <;> omega)))) (by first | assumption | omega | (simp <;> omega) | (constructor <;> (first | omega | (simp only [LenOk]; omega) | (simp <;> omega)))) (hw.give [0, 1, 2] rfl (by decide))).mono ?_
        rintro _ w1 ⟨x23_, e24_, cnt'25_, lv'26_, ls'27_, rfl, hf12_9, hf12_9_1, hf12_9_2, hf12_9_3, hO⟩
        have hle := hf11_9.trans ((lendE_eq ho hr _ _ _ _).trans hf12_9.symm)
        have hlx : x19_ = x23_ := by rw [hf11_9_1, hf12_9_1, hle]
        have hlc : cnt'21_ = cnt'25_ := by rw [hf11_9_2, hf12_9_2, hle]
        refine (?_ : CL _ _ _ _ _ _ (Own w (fps [Res.row b 58 [.map (some bm), .map (some lm), .int .i64 now, .int .u64 (cnt : Nat)], Res.mp Value.string ekI bm kb, Res.mp ekU leaV lm kl, Res.row wb 30 [.int .i64 now, .int .u64 (cnt : Nat), bv, lv], Res.vec 62 2 bv bs.length (bs.flatMap BudD.cells), Res.vec 49 5 lv ls.length (ls.flatMap LeaD.cells)]) [Res.row b5 33 (QActD.cells a), Res.row b 58 [.map (some bm), .map (some lm), .int .i64 now, .int .u64 (cnt'21_ : Nat)], Res.mp Value.string ekI bm kb, Res.mp ekU leaV lm kl'22_, Res.row b15 49 (LeaD.cells x19_), Res.row wb 30 [.int .i64 now, .int .u64 (cnt'25_ : Nat), bv, lv'26_], Res.vec 62 2 bv bs.length (bs.flatMap BudD.cells), Res.vec 49 5 lv'26_ ls'27_.length (ls'27_.flatMap LeaD.cells)])) w1 (hw.frameL [0, 1, 2] rfl hO)
        refine l_mv rfl ?_
        refine l_ext (vs := [.agg (LeaD.cells x23_).toArray, .int .i64 e24_]) rfl rfl rfl ?_
        refine l_ext (vs := [.agg (LeaD.cells x23_).toArray, .int .i64 e24_]) rfl rfl rfl ?_
        refine l_new (v := .agg #[.int .u64 (0 : Nat), .int .u64 (0 : Nat), .string (⟨#[]⟩ : ByteArray), .int .i64 0, .int .i64 0]) (by kernel_rfl) rfl (fun b17 => ?_)
        refine l_stN (cs := [.int .u64 (0 : Nat), .int .u64 (0 : Nat), .string (⟨#[]⟩ : ByteArray), .int .i64 0, .int .i64 0]) (vs := [.int .u64 (x23_.id : Nat), .int .u64 (x23_.session : Nat), .string x23_.key, .int .i64 x23_.amount, .int .i64 x23_.until_]) 8 rfl rfl rfl (by kernel_rfl) (allc_cons rfl (allc_cons rfl (allc_cons rfl (allc_cons rfl (allc_cons rfl allc_nil))))) (Nat.le_of_ble_eq_true rfl) ?_
        refine l_as rfl ?_
        refine l_end ?_
        refine c_reg ?_
        refine l_ldr (cs := (LeaD.cells x19_)) 4 rfl rfl (by kernel_rfl) rfl ?_
        refine l_ldr (cs := (LeaD.cells x23_)) 8 rfl rfl (by kernel_rfl) rfl ?_
        refine l_val rfl (v_stp (LeaDEq x19_ x23_) (by kernel_rfl) (by kernel_rfl) rfl rfl rfl rfl) ?_
        refine l_mv rfl ?_
        refine l_band (q := x19_ = x23_) 3 3 [119, 118, 117] (e20_ = e24_) rfl rfl rfl rfl rfl rfl trivial rfl (fun h13_3 => ?_) (fun g13_7 => ?_)
        ·
          refine l_on rfl (gT h13_3) ?_
          refine l_mv rfl ?_
          refine l_on rfl (gT h13_3) ?_
          refine l_mv rfl ?_
          refine l_on rfl (gT h13_3) ?_
          refine l_eq rfl rfl rfl ?_
          exact l_nil (fun w' hw => ⟨(by repeat (first | exact Out.refl _ _ | refine Out.upd rfl ?_ | refine Out.msk rfl ?_)), rfl, hw⟩)
        refine l_as rfl ?_
        refine l_end ?_
        exact c_ret (ret1 (v := .bool (decide ((x19_ = x23_) ∧ (e20_ = e24_)))) rfl rfl (fun w' hw => ⟨now, cnt'25_, kb, kl'22_, bv, lv'26_, bs, ls'27_, (by congr 1; exact decide_eq_true ⟨hlx, hle⟩), (by rw [hf12_9_2, hf12_9_3, hf12_9_1]; exact ho.lend hf12_9), (by rw [hf11_9_3, hf12_9_3, hlx, hle]; exact QRel.lend ho hr (fun h0 => by rw [hf12_9_1]; unfold lendX; rw [if_pos h0])), (by rw [hf12_9_2]; unfold lendC; split <;> omega), (fun h => absurd c3 h), id, by rw [hlc] at hw; exact hw.sel [1, 2, 3, 5, 6, 7] rfl (by decide)⟩))
      ·
        refine c_reg ?_
        refine l_eq rfl rfl rfl ?_
        refine l_as rfl ?_
        refine l_end ?_
        refine c_dec rfl (fun c4 => ?_) (fun c4 => ?_)
        ·
          refine c_reg ?_
          refine l_mv rfl ?_
          refine l_fld (o := 4) rfl (by kernel_rfl) rfl ?_
          refine l_ldo 6 (v := .int .u64 (a.session : Nat)) rfl rfl rfl (by kernel_rfl) rfl ?_
          refine l_fld (o := 5) rfl (by kernel_rfl) rfl ?_
          refine l_ldo 6 (v := .int .u64 (a.id : Nat)) rfl rfl rfl (by kernel_rfl) rfl ?_
          refine l_fld (o := 3) rfl (by kernel_rfl) rfl ?_
          refine l_ldo 6 (v := .int .i64 a.span) rfl rfl rfl (by kernel_rfl) rfl ?_
          refine l_call (by kernel_rfl) rfl rfl (fun w' hw => ?_)
          refine (renew_s b bm lm now cnt kb kl a.session a.id a.span w' (by first | assumption | omega | (simp <;> omega) | (constructor <;> (first | omega | (simp only [LenOk]; omega) | (simp <;> omega)))) (hw.give [0, 1, 2] rfl (by decide))).mono ?_
          rintro _ w1 ⟨x28_, e29_, kl'30_, rfl, hf15_7, hO⟩
          refine (?_ : CL _ _ _ _ _ _ (Own w (fps [Res.row b 58 [.map (some bm), .map (some lm), .int .i64 now, .int .u64 (cnt : Nat)], Res.mp Value.string ekI bm kb, Res.mp ekU leaV lm kl, Res.row wb 30 [.int .i64 now, .int .u64 (cnt : Nat), bv, lv], Res.vec 62 2 bv bs.length (bs.flatMap BudD.cells), Res.vec 49 5 lv ls.length (ls.flatMap LeaD.cells)]) [Res.row wb 30 [.int .i64 now, .int .u64 (cnt : Nat), bv, lv], Res.vec 62 2 bv bs.length (bs.flatMap BudD.cells), Res.vec 49 5 lv ls.length (ls.flatMap LeaD.cells), Res.row b5 33 (QActD.cells a), Res.row b 58 [.map (some bm), .map (some lm), .int .i64 now, .int .u64 (cnt : Nat)], Res.mp Value.string ekI bm kb, Res.mp ekU leaV lm kl'30_])) w1 (hw.frameL [0, 1, 2] rfl hO)
          refine l_mv rfl ?_
          refine l_ext (vs := [.agg (LeaD.cells x28_).toArray, .int .i64 e29_]) rfl rfl rfl ?_
          refine l_ext (vs := [.agg (LeaD.cells x28_).toArray, .int .i64 e29_]) rfl rfl rfl ?_
          refine l_new (v := .agg #[.int .u64 (0 : Nat), .int .u64 (0 : Nat), .string (⟨#[]⟩ : ByteArray), .int .i64 0, .int .i64 0]) (by kernel_rfl) rfl (fun b19 => ?_)
          refine l_stN (cs := [.int .u64 (0 : Nat), .int .u64 (0 : Nat), .string (⟨#[]⟩ : ByteArray), .int .i64 0, .int .i64 0]) (vs := [.int .u64 (x28_.id : Nat), .int .u64 (x28_.session : Nat), .string x28_.key, .int .i64 x28_.amount, .int .i64 x28_.until_]) 7 rfl rfl rfl (by kernel_rfl) (allc_cons rfl (allc_cons rfl (allc_cons rfl (allc_cons rfl (allc_cons rfl allc_nil))))) (Nat.le_of_ble_eq_true rfl) ?_
          refine l_as rfl ?_
          refine l_end ?_
          refine c_reg ?_
          refine l_mv rfl ?_
          refine l_fld (o := 4) rfl (by kernel_rfl) rfl ?_
          refine l_ldo 3 (v := .int .u64 (a.session : Nat)) rfl rfl rfl (by kernel_rfl) rfl ?_
          refine l_fld (o := 5) rfl (by kernel_rfl) rfl ?_
          refine l_ldo 3 (v := .int .u64 (a.id : Nat)) rfl rfl rfl (by kernel_rfl) rfl ?_
          refine l_fld (o := 3) rfl (by kernel_rfl) rfl ?_
          refine l_ldo 3 (v := .int .i64 a.span) rfl rfl rfl (by kernel_rfl) rfl ?_
          refine l_call (by kernel_rfl) rfl rfl (fun w' hw => ?_)
          refine (rrenew_s wb now cnt bv lv bs ls a.session a.id a.span w' (by first | assumption | omega | (simp <;> omega) | (constructor <;> (first | omega | (simp only [LenOk]; omega) | (simp <;> omega)))) (hw.give [0, 1, 2] rfl (by decide))).mono ?_
          rintro _ w1 ⟨x31_, e32_, ls'33_, rfl, hf16_7, hO⟩
          refine (?_ : CL _ _ _ _ _ _ (Own w (fps [Res.row b 58 [.map (some bm), .map (some lm), .int .i64 now, .int .u64 (cnt : Nat)], Res.mp Value.string ekI bm kb, Res.mp ekU leaV lm kl, Res.row wb 30 [.int .i64 now, .int .u64 (cnt : Nat), bv, lv], Res.vec 62 2 bv bs.length (bs.flatMap BudD.cells), Res.vec 49 5 lv ls.length (ls.flatMap LeaD.cells)]) [Res.row b5 33 (QActD.cells a), Res.row b 58 [.map (some bm), .map (some lm), .int .i64 now, .int .u64 (cnt : Nat)], Res.mp Value.string ekI bm kb, Res.mp ekU leaV lm kl'30_, Res.row b19 49 (LeaD.cells x28_), Res.row wb 30 [.int .i64 now, .int .u64 (cnt : Nat), bv, lv], Res.vec 62 2 bv bs.length (bs.flatMap BudD.cells), Res.vec 49 5 lv ls'33_.length (ls'33_.flatMap LeaD.cells)])) w1 (hw.frameL [0, 1, 2] rfl hO)
          refine l_mv rfl ?_
          refine l_ext (vs := [.agg (LeaD.cells x31_).toArray, .int .i64 e32_]) rfl rfl rfl ?_
          refine l_ext (vs := [.agg (LeaD.cells x31_).toArray, .int .i64 e32_]) rfl rfl rfl ?_
          refine l_new (v := .agg #[.int .u64 (0 : Nat), .int .u64 (0 : Nat), .string (⟨#[]⟩ : ByteArray), .int .i64 0, .int .i64 0]) (by kernel_rfl) rfl (fun b21 => ?_)
          refine l_stN (cs := [.int .u64 (0 : Nat), .int .u64 (0 : Nat), .string (⟨#[]⟩ : ByteArray), .int .i64 0, .int .i64 0]) (vs := [.int .u64 (x31_.id : Nat), .int .u64 (x31_.session : Nat), .string x31_.key, .int .i64 x31_.amount, .int .i64 x31_.until_]) 8 rfl rfl rfl (by kernel_rfl) (allc_cons rfl (allc_cons rfl (allc_cons rfl (allc_cons rfl (allc_cons rfl allc_nil))))) (Nat.le_of_ble_eq_true rfl) ?_
          refine l_as rfl ?_
          refine l_end ?_
          refine c_reg ?_
          refine l_ldr (cs := (LeaD.cells x28_)) 4 rfl rfl (by kernel_rfl) rfl ?_
          refine l_ldr (cs := (LeaD.cells x31_)) 8 rfl rfl (by kernel_rfl) rfl ?_
          refine l_val rfl (v_stp (LeaDEq x28_ x31_) (by kernel_rfl) (by kernel_rfl) rfl rfl rfl rfl) ?_
          refine l_mv rfl ?_
          refine l_band (q := x28_ = x31_) 3 3 [151, 150, 149] (e29_ = e32_) rfl rfl rfl rfl rfl rfl trivial rfl (fun h17_3 => ?_) (fun g17_7 => ?_)
          ·
            refine l_on rfl (gT h17_3) ?_
            refine l_mv rfl ?_
            refine l_on rfl (gT h17_3) ?_
            refine l_mv rfl ?_
            refine l_on rfl (gT h17_3) ?_
            refine l_eq rfl rfl rfl ?_
            exact l_nil (fun w' hw => ⟨(by repeat (first | exact Out.refl _ _ | refine Out.upd rfl ?_ | refine Out.msk rfl ?_)), rfl, hw⟩)
          refine l_as rfl ?_
          refine l_end ?_
          exact c_ret (ret1 (v := .bool (decide ((x28_ = x31_) ∧ (e29_ = e32_)))) rfl rfl (fun w' hw => ⟨now, cnt, kb, kl'30_, bv, lv, bs, ls'33_, (by congr 1; exact decide_eq_true ⟨(renew_rel ho hr hf15_7 hf16_7).1, (renew_rel ho hr hf15_7 hf16_7).2.1⟩), (renew_rel ho hr hf15_7 hf16_7).2.2.2, (renew_rel ho hr hf15_7 hf16_7).2.2.1, Nat.le_succ _, (fun _ k => Int.le_of_eq (renew_lent ho hf16_7 k)), id, hw.sel [1, 2, 3, 5, 6, 7] rfl (by decide)⟩))
        ·
          refine c_reg ?_
          refine l_eq rfl rfl rfl ?_
          refine l_as rfl ?_
          refine l_end ?_
          refine c_dec rfl (fun c5 => ?_) (fun c5 => ?_)
          ·
            refine c_reg ?_
            refine l_mv rfl ?_
            refine l_fld (o := 4) rfl (by kernel_rfl) rfl ?_
            refine l_ldo 6 (v := .int .u64 (a.session : Nat)) rfl rfl rfl (by kernel_rfl) rfl ?_
            refine l_fld (o := 5) rfl (by kernel_rfl) rfl ?_
            refine l_ldo 6 (v := .int .u64 (a.id : Nat)) rfl rfl rfl (by kernel_rfl) rfl ?_
            refine l_call (by kernel_rfl) rfl rfl (fun w' hw => ?_)
            refine (back_s b bm lm now cnt kl a.session a.id w' (hw.give [0, 2] rfl (by decide))).mono ?_
            rintro _ w1 ⟨x34_, e35_, kl'36_, rfl, hf19_5, hO⟩
            refine (?_ : CL _ _ _ _ _ _ (Own w (fps [Res.row b 58 [.map (some bm), .map (some lm), .int .i64 now, .int .u64 (cnt : Nat)], Res.mp Value.string ekI bm kb, Res.mp ekU leaV lm kl, Res.row wb 30 [.int .i64 now, .int .u64 (cnt : Nat), bv, lv], Res.vec 62 2 bv bs.length (bs.flatMap BudD.cells), Res.vec 49 5 lv ls.length (ls.flatMap LeaD.cells)]) [Res.mp Value.string ekI bm kb, Res.row wb 30 [.int .i64 now, .int .u64 (cnt : Nat), bv, lv], Res.vec 62 2 bv bs.length (bs.flatMap BudD.cells), Res.vec 49 5 lv ls.length (ls.flatMap LeaD.cells), Res.row b5 33 (QActD.cells a), Res.row b 58 [.map (some bm), .map (some lm), .int .i64 now, .int .u64 (cnt : Nat)], Res.mp ekU leaV lm kl'36_])) w1 (hw.frameL [0, 2] rfl hO)
            refine l_mv rfl ?_
            refine l_ext (vs := [.agg (LeaD.cells x34_).toArray, .int .i64 e35_]) rfl rfl rfl ?_
            refine l_ext (vs := [.agg (LeaD.cells x34_).toArray, .int .i64 e35_]) rfl rfl rfl ?_
            refine l_new (v := .agg #[.int .u64 (0 : Nat), .int .u64 (0 : Nat), .string (⟨#[]⟩ : ByteArray), .int .i64 0, .int .i64 0]) (by kernel_rfl) rfl (fun b23 => ?_)
            refine l_stN (cs := [.int .u64 (0 : Nat), .int .u64 (0 : Nat), .string (⟨#[]⟩ : ByteArray), .int .i64 0, .int .i64 0]) (vs := [.int .u64 (x34_.id : Nat), .int .u64 (x34_.session : Nat), .string x34_.key, .int .i64 x34_.amount, .int .i64 x34_.until_]) 7 rfl rfl rfl (by kernel_rfl) (allc_cons rfl (allc_cons rfl (allc_cons rfl (allc_cons rfl (allc_cons rfl allc_nil))))) (Nat.le_of_ble_eq_true rfl) ?_
            refine l_as rfl ?_
            refine l_end ?_
            refine c_reg ?_
            refine l_mv rfl ?_
            refine l_fld (o := 4) rfl (by kernel_rfl) rfl ?_
            refine l_ldo 4 (v := .int .u64 (a.session : Nat)) rfl rfl rfl (by kernel_rfl) rfl ?_
            refine l_fld (o := 5) rfl (by kernel_rfl) rfl ?_
            refine l_ldo 4 (v := .int .u64 (a.id : Nat)) rfl rfl rfl (by kernel_rfl) rfl ?_
            refine l_call (by kernel_rfl) rfl rfl (fun w' hw => ?_)
            refine (rback_s wb now cnt bv lv bs ls a.session a.id w' (by first | assumption | omega | (simp <;> omega) | (constructor <;> (first | omega | (simp only [LenOk]; omega) | (simp <;> omega)))) (hw.give [1, 3] rfl (by decide))).mono ?_
            rintro _ w1 ⟨x37_, e38_, lv'39_, ls'40_, rfl, hf20_5, hO⟩
            refine (?_ : CL _ _ _ _ _ _ (Own w (fps [Res.row b 58 [.map (some bm), .map (some lm), .int .i64 now, .int .u64 (cnt : Nat)], Res.mp Value.string ekI bm kb, Res.mp ekU leaV lm kl, Res.row wb 30 [.int .i64 now, .int .u64 (cnt : Nat), bv, lv], Res.vec 62 2 bv bs.length (bs.flatMap BudD.cells), Res.vec 49 5 lv ls.length (ls.flatMap LeaD.cells)]) [Res.mp Value.string ekI bm kb, Res.vec 62 2 bv bs.length (bs.flatMap BudD.cells), Res.row b5 33 (QActD.cells a), Res.row b 58 [.map (some bm), .map (some lm), .int .i64 now, .int .u64 (cnt : Nat)], Res.mp ekU leaV lm kl'36_, Res.row b23 49 (LeaD.cells x34_), Res.row wb 30 [.int .i64 now, .int .u64 (cnt : Nat), bv, lv'39_], Res.vec 49 5 lv'39_ ls'40_.length (ls'40_.flatMap LeaD.cells)])) w1 (hw.frameL [1, 3] rfl hO)
            refine l_mv rfl ?_
            refine l_ext (vs := [.agg (LeaD.cells x37_).toArray, .int .i64 e38_]) rfl rfl rfl ?_
            refine l_ext (vs := [.agg (LeaD.cells x37_).toArray, .int .i64 e38_]) rfl rfl rfl ?_
            refine l_new (v := .agg #[.int .u64 (0 : Nat), .int .u64 (0 : Nat), .string (⟨#[]⟩ : ByteArray), .int .i64 0, .int .i64 0]) (by kernel_rfl) rfl (fun b25 => ?_)
            refine l_stN (cs := [.int .u64 (0 : Nat), .int .u64 (0 : Nat), .string (⟨#[]⟩ : ByteArray), .int .i64 0, .int .i64 0]) (vs := [.int .u64 (x37_.id : Nat), .int .u64 (x37_.session : Nat), .string x37_.key, .int .i64 x37_.amount, .int .i64 x37_.until_]) 8 rfl rfl rfl (by kernel_rfl) (allc_cons rfl (allc_cons rfl (allc_cons rfl (allc_cons rfl (allc_cons rfl allc_nil))))) (Nat.le_of_ble_eq_true rfl) ?_
            refine l_as rfl ?_
            refine l_end ?_
            refine c_reg ?_
            refine l_ldr (cs := (LeaD.cells x34_)) 5 rfl rfl (by kernel_rfl) rfl ?_
            refine l_ldr (cs := (LeaD.cells x37_)) 8 rfl rfl (by kernel_rfl) rfl ?_
            refine l_val rfl (v_stp (LeaDEq x34_ x37_) (by kernel_rfl) (by kernel_rfl) rfl rfl rfl rfl) ?_
            refine l_mv rfl ?_
            refine l_band (q := x34_ = x37_) 3 3 [179, 178, 177] (e35_ = e38_) rfl rfl rfl rfl rfl rfl trivial rfl (fun h21_3 => ?_) (fun g21_7 => ?_)
            ·
              refine l_on rfl (gT h21_3) ?_
              refine l_mv rfl ?_
              refine l_on rfl (gT h21_3) ?_
              refine l_mv rfl ?_
              refine l_on rfl (gT h21_3) ?_
              refine l_eq rfl rfl rfl ?_
              exact l_nil (fun w' hw => ⟨(by repeat (first | exact Out.refl _ _ | refine Out.upd rfl ?_ | refine Out.msk rfl ?_)), rfl, hw⟩)
            refine l_as rfl ?_
            refine l_end ?_
            exact c_ret (ret1 (v := .bool (decide ((x34_ = x37_) ∧ (e35_ = e38_)))) rfl rfl (fun w' hw => ⟨now, cnt, kb, kl'36_, bv, lv'39_, bs, ls'40_, (by congr 1; exact decide_eq_true ⟨(back_rel ho hr hf19_5 hf20_5).1, (back_rel ho hr hf19_5 hf20_5).2.1⟩), (back_rel ho hr hf19_5 hf20_5).2.2.2, (back_rel ho hr hf19_5 hf20_5).2.2.1, Nat.le_succ _, (fun _ => back_lent ho hf20_5), id, hw.sel [3, 0, 4, 6, 1, 7] rfl (by decide)⟩))
          ·
            refine c_seq ?_
            refine c_reg ?_
            refine l_eq rfl rfl rfl ?_
            refine l_as rfl ?_
            refine l_end ?_
            refine c_dec rfl (fun c6 => ?_) (fun c6 => ?_)
            ·
              refine c_skipC ?_
              refine c_dec rfl (fun c7 => ?_) (fun c7 => ?_)
              ·
                refine c_reg ?_
                refine l_as rfl ?_
                refine l_end ?_
                exact c_ret (ret1 (v := .bool true) rfl rfl (fun w' hw => ⟨now, cnt, kb, kl, bv, lv, bs, ls, rfl, ho, hr, Nat.le_succ _, (fun _ => Less.refl _), id, hw.sel [0, 1, 2, 3, 4, 5] rfl (by decide)⟩))
              ·
                refine c_skipC ?_
                refine c_reg ?_
                refine l_mv rfl ?_
                refine l_fld (o := 1) rfl (by kernel_rfl) rfl ?_
                refine l_ldo 6 (v := .string a.key) rfl rfl rfl (by kernel_rfl) rfl ?_
                refine l_call (by kernel_rfl) rfl rfl (fun w' hw => ?_)
                refine (tlent_s b bm lm now cnt kb kl a.key w' (hw.give [0, 1, 2] rfl (by decide))).mono ?_
                rintro _ w1 ⟨n41_, rfl, hf25_3, hO⟩
                refine (?_ : CL _ _ _ _ _ _ (Own w (fps [Res.row b 58 [.map (some bm), .map (some lm), .int .i64 now, .int .u64 (cnt : Nat)], Res.mp Value.string ekI bm kb, Res.mp ekU leaV lm kl, Res.row wb 30 [.int .i64 now, .int .u64 (cnt : Nat), bv, lv], Res.vec 62 2 bv bs.length (bs.flatMap BudD.cells), Res.vec 49 5 lv ls.length (ls.flatMap LeaD.cells)]) [Res.row wb 30 [.int .i64 now, .int .u64 (cnt : Nat), bv, lv], Res.vec 62 2 bv bs.length (bs.flatMap BudD.cells), Res.vec 49 5 lv ls.length (ls.flatMap LeaD.cells), Res.row b5 33 (QActD.cells a), Res.row b 58 [.map (some bm), .map (some lm), .int .i64 now, .int .u64 (cnt : Nat)], Res.mp Value.string ekI bm kb, Res.mp ekU leaV lm kl])) w1 (hw.frameL [0, 1, 2] rfl hO)
                refine l_mv rfl ?_
                refine l_ext (vs := [.int .i64 ((getA a.key kb).getD 0), .int .i64 n41_]) rfl rfl rfl ?_
                refine l_ext (vs := [.int .i64 ((getA a.key kb).getD 0), .int .i64 n41_]) rfl rfl rfl ?_
                refine l_as rfl ?_
                refine l_as rfl ?_
                refine l_end ?_
                refine c_reg ?_
                refine l_mv rfl ?_
                refine l_fld (o := 1) rfl (by kernel_rfl) rfl ?_
                refine l_ldo 3 (v := .string a.key) rfl rfl rfl (by kernel_rfl) rfl ?_
                refine l_call (by kernel_rfl) rfl rfl (fun w' hw => ?_)
                refine (rlent_s wb now cnt bv lv bs ls a.key w' (by first | assumption | omega | (simp <;> omega) | (constructor <;> (first | omega | (simp only [LenOk]; omega) | (simp <;> omega)))) (hw.give [0, 1, 2] rfl (by decide))).mono ?_
                rintro _ w1 ⟨rfl, hO⟩
                refine (?_ : CL _ _ _ _ _ _ (Own w (fps [Res.row b 58 [.map (some bm), .map (some lm), .int .i64 now, .int .u64 (cnt : Nat)], Res.mp Value.string ekI bm kb, Res.mp ekU leaV lm kl, Res.row wb 30 [.int .i64 now, .int .u64 (cnt : Nat), bv, lv], Res.vec 62 2 bv bs.length (bs.flatMap BudD.cells), Res.vec 49 5 lv ls.length (ls.flatMap LeaD.cells)]) [Res.row b5 33 (QActD.cells a), Res.row b 58 [.map (some bm), .map (some lm), .int .i64 now, .int .u64 (cnt : Nat)], Res.mp Value.string ekI bm kb, Res.mp ekU leaV lm kl, Res.row wb 30 [.int .i64 now, .int .u64 (cnt : Nat), bv, lv], Res.vec 62 2 bv bs.length (bs.flatMap BudD.cells), Res.vec 49 5 lv ls.length (ls.flatMap LeaD.cells)])) w1 (hw.frameL [0, 1, 2] rfl hO)
                refine l_mv rfl ?_
                refine l_ext (vs := [.int .i64 (budOf a.key bs), .int .i64 (lentW a.key ls)]) rfl rfl rfl ?_
                refine l_ext (vs := [.int .i64 (budOf a.key bs), .int .i64 (lentW a.key ls)]) rfl rfl rfl ?_
                refine l_as rfl ?_
                refine l_as rfl ?_
                refine l_end ?_
                refine c_reg ?_
                refine l_mv rfl ?_
                refine l_mv rfl ?_
                refine l_eq rfl rfl rfl ?_
                refine l_mv rfl ?_
                refine l_band (q := ((getA a.key kb).getD 0) = (budOf a.key bs)) 3 3 [204, 203, 202] (n41_ = (lentW a.key ls)) rfl rfl rfl rfl rfl rfl trivial rfl (fun h27_3 => ?_) (fun g27_7 => ?_)
                ·
                  refine l_on rfl (gT h27_3) ?_
                  refine l_mv rfl ?_
                  refine l_on rfl (gT h27_3) ?_
                  refine l_mv rfl ?_
                  refine l_on rfl (gT h27_3) ?_
                  refine l_eq rfl rfl rfl ?_
                  exact l_nil (fun w' hw => ⟨(by repeat (first | exact Out.refl _ _ | refine Out.upd rfl ?_ | refine Out.msk rfl ?_)), rfl, hw⟩)
                refine l_as rfl ?_
                refine l_end ?_
                exact c_ret (ret1 (v := .bool (decide ((((getA a.key kb).getD 0) = (budOf a.key bs)) ∧ (n41_ = (lentW a.key ls))))) rfl rfl (fun w' hw => ⟨now, cnt, kb, kl, bv, lv, bs, ls, (by congr 1; exact decide_eq_true ⟨ho.bud hr _, hf25_3.trans (hr.lent _)⟩), ho, hr, Nat.le_succ _, (fun _ => Less.refl _), id, hw.sel [1, 2, 3, 4, 5, 6] rfl (by decide)⟩))
            ·
              refine c_last ?_
              refine l_eq rfl rfl rfl ?_
              refine l_as rfl ?_
              refine l_end ?_
              refine c_dec rfl (fun c8 => ?_) (fun c8 => ?_)
              ·
                refine c_reg ?_
                refine l_as rfl ?_
                refine l_end ?_
                exact c_ret (ret1 (v := .bool true) rfl rfl (fun w' hw => ⟨now, cnt, kb, kl, bv, lv, bs, ls, rfl, ho, hr, Nat.le_succ _, (fun _ => Less.refl _), id, hw.sel [0, 1, 2, 3, 4, 5] rfl (by decide)⟩))
              ·
                refine c_skipC ?_
                refine c_reg ?_
                refine l_mv rfl ?_
                refine l_fld (o := 1) rfl (by kernel_rfl) rfl ?_
                refine l_ldo 6 (v := .string a.key) rfl rfl rfl (by kernel_rfl) rfl ?_
                refine l_call (by kernel_rfl) rfl rfl (fun w' hw => ?_)
                refine (tlent_s b bm lm now cnt kb kl a.key w' (hw.give [0, 1, 2] rfl (by decide))).mono ?_
                rintro _ w1 ⟨n42_, rfl, hf25_3, hO⟩
                refine (?_ : CL _ _ _ _ _ _ (Own w (fps [Res.row b 58 [.map (some bm), .map (some lm), .int .i64 now, .int .u64 (cnt : Nat)], Res.mp Value.string ekI bm kb, Res.mp ekU leaV lm kl, Res.row wb 30 [.int .i64 now, .int .u64 (cnt : Nat), bv, lv], Res.vec 62 2 bv bs.length (bs.flatMap BudD.cells), Res.vec 49 5 lv ls.length (ls.flatMap LeaD.cells)]) [Res.row wb 30 [.int .i64 now, .int .u64 (cnt : Nat), bv, lv], Res.vec 62 2 bv bs.length (bs.flatMap BudD.cells), Res.vec 49 5 lv ls.length (ls.flatMap LeaD.cells), Res.row b5 33 (QActD.cells a), Res.row b 58 [.map (some bm), .map (some lm), .int .i64 now, .int .u64 (cnt : Nat)], Res.mp Value.string ekI bm kb, Res.mp ekU leaV lm kl])) w1 (hw.frameL [0, 1, 2] rfl hO)
                refine l_mv rfl ?_
                refine l_ext (vs := [.int .i64 ((getA a.key kb).getD 0), .int .i64 n42_]) rfl rfl rfl ?_
                refine l_ext (vs := [.int .i64 ((getA a.key kb).getD 0), .int .i64 n42_]) rfl rfl rfl ?_
                refine l_as rfl ?_
                refine l_as rfl ?_
                refine l_end ?_
                refine c_reg ?_
                refine l_mv rfl ?_
                refine l_fld (o := 1) rfl (by kernel_rfl) rfl ?_
                refine l_ldo 3 (v := .string a.key) rfl rfl rfl (by kernel_rfl) rfl ?_
                refine l_call (by kernel_rfl) rfl rfl (fun w' hw => ?_)
                refine (rlent_s wb now cnt bv lv bs ls a.key w' (by first | assumption | omega | (simp <;> omega) | (constructor <;> (first | omega | (simp only [LenOk]; omega) | (simp <;> omega)))) (hw.give [0, 1, 2] rfl (by decide))).mono ?_
                rintro _ w1 ⟨rfl, hO⟩
                refine (?_ : CL _ _ _ _ _ _ (Own w (fps [Res.row b 58 [.map (some bm), .map (some lm), .int .i64 now, .int .u64 (cnt : Nat)], Res.mp Value.string ekI bm kb, Res.mp ekU leaV lm kl, Res.row wb 30 [.int .i64 now, .int .u64 (cnt : Nat), bv, lv], Res.vec 62 2 bv bs.length (bs.flatMap BudD.cells), Res.vec 49 5 lv ls.length (ls.flatMap LeaD.cells)]) [Res.row b5 33 (QActD.cells a), Res.row b 58 [.map (some bm), .map (some lm), .int .i64 now, .int .u64 (cnt : Nat)], Res.mp Value.string ekI bm kb, Res.mp ekU leaV lm kl, Res.row wb 30 [.int .i64 now, .int .u64 (cnt : Nat), bv, lv], Res.vec 62 2 bv bs.length (bs.flatMap BudD.cells), Res.vec 49 5 lv ls.length (ls.flatMap LeaD.cells)])) w1 (hw.frameL [0, 1, 2] rfl hO)
                refine l_mv rfl ?_
                refine l_ext (vs := [.int .i64 (budOf a.key bs), .int .i64 (lentW a.key ls)]) rfl rfl rfl ?_
                refine l_ext (vs := [.int .i64 (budOf a.key bs), .int .i64 (lentW a.key ls)]) rfl rfl rfl ?_
                refine l_as rfl ?_
                refine l_as rfl ?_
                refine l_end ?_
                refine c_reg ?_
                refine l_mv rfl ?_
                refine l_mv rfl ?_
                refine l_eq rfl rfl rfl ?_
                refine l_mv rfl ?_
                refine l_band (q := ((getA a.key kb).getD 0) = (budOf a.key bs)) 3 3 [204, 203, 202] (n42_ = (lentW a.key ls)) rfl rfl rfl rfl rfl rfl trivial rfl (fun h27_3 => ?_) (fun g27_7 => ?_)
                ·
                  refine l_on rfl (gT h27_3) ?_
                  refine l_mv rfl ?_
                  refine l_on rfl (gT h27_3) ?_
                  refine l_mv rfl ?_
                  refine l_on rfl (gT h27_3) ?_
                  refine l_eq rfl rfl rfl ?_
                  exact l_nil (fun w' hw => ⟨(by repeat (first | exact Out.refl _ _ | refine Out.upd rfl ?_ | refine Out.msk rfl ?_)), rfl, hw⟩)
                refine l_as rfl ?_
                refine l_end ?_
                exact c_ret (ret1 (v := .bool (decide ((((getA a.key kb).getD 0) = (budOf a.key bs)) ∧ (n42_ = (lentW a.key ls))))) rfl rfl (fun w' hw => ⟨now, cnt, kb, kl, bv, lv, bs, ls, (by congr 1; exact decide_eq_true ⟨ho.bud hr _, hf25_3.trans (hr.lent _)⟩), ho, hr, Nat.le_succ _, (fun _ => Less.refl _), id, hw.sel [1, 2, 3, 4, 5, 6] rfl (by decide)⟩))
theorem ansE : lendEK 1 (⟨#[107]⟩ : ByteArray) 5 9 (setK ⟨#[107]⟩ 5 []) [] = 0 := by decide
theorem answers_s (w : World) : Rets Tryz.prog 6 #[] w fun u_ w' => u_ = .bool true ∧ Own w [] [] w' := by
  refine fn_enter (args := []) Tryz.func6 rfl Tryz.ntmps6 rfl (Own.start w) ?_
  refine c_reg ?_
  refine l_as rfl ?_
  refine l_end ?_
  refine c_reg ?_
  refine l_call (by kernel_rfl) rfl rfl (fun w' hw => ?_)
  refine (new_s w').mono ?_
  rintro _ w1 ⟨b1_, bm2_, lm3_, rfl, hO⟩
  refine (?_ : CL _ _ _ _ _ _ (Own w [] [Res.row b1_ 58 [.map (some bm2_), .map (some lm3_), .int .i64 0, .int .u64 (0 : Nat)], Res.mp Value.string ekI bm2_ ([] : List (ByteArray × Int)), Res.mp ekU leaV lm3_ ([] : List (Nat × LeaD))])) w1 (hw.frame0 hO)
  refine l_as rfl ?_
  refine l_end ?_
  refine c_seq ?_
  refine c_reg ?_
  refine l_mv rfl ?_
  refine l_nilp (by kernel_rfl) rfl rfl rfl ?_
  refine l_end ?_
  refine c_no rfl ?_
  refine c_skipC ?_
  refine c_reg ?_
  refine l_mv rfl ?_
  refine l_call (by kernel_rfl) rfl rfl (fun w' hw => ?_)
  refine (set_s b1_ bm2_ lm3_ 0 0 [] [] (⟨#[107]⟩ : ByteArray) 5 w' (hw.give [0, 1, 2] rfl (by decide))).mono ?_
  rintro _ w1 ⟨n4_, e5_, kb'6_, rfl, hf4_1, hf4_1_1, hf4_1_2, hO⟩
  refine (?_ : CL _ _ _ _ _ _ (Own w [] [Res.row b1_ 58 [.map (some bm2_), .map (some lm3_), .int .i64 0, .int .u64 (0 : Nat)], Res.mp Value.string ekI bm2_ kb'6_, Res.mp ekU leaV lm3_ ([] : List (Nat × LeaD))])) w1 (hw.frameL [0, 1, 2] rfl hO)
  refine l_mv rfl ?_
  refine l_ext (vs := [.int .i64 n4_, .int .i64 e5_]) rfl rfl rfl ?_
  refine l_ext (vs := [.int .i64 n4_, .int .i64 e5_]) rfl rfl rfl ?_
  refine l_as rfl ?_
  refine l_as rfl ?_
  refine l_end ?_
  refine c_reg ?_
  refine l_mv rfl ?_
  refine l_call (by kernel_rfl) rfl rfl (fun w' hw => ?_)
  refine (lend_s b1_ bm2_ lm3_ 0 0 kb'6_ [] 1 (⟨#[107]⟩ : ByteArray) 5 9 w' (by rw [show lentK _ ([] : List (Nat × LeaD)) = 0 from rfl]; omega) (by first | assumption | omega | (simp <;> omega) | (constructor <;> (first | omega | (simp only [LenOk]; omega) | (simp <;> omega)))) (by first | assumption | omega | (simp <;> omega) | (constructor <;> (first | omega | (simp only [LenOk]; omega) | (simp <;> omega)))) (by first | assumption | omega | (simp <;> omega) | (constructor <;> (first | omega | (simp only [LenOk]; omega) | (simp <;> omega)))) (hw.give [0, 1, 2] rfl (by decide))).mono ?_
  rintro _ w1 ⟨x7_, e8_, cnt'9_, kl'10_, rfl, hf5_1, hf5_1_1, hf5_1_2, hf5_1_3, hO⟩
  refine (?_ : CL _ _ _ _ _ _ (Own w [] [Res.row b1_ 58 [.map (some bm2_), .map (some lm3_), .int .i64 0, .int .u64 (cnt'9_ : Nat)], Res.mp Value.string ekI bm2_ kb'6_, Res.mp ekU leaV lm3_ kl'10_])) w1 (hw.frameL [0, 1, 2] rfl hO)
  refine l_mv rfl ?_
  refine l_ext (vs := [.agg (LeaD.cells x7_).toArray, .int .i64 e8_]) rfl rfl rfl ?_
  refine l_ext (vs := [.agg (LeaD.cells x7_).toArray, .int .i64 e8_]) rfl rfl rfl ?_
  refine l_new (v := .agg #[.int .u64 (0 : Nat), .int .u64 (0 : Nat), .string (⟨#[]⟩ : ByteArray), .int .i64 0, .int .i64 0]) (by kernel_rfl) rfl (fun b4 => ?_)
  refine l_stN (cs := [.int .u64 (0 : Nat), .int .u64 (0 : Nat), .string (⟨#[]⟩ : ByteArray), .int .i64 0, .int .i64 0]) (vs := [.int .u64 (x7_.id : Nat), .int .u64 (x7_.session : Nat), .string x7_.key, .int .i64 x7_.amount, .int .i64 x7_.until_]) 3 rfl rfl rfl (by kernel_rfl) (allc_cons rfl (allc_cons rfl (allc_cons rfl (allc_cons rfl (allc_cons rfl allc_nil))))) (Nat.le_of_ble_eq_true rfl) ?_
  refine l_as rfl ?_
  refine l_end ?_
  refine c_reg ?_
  refine l_mv rfl ?_
  refine l_eq rfl rfl rfl ?_
  refine l_mv rfl ?_
  refine l_band (q := e5_ = 0) 2 2 [23, 22] (e8_ = 0) rfl rfl rfl rfl rfl rfl trivial rfl (fun h6_2 => ?_) (fun g6_5 => ?_)
  ·
    refine l_on rfl (gT h6_2) ?_
    refine l_mv rfl ?_
    refine l_on rfl (gT h6_2) ?_
    refine l_eq rfl rfl rfl ?_
    exact l_nil (fun w' hw => ⟨(by repeat (first | exact Out.refl _ _ | refine Out.upd rfl ?_ | refine Out.msk rfl ?_)), rfl, hw⟩)
  refine l_mv rfl ?_
  refine l_band (q := (e5_ = 0) ∧ (e8_ = 0)) 3 6 [28, 27, 26] (((x7_.id : Nat) : Int) = ((1 : Nat) : Int)) rfl rfl rfl rfl rfl rfl trivial rfl (fun h6_6 => ?_) (fun g6_10 => ?_)
  ·
    refine l_on rfl (gT h6_6) ?_
    refine l_fld (o := 0) rfl (by kernel_rfl) rfl ?_
    refine l_on rfl (gT h6_6) ?_
    refine l_ldo 3 (v := .int .u64 (x7_.id : Nat)) rfl rfl rfl (by kernel_rfl) rfl ?_
    refine l_on rfl (gT h6_6) ?_
    refine l_eq rfl rfl rfl ?_
    exact l_nil (fun w' hw => ⟨(by repeat (first | exact Out.refl _ _ | refine Out.upd rfl ?_ | refine Out.msk rfl ?_)), rfl, hw⟩)
  refine l_mv rfl ?_
  refine l_band (q := ((e5_ = 0) ∧ (e8_ = 0)) ∧ (((x7_.id : Nat) : Int) = ((1 : Nat) : Int))) 3 11 [33, 32, 31] (x7_.until_ = 9) rfl rfl rfl rfl rfl rfl trivial rfl (fun h6_11 => ?_) (fun g6_15 => ?_)
  ·
    refine l_on rfl (gT h6_11) ?_
    refine l_fld (o := 4) rfl (by kernel_rfl) rfl ?_
    refine l_on rfl (gT h6_11) ?_
    refine l_ldo 3 (v := .int .i64 x7_.until_) rfl rfl rfl (by kernel_rfl) rfl ?_
    refine l_on rfl (gT h6_11) ?_
    refine l_eq rfl rfl rfl ?_
    exact l_nil (fun w' hw => ⟨(by repeat (first | exact Out.refl _ _ | refine Out.upd rfl ?_ | refine Out.msk rfl ?_)), rfl, hw⟩)
  refine l_as rfl ?_
  refine l_end ?_
  exact c_ret (ret1 (v := .bool (decide ((((e5_ = 0) ∧ (e8_ = 0)) ∧ (((x7_.id : Nat) : Int) = ((1 : Nat) : Int))) ∧ (x7_.until_ = 9)))) rfl rfl (fun w' hw => ⟨(by congr 1; refine decide_eq_true ?_; rw [hf5_1_1, hf5_1, hf4_1_1, ansE, hf4_1]; decide), hw.drop⟩))
end Go.Proofs.YtgkeoenbcjfeaaaGreat
